import Derived.Test.YteceenlfegnigaaGreatDoorZtTellsc
import Derived.Lib.AppendStr
import Derived.Lib.UnsafeStr
import Derived.Lib.Builder
import Derived.RecoverIn
set_option maxRecDepth 100000
namespace Go.SL
set_option linter.all false
open Go Go.RowKit Go.Shelf
section
variable {c : Cx} {l : Kn} {L : Jr} {X : XP} {Q : Exit → Act → World → Prop} {d : List Deferred}
variable {ops : Array Oper} {rest : List Oper} {i : Nat} {v : Value} {t u : TypeId} {ps : String} {af : Array Edge} {gd : Option (Nat × Bool)} {ty : TypeId}
theorem Jw7 (s : List UInt8) : (bs s).size = s.length := by simp [bs, ByteArray.size]
theorem qH (s : List UInt8) : Lib.strCells (bs s) = s.map bV := rfl
theorem Je7 {x y : Operand} {e : TypeId} {s s2 : List UInt8} {L0 : Jr} {row : Vz}
    (hp : L.Perm (JY e (s.map bV) row ++ L0)) (hg : Kj l ops ⟨some i, .call ⟨.builtin .append, #[x, y], #[t, u]⟩, ty, ps, af, gd⟩ = some true) (hi : Nat.ble (i + 1) c.n = true)
    (hx : Ke l x = some (JF s.length row)) (hy : Ke l y = some (.string (bs s2))) (ht : Kl c.P t = some e) (hu : vJ c.P u = true) (hz : QE c.P e = some (.int .u8 0)) (hs : KF c.P e = some 1) (hb : Jaz c.P e = some 1)
    (ho : rowOk 1 s.length (s.map bV) row) (ho2 : s = [] → row = none) (hlen : s.length + s2.length ≤ 140737488355328)
    (h : ∀ row', rowOk 1 (s ++ s2).length ((s ++ s2).map bV) row' → (s ++ s2 = [] → row' = none) → HL c d ((i, JF (s ++ s2).length row') :: l) (JY e ((s ++ s2).map bV) row' ++ L0) X ops rest Q) :
    HL c d l L X ops (⟨some i, .call ⟨.builtin .append, #[x, y], #[t, u]⟩, ty, ps, af, gd⟩ :: rest) Q := by
  obtain ⟨inf, hinf, hz', hs', hb'⟩ := qZ hz hs hb
  refine KH hp ?_
  refine Wa (α := { r' : Vz // rowOk 1 (s ++ s2).length ((s ++ s2).map bV) r' ∧ (s ++ s2 = [] → r' = none) }) (V := fun p => JF (s ++ s2).length p.1) (L' := fun p => JY e ((s ++ s2).map bV) p.1 ++ L0) (X' := fun _ => X) hg rfl rfl hi (fun a w hf hst => ?_) (fun p => h p.1 p.2.1 p.2.2)
  have exec : ∀ r w', (Builtin.append_ #[t, u] ty #[JF s.length row, .string (bs s2)]).run c.P w = .ok r w' →
      (execOp a.eval ⟨some i, .call ⟨.builtin .append, #[x, y], #[t, u]⟩, ty, ps, af, gd⟩).run c.P w = .ok (.value r) w' := fun r w' hr => by
    have ex := hf.eval hx
    have ey := hf.eval hy
    simp [execOp, resolve, Sem.run_bind, ex, ey, Result.andThen, invoke, builtin, hr]
  have hsz := Jw7 s2
  have hsl : (s ++ s2).length = s.length + s2.length := List.length_append
  have hml : ((s ++ s2).map bV).length = s.length + s2.length := by rw [List.length_map, hsl]
  have hz1 : (Value.int IntKind.u8 0).cells.size = 1 := rfl
  have zlen : ∀ n, (Builtin.zeroCells (Value.int IntKind.u8 0).cells n).toList.length = n := fun n => by rw [Array.length_toList, size_zeroCells, hz1, Nat.mul_one]
  cases row with
  | none =>
    obtain ⟨h1, h2⟩ := ho
    have hs0 : s = [] := List.eq_nil_of_length_eq_zero h1
    subst hs0
    cases s2 with
    | nil =>
      refine ⟨⟨none, ⟨rfl, rfl⟩, fun _ => rfl⟩, w, exec _ _ ?_, hst⟩
      have hf2 := Lib.run_firstCells_string (P := c.P) w 1 (bs [])
      have h0 : (bs []).size = 0 := rfl
      rw [h0] at hf2
      simp [Builtin.append_, JF, run_underlying (Kc ht), run_underlying (Vk hu), sizeOf, typeInfo, hinf, hs', Builtin.lenOf, h0, hf2]
    | cons b s2 =>
      have hr := run_append_nil_string (P := c.P) w t u ty e inf (.int .u8 0) (Kc ht) (Vk hu) hinf hz' (bs (b :: s2)) (by rw [hsz]; simp) (by rw [hsz]; simp at hlen ⊢; omega) (by rw [hsz, hb']; simp at hlen ⊢; omega)
      rw [hsz] at hr
      have hge := grownCap_ge w (b :: s2).length 0 e
      refine ⟨⟨some (w.heap.size, grownCap w (b :: s2).length 0 e, (Builtin.zeroCells (Value.int IntKind.u8 0).cells (grownCap w (b :: s2).length 0 e - (b :: s2).length)).toList), ⟨?_, ?_⟩, fun h0 => by simp at h0⟩, _, exec _ _ hr, ?_⟩
      · simp
      · rw [zlen]; simp only [List.nil_append]; omega
      · have e1 : ((bs (b :: s2)).data.map (fun b => Value.int .u8 b.toNat) ++ Builtin.zeroCells (Value.int IntKind.u8 0).cells (grownCap w (b :: s2).length 0 e - (b :: s2).length)) = ((([] ++ (b :: s2)).map bV) ++ (Builtin.zeroCells (Value.int IntKind.u8 0).cells (grownCap w (b :: s2).length 0 e - (b :: s2).length)).toList).toArray := by
          apply Array.toList_inj.1; simp [bs, bV]
        rw [e1]
        exact hst.drew.alloc _
  | some q =>
    obtain ⟨r, cap, sp⟩ := q
    obtain ⟨h1, h2⟩ := ho
    have hget : w.heap[r]? = some (.cells (s.map bV ++ sp).toArray e (0, 0)) := hst.get (k := 0) rfl
    have hne : s ++ s2 ≠ [] := fun h0 => by have := ho2 (List.append_eq_nil_iff.1 h0).1; cases this
    by_cases hroom : s.length + s2.length ≤ cap
    · have hr := Lib.run_append_room_string (P := c.P) w t u ty e inf (Kc ht) (Vk hu) hinf hs' r s.length cap _ hget (bs s2) (by rw [hsz]; exact hroom) (by rw [hsz]; simp only [List.size_toArray, List.length_append, List.length_map]; omega)
      rw [hsz, qH] at hr
      have e1 : ((s.map bV ++ sp).toArray.toList.take s.length ++ s2.map bV ++ (s.map bV ++ sp).toArray.toList.drop (s.length + s2.length)) = (s ++ s2).map bV ++ sp.drop s2.length := by
        simp only [List.toList_toArray]
        rw [List.take_left' (by simp), List.map_append, ← List.drop_drop, List.drop_left' (by simp)]
      rw [e1] at hr
      have hV : JF (s ++ s2).length (some (r, cap, sp.drop s2.length)) = .slice (some ⟨r, 0, none⟩) (s.length + s2.length) cap := by rw [JF, hsl]
      refine ⟨⟨some (r, cap, sp.drop s2.length), ⟨?_, ?_⟩, fun h0 => absurd h0 hne⟩, _, exec _ _ (hr.trans (congrArg (fun v => Result.ok v _) hV.symm)), ?_⟩
      · rw [hml, hsl]; omega
      · rw [List.length_drop, hsl]; omega
      · exact hst.set (k := 0) rfl (Keep.setRow r _) (setRow_heap _ _ _ _ _ _ hget)
    · have holds : ∀ (j : Nat) (x : Value), (s.map bV)[j]? = some x → w.cell? ((⟨r, 0, none⟩ : Addr).add j) = some x := Xj hget (n := s.length) (by simp)
      have hr := Lib.run_append_grow_string (P := c.P) w t u ty e inf (.int .u8 0) (Kc ht) (Vk hu) hinf hz' ⟨r, 0, none⟩ s.length cap (s.map bV) (by rw [hs']; simp) holds (bs s2) (by rw [hsz]; omega) (by rw [hsz]; omega) (by rw [hsz, hb']; exact growslice_fits (by omega) (by omega))
      rw [hsz, qH] at hr
      have hge := grownCap_ge w (s.length + s2.length) cap e
      refine ⟨⟨some (w.heap.size, grownCap w (s.length + s2.length) cap e, (Builtin.zeroCells (Value.int IntKind.u8 0).cells (grownCap w (s.length + s2.length) cap e - (s.length + s2.length))).toList), ⟨?_, ?_⟩, fun h0 => absurd h0 hne⟩, _, exec _ _ (hr.trans (congrArg (fun v => Result.ok v _) (show _ = JF (s ++ s2).length (some (w.heap.size, grownCap w (s.length + s2.length) cap e, (Builtin.zeroCells (Value.int IntKind.u8 0).cells (grownCap w (s.length + s2.length) cap e - (s.length + s2.length))).toList)) from by rw [JF, hsl]))), ?_⟩
      · rw [hml, hsl]; omega
      · rw [zlen, hsl]; omega
      · have e1 : ((s.map bV).toArray ++ (s2.map bV).toArray ++ Builtin.zeroCells (Value.int IntKind.u8 0).cells (grownCap w (s.length + s2.length) cap e - (s.length + s2.length))) = ((s ++ s2).map bV ++ (Builtin.zeroCells (Value.int IntKind.u8 0).cells (grownCap w (s.length + s2.length) cap e - (s.length + s2.length))).toList).toArray := by
          apply Array.toList_inj.1; simp
        rw [e1]
        exact (hst.drew.weakL (List.sublist_cons_self _ _)).alloc _
theorem Keep.freeze {w : World} (r n : Nat) : Keep [r] w (w.freeze ⟨r, 0, none⟩ n) := by
  unfold World.freeze
  split
  · exact Keep.refl _ _
  · exact ⟨rfl, rfl, rfl, by simp, fun k _ hn => by
      simp only [Array.getElem?_modify]
      rw [if_neg (by intro e; exact hn (by simp [e]))]⟩
theorem Jcs {w : World} {r n : Nat} {cs : Array Value} {e : TypeId} {fr : Nat × Nat} (h : w.heap[r]? = some (.cells cs e fr)) : ∃ fr', (w.freeze ⟨r, 0, none⟩ n).heap[r]? = some (.cells cs e fr') := by
  unfold World.freeze
  split
  · exact ⟨fr, h⟩
  · obtain ⟨lo, hi⟩ := fr
    obtain ⟨hlt, he⟩ := Array.getElem?_eq_some_iff.1 h
    refine ⟨if lo == hi then (0, 0 + n) else (min lo 0, max hi (0 + n)), ?_⟩
    show (w.heap.modify r _)[r]? = _
    rw [Array.getElem?_eq_getElem (by rw [Array.size_modify]; exact hlt), Array.getElem_modify_self, he]
def Jct : Vz → Value
  | none => .pointer none
  | some (r, _, _) => .pointer (some ⟨r, 0, none⟩)
theorem xK {x : Operand} {row : Vz} {n : Nat} (hx : Ke l x = some (JF n row)) (hc : ∀ r cap sp, row = some (r, cap, sp) → cap ≠ 0) :
    J7 c d l L X ⟨some i, .call ⟨.builtin .unsafeSliceData, #[x], #[t]⟩, ty, ps, af, gd⟩ (Jct row) := fun a w hf _ => by
  have ex := hf.eval hx
  cases row with
  | none =>
    have hr := Lib.run_unsafeSliceData_nil (P := c.P) w #[t] ty 0 0
    simp only [JF] at ex
    simp [execOp, resolve, Sem.run_bind, ex, Result.andThen, invoke, builtin, hr, Jct]
  | some q =>
    obtain ⟨r, cap, sp⟩ := q
    have hr := Lib.run_unsafeSliceData_row (P := c.P) w #[t] ty ⟨r, 0, none⟩ n cap (hc r cap sp rfl)
    simp only [JF] at ex
    simp [execOp, resolve, Sem.run_bind, ex, Result.andThen, invoke, builtin, hr, Jct]
def qI (P : Program) (t : TypeId) : Option TypeId := match P.underlying t with | some (.pointer e) => some e | _ => none
theorem Zv {P : Program} {t e : TypeId} (h : qI P t = some e) : P.underlying t = some (.pointer e) := by
  unfold qI at h; split at h <;> simp_all
theorem qT {x y : Operand} {e pt it : TypeId} {s : List UInt8} {L0 : Jr} {row : Vz}
    (hp : L.Perm (JY e (s.map bV) row ++ L0)) (hg : Kj l ops ⟨some i, .call ⟨.builtin .unsafeString, #[x, y], #[pt, it]⟩, ty, ps, af, gd⟩ = some true) (hi : Nat.ble (i + 1) c.n = true)
    (hx : Ke l x = some (Jct row)) (hy : Ke l y = some (.int .i64 (s.length : Int))) (ht : qI c.P pt = some e) (hc : c.P.cellsOf e = 1)
    (ho : rowOk 1 s.length (s.map bV) row) (ho2 : s = [] → row = none) (hlen : s.length ≤ 9223372036854775807)
    (h : HL c d ((i, .string (bs s)) :: l) L0 X ops rest Q) : HL c d l L X ops (⟨some i, .call ⟨.builtin .unsafeString, #[x, y], #[pt, it]⟩, ty, ps, af, gd⟩ :: rest) Q := by
  refine KH hp ?_
  refine Wa (α := Unit) (V := fun _ => .string (bs s)) (L' := fun _ => L0) (X' := fun _ => X) hg rfl rfl hi (fun a w hf hst => ?_) (fun _ => h)
  have exec : ∀ r w', (Builtin.unsafeString_ #[pt, it] ty #[Jct row, .int .i64 s.length]).run c.P w = .ok r w' →
      (execOp a.eval ⟨some i, .call ⟨.builtin .unsafeString, #[x, y], #[pt, it]⟩, ty, ps, af, gd⟩).run c.P w = .ok (.value r) w' := fun r w' hr => by
    have ex := hf.eval hx
    have ey := hf.eval hy
    simp [execOp, resolve, Sem.run_bind, ex, ey, Result.andThen, invoke, builtin, hr]
  cases row with
  | none =>
    obtain ⟨h1, _⟩ := ho
    have hs0 : s = [] := List.eq_nil_of_length_eq_zero h1
    subst hs0
    exact ⟨(), w, exec _ _ (Lib.run_unsafeString_none (P := c.P) w pt it ty none), hst⟩
  | some q =>
    obtain ⟨r, cap, sp⟩ := q
    obtain ⟨h1, h2⟩ := ho
    have hget : w.heap[r]? = some (.cells (s.map bV ++ sp).toArray e (0, 0)) := hst.get (k := 0) rfl
    have hne : s ≠ [] := fun h0 => by have := ho2 h0; cases this
    have hcell : ∀ (j : Nat) (x : UInt8), s[j]? = some x → w.cell? ((⟨r, 0, none⟩ : Addr).add j) = some (.int .u8 x.toNat) := fun j x hx => by
      rw [jf, VZ hget]
      rw [Nat.zero_add, ← Array.getElem?_toList]
      simp only [List.toList_toArray]
      rw [List.getElem?_append_left (by rw [List.length_map]; exact (List.getElem?_eq_some_iff.1 hx).1), List.getElem?_map, hx]; rfl
    have hr := Lib.run_unsafeString_row (P := c.P) w pt it ty e (Zv ht) hc r (s.map bV ++ sp).length (by simp [World.shape?, hget]) s hne (by simp) hlen hcell
    obtain ⟨fr', hfr⟩ := Jcs (n := s.length) hget
    exact ⟨(), _, exec _ _ hr, (hst.set (k := 0) rfl (Keep.freeze r s.length) hfr).weakL (List.sublist_cons_self _ _)⟩
end
section
variable {c : Cx} {l : Kn} {L : Jr} {X : XP} {d : List Deferred}
variable {i : Nat} {v : Value} {t u : TypeId} {ps : String} {af : Array Edge} {gd : Option (Nat × Bool)} {ty t2 : TypeId}
def Jry (P : Program) (t : TypeId) : Bool := match P.underlying t with | some .unsafePointer => true | _ => false
theorem Jg8 {P : Program} {t : TypeId} (h : Jry P t = true) : P.underlying t = some .unsafePointer := by
  unfold Jry at h; split at h <;> simp_all
theorem j7 {P : Program} {t : TypeId} {sz : Nat} (h : KF P t = some sz) : ∃ inf, P.info? t = some inf ∧ inf.size = sz := by
  unfold KF at h
  cases hq : P.info? t with
  | none => simp [hq] at h
  | some inf => simp only [hq, Option.some.injEq] at h; exact ⟨inf, rfl, h⟩
theorem Je8 {x : Operand} {r sz e : Nat} {src dst tt : TypeId} {cs : Array Value} {fr : Nat × Nat} (hx : Ke l x = some (.pointer (some ⟨r, 0, none⟩))) (hk : known c L r (.cells cs e fr)) (hs : qI c.P src = some tt) (hd : Jry c.P dst = true) (ht : KF c.P tt = some sz) (h0 : 0 < sz) (hc : 0 < cs.size) :
    J7 c d l L X ⟨some i, .convert src dst x, ty, ps, af, gd⟩ (.pointer (some ⟨r, 0, none⟩)) := fun a w hf hst => by
  obtain ⟨inf, hinf, hsz⟩ := j7 ht
  have h := hst.known hk
  simp only [execOp]
  rw [hf.eval hx]
  have := Lib.run_to_unsafe (P := c.P) w (e := e) (cells := cs.size) ⟨r, 0, none⟩ (Zv hs) (Jg8 hd) hinf (by omega) (by simp [World.shape?, h]) hc
  simp only [Sem.run_bind, this]; rfl
theorem xM {x : Operand} {r sz e : Nat} {src dst tt : TypeId} {cs : Array Value} {fr : Nat × Nat} (hx : Ke l x = some (.pointer (some ⟨r, 0, none⟩))) (hk : known c L r (.cells cs e fr)) (hs : Jry c.P src = true) (hd : qI c.P dst = some tt) (ht : KF c.P tt = some sz) (hl : liesAt c.P c.P.depth e (cs.size / c.P.cellsOf e) 0 tt 1 = true) :
    J7 c d l L X ⟨some i, .convert src dst x, ty, ps, af, gd⟩ (.pointer (some ⟨r, 0, none⟩)) := fun a w hf hst => by
  obtain ⟨inf, hinf, hsz⟩ := j7 ht
  have h := hst.known hk
  simp only [execOp]
  rw [hf.eval hx]
  have := Lib.run_from_unsafe (P := c.P) w (e := e) (cells := cs.size) ⟨r, 0, none⟩ (Jg8 hs) (Zv hd) hinf (by simp [World.shape?, h]) hl
  simp only [Sem.run_bind, this]; rfl
theorem Je9 {x f : Operand} {v : Value} {g : FuncId} {fn : Func} {at_ : Array TypeId} (hf : Ke l f = some (.func (.func g) #[] #[])) (hx : Ke l x = some v)
    (hF : c.P.funcs[g]? = some fn) (hn1 : (fn.name == "runtime.NumGoroutine") = false) (hb : fn.body.isNone = true) (hn2 : Extern.findNext fn = none) (he : Extern.find fn = some Extern.AbiNoEscape.same) :
    J7 c d l L X ⟨some i, .call ⟨.value f, #[x], at_⟩, ty, ps, af, gd⟩ v := fun a w hfr hst => by
  have ef := hfr.eval hf
  have ex := hfr.eval hx
  have hcf : (callFunc g #[v]).run c.P w = .ok (.value v) w := by
    rw [run_callFunc_extern hF hn1 hb hn2 he, Lib.run_noEscape]; rfl
  simp [execOp, resolve, Sem.run_bind, ef, ex, Deferred.ofValue, Result.andThen, invoke, hcf]
theorem Jna {x y : Operand} {q : Addr} {sz : Nat} {tt : TypeId} (hx : Ke l x = some (.pointer (some q))) (hy : Ke l y = some (.pointer (some q))) (ht : qI c.P t = some tt) (hs : KF c.P tt = some sz) :
    J7 c d l L X ⟨some i, .binOp .neq t x y t2, ty, ps, af, gd⟩ (.bool false) := fun a w hf _ => by
  obtain ⟨inf, hinf, hsz⟩ := j7 hs
  simp only [execOp]
  rw [hf.eval hx, hf.eval hy]
  have := Lib.run_neq_ptr_same (P := c.P) w q (Zv ht) hinf
  simp [eqGuard, Sem.run_bind, this, Result.andThen]
theorem Jnb {x y : Operand} {tt : TypeId} {sz : Nat} (hx : Ke l x = some (.pointer none)) (hy : Ke l y = some (.pointer none)) (ht : qI c.P t = some tt) (hs : KF c.P tt = some sz) :
    J7 c d l L X ⟨some i, .binOp .eql t x y t2, ty, ps, af, gd⟩ (.bool true) := fun a w hf _ => by
  obtain ⟨inf, hinf, hsz⟩ := j7 hs
  have h : ∀ d : Nat, (Op.equalIn (d + 1) t (.pointer none) (.pointer none)).run c.P w = .ok true w := fun d => by
    simp [Op.equalIn, run_underlying (Zv ht), sizeOf, typeInfo, hinf]
  simp only [execOp]
  rw [hf.eval hx, hf.eval hy]
  simp only [binOp]
  simp [eqGuard, Op.equal, Op.maxDepth, h 9999, Sem.run_bind, Result.andThen]
theorem Jnc {x y : Operand} {q : Addr} {tt : TypeId} {sz : Nat} (hx : Ke l x = some (.pointer (some q))) (hy : Ke l y = some (.pointer none)) (ht : qI c.P t = some tt) (hs : KF c.P tt = some sz) :
    J7 c d l L X ⟨some i, .binOp .eql t x y t2, ty, ps, af, gd⟩ (.bool false) := fun a w hf _ => by
  obtain ⟨inf, hinf, hsz⟩ := j7 hs
  have h : ∀ d : Nat, (Op.equalIn (d + 1) t (.pointer (some q)) (.pointer none)).run c.P w = .ok false w := fun d => by
    simp [Op.equalIn, run_underlying (Zv ht), sizeOf, typeInfo, hinf]
  simp only [execOp]
  rw [hf.eval hx, hf.eval hy]
  simp only [binOp]
  simp [eqGuard, Op.equal, Op.maxDepth, h 9999, Sem.run_bind, Result.andThen]
end
end Go.SL
namespace Go.Proofs.YteceenlfegnigaaGreatDoor
set_option linter.all false
open Go.SL Go.RowKit Go.Shelf
abbrev pB (own : Bool) (r : Nat) : Value := .pointer (if own then some ⟨r, 0, none⟩ else none)
def yq (r : Nat) (s : BS) (row : Vz) (own : Bool) : Nat × Obj := (r, .cells #[pB own r, JF s.length row] 127 (0, 0))
def WR (r : Nat) (s : BS) (row : Vz) (own : Bool) : Jr := yq r s row own :: JY 5 (s.map bV) row
def bOk (s : BS) (row : Vz) : Prop := rowOk 1 s.length (s.map bV) row ∧ (s = [] → row = none)
theorem Jcu (r : Nat) (own : Bool) (v : Value) : PureT (α := Unit) Tryz.prog 156 [V9 r].toArray (fun _ => .tuple #[]) [(r, .cells #[pB own r, v] 127 (0, 0))] (fun _ => [(r, .cells #[pB true r, v] 127 (0, 0))]) [] := by
  cases own with
  | false =>
    refine JH Tryz.func156 rfl rfl fun w => ?_; refine sR fun _ hK1 => LS 2 [] rfl rfl ?_
    refine LS 1 [] rfl rfl ?_; refine LR rfl (Jm (v := .pointer none) rfl (kn 0 rfl) rfl rfl) ?_; refine LR rfl (Jnb rfl rfl rfl rfl) ?_; refine nK hK1 ?_; refine Jc rfl (fun h2 => ?_) (fun h2 => ?_)
    try simp only [ZZ] at h2
    refine Ja (LS 2 [] rfl rfl (LR rfl (Je8 (sz := 2) rfl (kn 0 rfl) rfl rfl rfl (by decide) (by simp)) ?_)); refine LR rfl (Je9 rfl rfl (Tryz.func192) (by kernel_rfl) rfl rfl rfl) ?_; refine LR rfl (xM rfl (kn 0 rfl) rfl rfl rfl (by kernel_rfl)) ?_; refine JZ rfl ?_
    refine LS 1 [] rfl rfl ?_; refine Kz (k := 0) (cs' := #[V9 r, v]) rfl rfl rfl rfl rfl rfl rfl rfl rfl rfl ?_; refine Jg ?_; refine Qx rfl rfl .nil (fun w1 hs1 => ?_); exact ⟨(), rfl, hs1⟩
    try exact Bool.noConfusion h2
  | true =>
    refine JH Tryz.func156 rfl rfl fun w => ?_; refine sR fun _ hK1 => LS 2 [] rfl rfl ?_
    refine LS 1 [] rfl rfl ?_; refine LR rfl (Jm (v := V9 r) rfl (kn 0 rfl) rfl rfl) ?_; refine LR rfl (Jnc rfl rfl rfl rfl) ?_; refine nK hK1 ?_; refine Jc rfl (fun h2 => ?_) (fun h2 => ?_)
    try exact Bool.noConfusion h2
    · try simp only [ZZ] at h2
      refine sR fun _ hK3 => LS 2 [] rfl rfl ?_
      refine LS 1 [] rfl rfl ?_; refine LR rfl (Jm (v := V9 r) rfl (kn 0 rfl) rfl rfl) ?_; refine Ji rfl (LR rfl (Jna rfl rfl rfl rfl) ?_); refine nK hK3 ?_; refine Jc rfl (fun h4 => ?_) (fun h4 => ?_)
      try exact Bool.noConfusion h4
      · try simp only [ZZ] at h4
        refine Jf ?_; refine Qx rfl rfl .nil (fun w1 hs1 => ?_); exact ⟨(), rfl, hs1⟩
theorem xN (r : Nat) (s : BS) (row : Vz) (own : Bool) : PureT (α := Unit) Tryz.prog 156 [V9 r].toArray (fun _ => .tuple #[]) [yq r s row own] (fun _ => [yq r s row true]) [] := Jcu r own _
theorem vo {r : Nat} {s s2 : BS} {row : Vz} {own : Bool} (hb : bOk s row) (hl : s.length + s2.length ≤ 1000000) :
    PureT (α := { x : Vz // bOk (s ++ s2) x }) Tryz.prog 101 [V9 r, J2 s2].toArray (fun _ => .tuple #[.int .i64 (s2.length : Int), .nilIface]) (WR r s row own) (fun x => WR r (s ++ s2) x.1 true) [] := by
  refine JH Tryz.func101 rfl rfl fun w => ?_
  unfold WR
  refine sR fun _ hK1 => LS 2 [] rfl rfl (nK hK1 ?_); refine sR fun _ hK2 => Ji rfl (Vn (T := [yq r s row own]) (L0 := JY 5 (s.map bV) row) (Rl := []) (List.Perm.refl _) rfl rfl rfl (enters_of Tryz.func156 (by kernel_rfl) rfl) (xN r s row own) (fun q hq => nomatch hq) fun u => ?_); change HL _ _ _ (yq r s row true :: JY 5 (s.map bV) row) _ _ _ _; refine nK hK2 (sR fun _ hK3 => ?_); refine LS 3 [] rfl rfl ?_
  refine LS 1 [] rfl rfl ?_; refine LR rfl (Jm (v := JF s.length row) rfl (kn 0 rfl) rfl rfl) ?_; refine Ji rfl (Je7 (e := 5) (s := s) (s2 := s2) (row := row) (L0 := [yq r s row true]) (List.perm_append_comm (l₁ := [_])) rfl rfl rfl rfl rfl rfl rfl rfl rfl hb.1 hb.2 (by omega) fun row2 h1 h2 => (KH List.perm_append_comm ?_)); change HL _ _ _ ((r, .cells #[pB true r, JF s.length row] 127 (0, 0)) :: JY 5 ((s ++ s2).map bV) row2) _ _ _ _; refine JZ rfl ?_
  refine LS 1 [] rfl rfl ?_; refine Kz (k := 0) (cs' := #[pB true r, JF (s ++ s2).length row2]) rfl rfl rfl rfl rfl (Ji8 _ _) rfl rfl rfl rfl ?_; refine nK hK3 (sR fun _ hK4 => ?_); refine Ji rfl (LR rfl (JT rfl rfl) (LS 2 [] rfl rfl ?_)); refine nK hK4 (Jb ?_); refine Jv rfl rfl (.cons (J4 rfl) (.cons (J4 rfl) .nil)) (fun w1 hs1 => ?_); exact ⟨⟨row2, h1, h2⟩, rfl, hs1⟩
theorem Jvb (r : Nat) {s : BS} {row : Vz} (own : Bool) (hb : bOk s row) : PureR Tryz.prog 102 [V9 r].toArray (.int .i64 (s.length : Int)) [yq r s row own] := by
  refine Je Tryz.func102 rfl rfl fun w => ?_; refine sR fun _ hK1 => Ji rfl (nK hK1 ?_); refine sR fun _ hK2 => LS 2 [] rfl rfl ?_
  refine LS 1 [] rfl rfl ?_; refine LR rfl (Jm (v := JF s.length row) rfl (J8 (k := 0) rfl) rfl rfl) ?_; refine LR rfl (Xk rfl hb.1.zero rfl) ?_; refine Ji rfl (nK hK2 ?_); refine Jb (pT rfl rfl rfl fun w1 hs1 => ?_); exact ⟨rfl, hs1.keep⟩
theorem Jfa {r : Nat} {s : BS} {row : Vz} {own : Bool} (hb : bOk s row) (hl : s.length ≤ 1000000) :
    PureT (α := Unit) Tryz.prog 103 [V9 r].toArray (fun _ => J2 s) (WR r s row own) (fun _ => []) [] := by
  have hcap : ∀ q cap sp, row = some (q, cap, sp) → cap ≠ 0 := by
    rintro q cap sp rfl h0
    obtain ⟨⟨h1, h2⟩, h3⟩ := hb
    have h4 : s.length = 0 := by omega
    have := h3 (List.eq_nil_of_length_eq_zero h4)
    cases this
  refine JH Tryz.func103 rfl rfl fun w => ?_
  unfold WR
  refine sR fun _ hK1 => Ji rfl (nK hK1 ?_); refine sQ fun _ hK2 => ?_
  refine JS [] [(0, .pure), (1, .pure), (2, .pure), (4, .pure), (5, .pure), (6, .pure), (7, .pure), (9, .pure)] 10 [0, 1, 2, 3, 4, 5, 6, 7, 8, 9] (by kernel_rfl) (by kernel_rfl) (by first | exact (fun _ h => absurd h List.not_mem_nil) | simp [SubS] | (intro p hp; simp [hp])) ?_; refine Jw (k := 0) rfl rfl rfl rfl rfl (fun _ hS => (Jo rfl)) ?_; refine Jw (k := 1) rfl rfl rfl rfl rfl (fun _ hS => (J9 rfl rfl rfl)) ?_
  refine Jw (k := 2) rfl rfl rfl rfl rfl (fun _ hS => (JL rfl rfl rfl)) ?_; refine KW (k := 3) rfl rfl rfl rfl rfl (Jm (v := JF s.length row) rfl (kn 0 rfl) rfl rfl) ?_; refine Jw (k := 4) rfl rfl rfl rfl rfl (fun _ _ => xK rfl hcap) ?_; refine Jw (k := 5) rfl rfl rfl rfl rfl (fun _ hS => (Jo rfl)) ?_; refine Jw (k := 6) rfl rfl rfl rfl rfl (fun _ hS => (J9 rfl rfl rfl)) ?_
  refine Jw (k := 7) rfl rfl rfl rfl rfl (fun _ hS => (JL rfl rfl rfl)) ?_; refine KW (k := 8) rfl rfl rfl rfl rfl (Jm (v := JF s.length row) rfl (kn 0 rfl) rfl rfl) ?_; refine Jw (k := 9) rfl rfl rfl rfl rfl (fun _ _ => Xk rfl hb.1.zero rfl) ?_; refine KC ?_; refine qT (e := 5) (s := s) (row := row) (L0 := [yq r s row own]) (List.perm_append_comm (l₁ := [_])) rfl rfl rfl rfl rfl rfl hb.1 hb.2 (by omega) ?_; refine Ji rfl (nK hK2 ?_); refine Jb (pT rfl rfl rfl fun w1 hs1 => ?_); exact ⟨(), rfl, hs1.weakL (List.nil_sublist _)⟩
theorem xO (x : Ty) : WE x = if JJ x then JV x else 4 := rfl
theorem vp {R : Jr} {t : Ty} (ht : t.In R) : PureR Tryz.prog 165 [t.val].toArray (.tuple #[.int .i64 (WE t), .bool (JJ t)]) R := by
  have h1 := xl ht
  have h2 := Jem ht
  unfold vT at h2
  rw [xO]
  generalize JJ t = b at h1 h2 ⊢
  generalize JV t = z at h2 ⊢
  obtain ⟨k, n, p, ins⟩ := t
  refine Je Tryz.func165 rfl rfl fun w => ?_; refine sR fun K1 hK1 => ?_; refine LN rfl fun r1 => ?_; refine LS 2 [] rfl rfl (nK hK1 ?_); clear hK1 K1; refine sQ fun K2 hK2 => sR fun K3 hK3 => ?_; refine LR rfl (Jx (vs := [_, _, _]) rfl (kn 0 rfl) rfl rfl rfl rfl) ?_; refine Jh rfl rfl rfl Jlk h1 (fun q hq => Or.inr hq) ?_; refine nK hK3 ?_; clear hK3 K3; refine Jc rfl (fun h4 => ?_) (fun h4 => ?_)
  try simp only [ZZ] at h4
  refine sR fun K5 hK5 => ?_; refine LR rfl (Jx (vs := [_, _, _]) rfl (kn 0 rfl) rfl rfl rfl rfl) ?_; refine Jh rfl rfl rfl Jll h2 (fun q hq => Or.inr hq) ?_; refine LS 2 [] rfl rfl (nK hK5 ?_); clear hK5 K5; refine Jb (Jd ?_); clear hK2 K2; refine Jv rfl rfl (.cons (J4 rfl) (.cons (J4 rfl) .nil)) (fun w1 hs1 => ?_); refine ⟨?_, hs1.keep⟩
  simp_all [JP]
  · try simp only [ZZ] at h4
    refine Jf (hK2 ?_); clear hK2 K2; refine sR fun K6 hK6 => LS 2 [] rfl rfl (nK hK6 ?_); clear hK6 K6; refine Jb ?_; refine Jv rfl rfl (.cons (J4 rfl) (.cons (J4 rfl) .nil)) (fun w1 hs1 => ?_); refine ⟨?_, hs1.keep⟩
    simp_all [JP]
theorem Jtv {R : Jr} {k n : Int} {p : Pl} {ins : List Ty} {pick : Int} {i : Nat} (ht : Ty.In R (.mk k n p ins)) (hp8 : k = 8 → 0 ≤ pick) (hx : VY k pick i < ins.length) : PureR Tryz.prog 231 [Ty.val (.mk k n p ins), .int .i64 pick, .int .i64 (i : Int)].toArray (JK k pick ins i).val R := by
  have hty := Qn hx
  cases ht with
  | @mk k n p ins hk hn hlt hst hit =>
  obtain ⟨X, hX⟩ : ∃ X, X = JK k pick ins i := ⟨_, rfl⟩
  rw [← hX] at hty ⊢; refine Je Tryz.func231 rfl rfl fun w => ?_; refine sR fun _ hK1 => ?_; refine LN rfl fun r1 => ?_; refine LN rfl fun r2 => ?_; refine nK hK1 (sQ fun _ hK2 => ?_); refine sR fun _ hK3 => ?_
  refine LS 2 [1] rfl rfl (nK hK3 ?_); refine Ju (sR fun _ hK4 => (LS 2 [] rfl rfl ?_)); refine nK hK4 ?_; refine Jc rfl (fun h5 => ?_) (fun h5 => ?_)
  try simp only [ZZ] at h5
  refine sR fun _ hK6 => ?_
  refine LS 3 [1] rfl rfl ?_; refine LR rfl (Jp (j := VY k pick i) rfl hst rfl rfl rfl (by unfold VY; rw [if_pos (by assumption)]) hx) ?_; refine LR rfl (KV (fun q hq => Or.inr hq) rfl hst hty.1 rfl rfl) ?_; refine Jz (k := 0) (n := 3) (ys := X.cells) rfl rfl rfl rfl rfl X.len rfl X.one rfl ?_; refine nK hK6 (Jb (Jn (Jd ?_))); refine Jv rfl rfl (.cons (J6 (vs := X.cells) rfl (kn 0 rfl) rfl (by rw [X.len]; rfl)) .nil) (fun w1 hs1 => ?_); exact ⟨rfl, hs1.keep⟩
  · try simp only [ZZ] at h5
    refine sR fun _ hK7 => LS 2 [] rfl rfl (nK hK7 ?_); refine Jc rfl (fun h8 => ?_) (fun h8 => ?_)
    try simp only [ZZ] at h8
    refine sR fun _ hK9 => ?_
    refine LS 3 [1] rfl rfl ?_; refine LR rfl (Jp (j := VY k pick i) rfl hst rfl rfl rfl (by unfold VY; rw [if_neg (by assumption), if_pos (by assumption)]; have := hp8 (by assumption); omega) hx) ?_; refine LR rfl (KV (fun q hq => Or.inr hq) rfl hst hty.1 rfl rfl) ?_; refine Jz (k := 0) (n := 3) (ys := X.cells) rfl rfl rfl rfl rfl X.len rfl X.one rfl ?_; refine nK hK9 (Jb (Jn (Jd ?_))); refine Jv rfl rfl (.cons (J6 (vs := X.cells) rfl (kn 0 rfl) rfl (by rw [X.len]; rfl)) .nil) (fun w1 hs1 => ?_); exact ⟨rfl, hs1.keep⟩
    · try simp only [ZZ] at h8
      refine Jf (Jj (hK2 ?_)); refine sR fun _ hK10 => ?_
      refine LS 2 [1] rfl rfl ?_; refine LR rfl (Jp (j := VY k pick i) rfl hst rfl rfl rfl (by unfold VY; rw [if_neg (by assumption), if_neg (by assumption)]; rfl) hx) ?_; refine LR rfl (KV (fun q hq => Or.inr hq) rfl hst hty.1 rfl rfl) ?_; refine Jz (k := 0) (n := 3) (ys := X.cells) rfl rfl rfl rfl rfl X.len rfl X.one rfl ?_; refine nK hK10 (Jb ?_); refine Jv rfl rfl (.cons (J6 (vs := X.cells) rfl (kn 0 rfl) rfl (by rw [X.len]; rfl)) .nil) (fun w1 hs1 => ?_); exact ⟨rfl, hs1.keep⟩
def Kx (k : Int) (ins : List Ty) (m : Nat) : List Ty := (List.range m).map fun i => JK k 0 ins i
theorem V4 : ∀ a b : List Ty, Kf (a ++ b) = Kf a + Kf b
  | [], b => by rw [List.nil_append, Kf, Int.zero_add]
  | x :: xs, b => by rw [List.cons_append, Kf, Kf, V4 xs b, Int.add_assoc]
theorem Jjb (k : Int) (ins : List Ty) (i : Nat) : Kf (Kx k ins (i + 1)) = Kf (Kx k ins i) + WE (JK k 0 ins i) := by
  unfold Kx
  rw [List.range_succ, List.map_append, V4, List.map_cons, List.map_nil, Kf, Kf, Int.add_zero]
theorem vq (x : Ty) : 1 ≤ WE x ∧ WE x ≤ 2251799813685248 := by
  unfold WE
  split
  · rename_i h
    obtain ⟨h1, h2⟩ := Xa.1 h
    have h3 := zT x 0 (Int.le_refl _) h1 h2
    have h4 := Jld (show (5 - (0 : Int)).toNat ≤ 5 by decide)
    omega
  · omega
theorem j8 : ∀ l : List Ty, 0 ≤ Kf l ∧ Kf l ≤ 2251799813685248 * l.length
  | [] => by rw [Kf]; simp
  | x :: xs => by
    have h1 := vq x
    have h2 := j8 xs
    rw [Kf, List.length_cons]; omega
theorem Xu (k : Int) (ins : List Ty) (m : Nat) : (Kx k ins m).length = m := by unfold Kx; rw [List.length_map, List.length_range]
def ZL (r : Nat) (m : Int) : Nat × Obj := (r, .cells #[.int .i64 m] 3 (0, 0))
theorem xP (t : Ty) (m : Int) : PureE (α := Nat × Nat) Tryz.prog 164 [t.val, .int .i64 m].toArray (fun p => .func (.func 230) #[] #[V9 p.2, V9 p.1]) (fun p => [ZL p.2 m, VK p.1 t]) := by
  obtain ⟨k, n, p, ins⟩ := t
  refine Vy Tryz.func164 rfl rfl fun w => ?_; refine sR fun _ hK1 => ?_; refine LN rfl fun r1 => ?_; refine LN rfl fun r2 => ?_; refine Ji rfl (nK hK1 ?_); refine sR fun _ hK2 => ?_; refine LR rfl (Kv rfl rfl) ?_; refine Ji rfl (nK hK2 ?_); refine Jb (pT rfl rfl rfl fun w1 hs1 => ?_); exact ⟨(r1, r2), rfl, hs1⟩
def itV (k : Int) (ins : List Ty) (i : Nat) : List Value := [.int .i64 (i : Int), (JK k 0 ins i).val]
theorem Jg9 {R : Jr} {k n : Int} {p : Pl} {ins : List Ty} {m : Nat} (ht : Ty.In R (.mk k n p ins)) (hm : m ≤ 1000000) (hx : ∀ i, i < m → VY k 0 i < ins.length) (rt ri : Nat) :
    zz Tryz.prog 230 [V9 ri, V9 rt] (ZL ri m :: VK rt (.mk k n p ins) :: R) 0 (nxN (itV k ins) m) (Jd3 m) := by
  refine Wp Tryz.func230 rfl rfl fun q xids w2 XI XF hY => ?_; refine sR fun _ hK1 => ?_; refine LR rfl (Jm (v := .int .i64 (m : Int)) rfl (J8 (k := 0) rfl) rfl rfl) ?_; refine Ji rfl (nK hK1 ?_); refine Ju (JG (σ := Nat) (fun i => i ≤ m) (fun i => [(0, .func (.yield q) #[] #[]), (1, V9 ri), (2, V9 rt), (5, .int .i64 (m : Int)), (6, .int .i64 (i : Int))]) (fun _ => []) (fun i => XI i) (fun i => m - i) 0 (Nat.zero_le _) (.cons rfl (.cons rfl (.cons rfl (.cons rfl (.cons rfl .nil))))) (List.Sublist.refl _) (fun _ _ h => h) ?_); intro i hi; refine sR fun _ hK2 => JZ rfl (nK hK2 ?_); refine sQ fun _ hK3 => ?_; refine Jc rfl (fun h4 => ?_) (fun h4 => ?_)
  · try simp only [ZZ] at h4
    refine Jf (hK3 ?_); refine sB fun _ hK5 => sR fun _ hK6 => ?_; refine LS 2 [] rfl rfl (nK hK6 ?_); refine sQ fun _ hK7 => ?_
    have hil : i < m := by omega
    refine Ja (LS 2 [] rfl rfl (LR rfl (Jq (xs := Ty.cells (.mk k n p ins)) (n := 3) rfl (J8 (k := 1) rfl) rfl rfl (Ty.len _)) ?_)); refine Ji rfl (Jh rfl rfl rfl (enters_of Tryz.func231 (by kernel_rfl) rfl) (Jtv ht (fun _ => Int.le_refl 0) (hx i hil)) (fun q hq => Or.inr (List.mem_cons_of_mem _ (List.mem_cons_of_mem _ hq))) ?_); refine W5 (XT := XI (i + 1)) (XF := XF) rfl rfl rfl rfl (hY i (itV k ins i) (i + 1) ⟨hil, rfl, rfl⟩) ?_ ?_
    all_goals refine JZ rfl ?_
    all_goals refine Jg ?_
    all_goals (
     refine hK7 ?_; refine Jc rfl (fun h8 => ?_) (fun h8 => ?_)
     · try exact Bool.noConfusion h8
       all_goals try simp only [ZZ] at h8
       all_goals (
        refine Jb (Jn (Jd ?_)); refine Jd (Jn ?_); refine Jv rfl rfl .nil (fun w1 hs1 => ?_)
        obtain ⟨xs1, hx1⟩ := hs1.now
        exact ⟨⟨_, rfl⟩, hs1.keep, .inr ⟨_, hx1⟩⟩
        skip)
     · try exact Bool.noConfusion h8
       all_goals try simp only [ZZ] at h8
       all_goals (
        refine Jf (Jj (hK5 ?_)); refine Ja ?_
        refine JZ rfl ?_; refine Jy (show _ = Value.int .i64 ((i + 1 : Nat) : Int) from by rw [wrap_i64 (by omega) (by omega)]; congr 1 <;> omega) ?_; refine Ji rfl (Jg (J5 ?_)); exact J1 (i + 1) (by omega) (by omega) (.cons rfl (.cons rfl (.cons rfl (.cons rfl (.cons rfl .nil))))) (List.Sublist.refl _) (fun _ _ h => h)
        skip)
     skip)
  · try simp only [ZZ] at h4
    refine JE (Jl ?_); refine Jl (J0 ?_); refine Qx rfl rfl .nil (fun w1 hs1 => ?_)
    obtain ⟨xs1, hx1⟩ := hs1.now
    exact ⟨⟨_, rfl⟩, hs1.keep, .inl ⟨i, _, (by show i = m; omega), hx1⟩⟩
theorem Jcv {R : Jr} {k n : Int} {p : Pl} {ins : List Ty} {m : Nat} (ht : Ty.In R (.mk k n p ins)) (hm : m ≤ 600) (hx : ∀ i, i < m → VY k 0 i < ins.length) : PureR Tryz.prog 163 [Ty.val (.mk k n p ins), .int .i64 (m : Int)].toArray (.int .i64 (Kf (Kx k ins m))) R := by
  have hti := fun i h => ht.sub _ (Qn (hx i h)).2
  refine Je Tryz.func163 rfl rfl fun w => ?_; refine sR fun _ hK1 => ?_; refine LN rfl fun r1 => ?_; refine Ji rfl (nK hK1 ?_); refine sR fun _ hK2 => ?_; refine LN rfl fun r2 => ?_
  refine LT 0 rfl rfl (nK hK2 ?_); refine sQ fun _ hK3 => sR fun _ hK4 => ?_; refine LS 2 [1] rfl rfl ?_; refine Vq rfl rfl rfl Jlm (xP (.mk k n p ins) (m : Int)) fun pp => ?_
  obtain ⟨ra, rb⟩ := pp
  change HL _ _ _ (ZL rb m :: VK ra (.mk k n p ins) :: _) _ _ _ _; refine nK hK4 (Ju (Yr [2, 0, 1, 3] (L' := [_, _, _, _]) (by decide) rfl ?_))
  refine WY (τ := Unit) (fun i (s : Nat) => i ≤ m ∧ i = s) (fun s => [(r2, .cells #[.int .i64 (Kf (Kx k ins s))] 3 (0, 0))]) (fun _ _ => False) (fun _ => []) [ZL rb m, VK ra (.mk k n p ins), _] 0 rfl rfl Jlr (Jg9 ht (by omega) hx ra rb) (by rintro _ _ _ ⟨_, rfl, _⟩; rfl) rfl (fun q hq => by rcases List.mem_cons.1 hq with rfl | hq; exact .inl (by simp); rcases List.mem_cons.1 hq with rfl | hq; exact .inl (by simp); exact .inr hq) rfl ⟨Nat.zero_le _, rfl⟩ ?_ ?_ ?_
  rintro q Xr Xb w3 i _ _ s ⟨hii, rfl, rfl⟩ ⟨him, rfl⟩ Kr hKr
  have hti1 := hti i hii
  have hb1 := vq (JK k 0 ins i)
  have hb2 := j8 (Kx k ins i)
  rw [Xu] at hb2
  unfold itV
  refine Ja (LN rfl fun r3 => (Jz (k := 0) (n := 3) (ys := (JK k 0 ins i).cells) rfl rfl rfl rfl rfl (JK k 0 ins i).len rfl (JK k 0 ins i).one rfl ?_)); refine Jg ?_; refine hKr _ _ ?_; clear hKr; refine Ju (sR fun _ hK5 => (LR rfl (Jq (xs := (JK k 0 ins i).cells) (n := 3) rfl (kn 0 rfl) rfl rfl (JK k 0 ins i).len) ?_)); refine Jh rfl rfl rfl Jf5 (vp hti1) (fun q hq => Or.inr (List.mem_append_right _ hq)) ?_; refine LS 5 [] rfl rfl (nK hK5 ?_); refine Ja (LR rfl (Jm (v := .int .i64 (Kf (Kx k ins i))) rfl (kn 1 rfl) rfl rfl) (LS 2 [] rfl rfl ?_)); refine Jy (show _ = Value.int .i64 (Kf (Kx k ins (i + 1))) from by rw [Jjb]; exact congrArg (Value.int .i64) (wrap_i64 (by omega) (by omega))) ?_; refine Kz (k := 1) (cs' := #[.int .i64 (Kf (Kx k ins (i + 1)))]) rfl rfl rfl rfl rfl rfl rfl rfl rfl rfl ?_; refine Jg (Jj (Vi [1] (L' := [_]) (by decide) rfl ?_)); refine QN (i + 1) ⟨by omega, rfl⟩ rfl
  rintro D i s hfi ⟨him, rfl⟩
  obtain rfl : m = i := Eq.symm hfi
  refine Jj (hK3 ?_); refine sR fun _ hK6 => ?_; refine LR rfl (Jm (v := .int .i64 (Kf (Kx k ins m))) rfl (kn 1 rfl) rfl rfl) ?_; refine Ji rfl (nK hK6 ?_); refine Jb (QK (k := 0) rfl rfl ?_); refine pT rfl rfl rfl fun w1 hs1 => ?_; exact ⟨rfl, hs1.keep⟩
  · exact fun _ _ _ h => h.elim
theorem Jcw {s : BS} (hl : s.length ≤ 1000000) : Pure Tryz.prog 114 [J2 s].toArray (J2 s.reverse) := by
  refine JC Tryz.func114 rfl rfl fun w => ?_; refine sR fun _ hK1 => Ji rfl (nK hK1 ?_); refine sR fun _ hK2 => Ji rfl (X8 rfl rfl rfl rfl rfl rfl fun rb kb => ?_)
  obtain ⟨sp, hsp⟩ : ∃ sp, sp = List.replicate kb (Value.int .u8 0) := ⟨_, rfl⟩
  rw [← hsp]
  obtain ⟨fr, hfr⟩ : ∃ fr : Nat × Nat, fr = (s.length + kb, s.length + kb + 1) := ⟨_, rfl⟩
  rw [← hfr]
  have hfz : ∀ q, q < s.length → frB fr q = false := fun q hq => by rw [hfr]; simp [frB, Nat.blt, Nat.ble]; omega
  refine Ji rfl (nK hK2 ?_); refine sQ fun _ hK3 => sR fun _ hK4 => ?_; refine Ji rfl (LR rfl (KI rfl rfl) ?_); refine JZ rfl (Jy (show _ = Value.int .i64 ((s.length : Int) - 1) from congrArg (Value.int .i64) (wrap_i64 (by omega) (by omega))) (LS 2 [] rfl rfl ?_)); refine nK hK4 (Ju ?_); refine JG (σ := Nat) (fun i => 2 * i ≤ s.length + 1 ∧ 2 * i ≤ s.length) (fun i => [(3, .slice (some ⟨rb, 0, none⟩) s.length (s.length + kb)), (4, .int .i64 (i : Int)), (5, .int .i64 ((s.length : Int) - 1 - (i : Int)))]) (fun i => [(rb, .cells ((Y2 s i).map bV ++ sp).toArray 5 fr)]) (fun _ _ _ => True) (fun i => s.length - i) 0 ⟨by omega, by omega⟩ (.cons rfl (.cons rfl (.cons (by rw [show ((0 : Nat) : Int) = 0 from rfl, Int.sub_zero]; rfl) .nil))) (List.Sublist.refl _) (fun _ _ h => h) ?_; rintro i ⟨hi1, hi2⟩; refine sQ fun _ hK5 => sR fun _ hK6 => ?_; refine LS 3 [] rfl rfl (nK hK6 ?_); refine Jc rfl (fun h7 => ?_) (fun h7 => ?_)
  · try simp only [ZZ] at h7
    refine Jf (hK5 ?_); refine sB fun _ hK8 => ?_
    have hii : i + 1 ≤ s.length - i := by omega
    obtain ⟨Y, hY⟩ : ∃ Y, Y = Y2 s i := ⟨_, rfl⟩
    have hYl : Y.length = s.length := by rw [hY]; exact Yf s i
    rw [← hY]
    refine JS [] [(0, .pure), (1, .pure), (2, .pure), (3, .pure), (4, .pure), (5, .pure), (6, .pure), (8, .pure), (9, .pure), (10, .pure), (12, .pure), (13, .turn), (14, .pure), (15, .turn)] 16 [0, 1, 2, 3, 4, 5, 6, 7, 8, 9, 10, 11, 12, 13, 14, 15] (by kernel_rfl) (by kernel_rfl) (by first | exact (fun _ h => absurd h List.not_mem_nil) | simp [SubS] | (intro p hp; simp [hp])) ?_; refine Jw (k := 0) rfl rfl rfl rfl rfl (fun _ hS => (Jo rfl)) ?_; refine Jw (k := 1) rfl rfl rfl rfl rfl (fun _ hS => (Jo rfl)) ?_; refine Jw (k := 2) rfl rfl rfl rfl rfl (fun _ hS => (Jo rfl)) ?_; refine Jw (k := 3) rfl rfl rfl rfl rfl (fun _ hS => (Jo rfl)) ?_; refine Jw (k := 4) rfl rfl rfl rfl rfl (fun _ hS => (Jo rfl)) ?_; refine Jw (k := 5) rfl rfl rfl rfl rfl (fun _ hS => (Jo rfl)) ?_; refine Jw (k := 6) rfl rfl rfl rfl rfl (fun _ _ => Ki (j := (s.length - 1 - i)) (m := 1) (off' := (s.length - 1 - i)) rfl rfl rfl rfl (by omega) (by omega) (by omega)) ?_; refine KW (k := 7) rfl rfl rfl rfl rfl (Jm rfl (kn 0 rfl) rfl (vc (xs := Y.map bV) (v := bV (Y.getD (s.length - 1 - i) 0)) (Ye (by omega)))) ?_; refine Jw (k := 8) rfl rfl rfl rfl rfl (fun _ hS => (Jo rfl)) ?_; refine Jw (k := 9) rfl rfl rfl rfl rfl (fun _ hS => (Jo rfl)) ?_; refine Jw (k := 10) rfl rfl rfl rfl rfl (fun _ _ => Ki (j := i) (m := 1) (off' := i) rfl rfl rfl rfl (by omega) (by omega) (by omega)) ?_; refine KW (k := 11) rfl rfl rfl rfl rfl (Jm rfl (kn 0 rfl) rfl (vc (xs := Y.map bV) (v := bV (Y.getD (i) 0)) (Ye (by omega)))) ?_; refine Jw (k := 12) rfl rfl rfl rfl rfl (fun _ _ => Ki (j := i) (m := 1) (off' := i) rfl rfl rfl rfl (by omega) (by omega) (by omega)) ?_; refine Zu (k := 13) (q := 0) (cs' := ((Y.set i (Y.getD (s.length - 1 - i) 0)).map bV ++ sp).toArray) rfl rfl rfl rfl rfl rfl rfl rfl (hfz _ (by omega)) (by simp; omega) (j6 (by omega)) rfl (fun _ h => nomatch h) ?_; refine Jw (k := 14) rfl rfl rfl rfl rfl (fun _ _ => Ki (j := (s.length - 1 - i)) (m := 1) (off' := (s.length - 1 - i)) rfl rfl rfl rfl (by omega) (by omega) (by omega)) ?_; refine Zu (k := 15) (q := 0) (cs' := ((Y2 s (i + 1)).map bV ++ sp).toArray) rfl rfl rfl rfl rfl rfl rfl rfl (hfz _ (by omega)) (by simp; omega) (by rw [j6 (by rw [List.length_set]; omega), Y2, ← hY]) rfl (fun _ h => nomatch h) ?_; refine KC ?_; refine Jg (Jj (hK8 ?_)); refine Ja (LS 2 [] rfl rfl (Jt (by omega) (by omega) ?_)); refine Ji rfl ?_
    refine JZ rfl ?_; refine Jy (show _ = Value.int .i64 ((s.length : Int) - 1 - ((i + 1 : Nat) : Int)) from by rw [wrap_i64 (by omega) (by omega)]; congr 1 <;> omega) ?_; refine LS 2 [] rfl rfl (Jg ?_); refine J5 ?_; exact J1 (i + 1) ⟨by omega, by omega⟩ (by omega) (.cons rfl (.cons rfl (.cons rfl .nil))) (List.Sublist.refl _) (fun _ _ h => h)
  · try simp only [ZZ] at h7
    refine JE (Jl ?_); refine Jl (J0 (hK3 ?_)); refine sQ fun _ hK9 => ?_; rw [Jcp (xs := s) (i := i) (by omega) (by omega)]; refine Ja (Ji rfl ?_); refine LR rfl (qG (b := s.reverse) rfl (kn 0 rfl) (by rw [List.length_reverse]) (by simp only [List.toList_toArray]; rw [List.take_left' (by rw [List.length_map])]) rfl rfl rfl) ?_; refine Ji rfl (nK hK9 ?_); refine Jb (pT rfl rfl rfl fun w1 hs1 => ?_); exact ⟨rfl, hs1.keep⟩
theorem yZ {Y : BS} {i : Nat} {b : UInt8} : (Y.map bV).toArray.setIfInBounds i (bV b) = ((Y.set i b).map bV).toArray := by
  rw [List.setIfInBounds_toArray, List.map_set]
theorem Jha (x : UInt8) {m : Nat} (hm : m < 8) : Value.int .u8 ((x.toNat ||| 2 ^ m : Nat) : Int) = bV (UInt8.ofNat (x.toNat ||| 2 ^ m)) := Jfr (Jtn (Vu x) hm)
theorem Jnd {m : Nat} (hm : m < 8) : IntKind.u8.wrap (1 * ((2 ^ m : Nat) : Int)) = ((2 ^ m : Nat) : Int) := by
  have h : 2 ^ m ≤ 128 := Nat.pow_le_pow_right (n := 2) (i := m) (j := 7) (by decide) (by omega)
  generalize 2 ^ m = q at h ⊢
  rw [Int.one_mul]; exact zy (by omega) (by omega)
theorem Jne {R : Jr} {l : List Bool} {g : FuncId} {caps : List Value} (hl : l.length ≤ 1000000) (eg : Enters Tryz.prog g) (hg : ∀ i, i < l.length → PureR Tryz.prog g (Value.int .i64 (i : Int) :: caps).toArray (.bool (l.getD i false)) R) :
    PureR Tryz.prog 116 [.int .i64 (l.length : Int), .func (.func g) #[] caps.toArray].toArray (J2 (VB l)) R := by
  obtain ⟨N, hN⟩ : ∃ N, N = (l.length + 7) / 8 := ⟨_, rfl⟩
  have hpB : VB l = KP l N l.length := by rw [hN]; rfl
  refine Je Tryz.func116 rfl rfl fun w => ?_; refine sR fun K1 hK1 => Ji rfl (nK hK1 ?_); clear hK1 K1; refine sR fun K2 hK2 => Ji rfl ?_
  refine JZ rfl ?_; refine Jy (show _ = Value.int .i64 ((l.length + 8 : Nat) : Int) from by rw [wrap_i64 (by omega) (by omega)]; congr 1 <;> omega) ?_
  refine JZ rfl ?_; refine Jy (show _ = Value.int .i64 ((l.length + 7 : Nat) : Int) from by rw [wrap_i64 (by omega) (by omega)]; congr 1 <;> omega) ?_; refine JZ rfl ?_; refine Jy (show _ = Value.int .i64 ((N : Nat) : Int) from congrArg (Value.int .i64) (by rw [QM (by omega) (by decide) (by omega), hN]; rfl)) ?_; refine Wz (n := N) (b := 1) rfl rfl rfl rfl rfl rfl rfl rfl rfl (by omega) (by omega) fun rm => ?_; rw [show List.replicate N (Value.int .u8 0) = (KP l N 0).map bV from by rw [KP, List.map_replicate]; rfl]; refine Ji rfl (nK hK2 ?_); clear hK2 K2; refine sQ fun K3 hK3 => sR fun K4 hK4 => ?_; refine LS 2 [] rfl rfl (nK hK4 ?_); clear hK4 K4; refine Ju (JG (σ := Nat) (fun i => i ≤ l.length) (fun i => [(1, .func (.func g) #[] caps.toArray), (5, .slice (some ⟨rm, 0, none⟩) N N), (12, .int .i64 (l.length : Int)), (13, .int .i64 (i : Int))]) (fun i => [(rm, .cells ((KP l N i).map bV).toArray 5 (0, 0))]) (fun _ _ _ => True) (fun i => l.length - i) 0 (Nat.zero_le _) (.cons rfl (.cons rfl (.cons rfl (.cons rfl .nil)))) (List.Sublist.refl _) (fun _ _ h => h) ?_); intro i hi1; refine sR fun K5 hK5 => JZ rfl (nK hK5 ?_); clear hK5 K5; refine sQ fun K6 hK6 => ?_; refine Jc rfl (fun h7 => ?_) (fun h7 => ?_)
  · try simp only [ZZ] at h7
    refine Jf (hK6 ?_); clear hK6 K6; refine sB fun K8 hK8 => sQ fun K9 hK9 => ?_
    have hil : i < l.length := by omega
    have hi8 : i / 8 < N := by omega
    refine Ja (LS 2 [] rfl rfl ?_); refine nK hK9 ?_; clear hK9 K9; refine sR fun K10 hK10 => LS 2 [] rfl rfl ?_; refine Jh rfl rfl rfl eg (hg i hil) (fun q hq => Or.inr hq) ?_; refine nK hK10 ?_; clear hK10 K10; refine Jc rfl (fun h11 => ?_) (fun h11 => ?_)
    · try simp only [ZZ] at h11
      have hbt : l.getD i false = true := by assumption
      have hst1 : KP l N (i + 1) = (KP l N i).set (i / 8) (UInt8.ofNat (((KP l N i).getD (i / 8) 0).toNat ||| 2 ^ (i % 8))) := by rw [KP, if_pos hbt]
      obtain ⟨Y, hY⟩ : ∃ Y, Y = KP l N i := ⟨_, rfl⟩
      have hYl : Y.length = N := by rw [hY]; exact Vr l N i
      rw [← hY] at hst1 ⊢
      refine JS [] [(0, .pure), (1, .pure), (2, .pure), (3, .pure), (5, .pure), (6, .pure), (7, .pure), (8, .pure), (9, .pure), (10, .turn)] 11 [0, 1, 2, 3, 4, 5, 6, 7, 8, 9, 10] (by kernel_rfl) (by kernel_rfl) (by first | exact (fun _ h => absurd h List.not_mem_nil) | simp [SubS] | (intro p hp; simp [hp])) ?_; refine Jw (k := 0) rfl rfl rfl rfl rfl (fun _ hS => (Jo rfl)) ?_; refine Jw (k := 1) rfl rfl rfl rfl rfl (fun _ hS => (Jo rfl)) ?_
      refine Jw (k := 2) rfl rfl rfl rfl rfl (fun _ _ => (J9 rfl rfl rfl)) ?_; refine W9 (show _ = Value.int .i64 ((i / 8 : Nat) : Int) from congrArg (Value.int .i64) (by first | exact W0 _ _ | exact QM (by omega) (by decide) (by omega))) ?_; refine Jw (k := 3) rfl rfl rfl rfl rfl (fun _ _ => Ki (j := (i / 8)) (m := 1) (off' := (i / 8)) rfl rfl rfl rfl (by omega) (by omega) (by omega)) ?_; refine KW (k := 4) rfl rfl rfl rfl rfl (Jm rfl (kn 0 rfl) rfl (by rw [Vf]; exact Ye (by omega))) ?_; refine Jw (k := 5) rfl rfl rfl rfl rfl (fun _ hS => (Jo rfl)) ?_
      refine Jw (k := 6) rfl rfl rfl rfl rfl (fun _ _ => (J9 rfl rfl rfl)) ?_; refine W9 (show _ = Value.int .i64 ((i % 8 : Nat) : Int) from congrArg (Value.int .i64) (by first | exact W0 _ _ | exact QM (by omega) (by decide) (by omega))) ?_; refine Jw (k := 7) rfl rfl rfl rfl rfl (fun _ _ => yz (n := i % 8) (b := ((2 ^ (i % 8) : Nat) : Int)) rfl rfl rfl (show _ ≤ 8 from by omega) (Jnd (by omega))) ?_; refine Jw (k := 8) rfl rfl rfl rfl rfl (fun _ _ => vh (op := .or) (m := (Y.getD (i / 8) 0).toNat) (n := 2 ^ (i % 8)) rfl rfl rfl (Vu _) (Nat.pow_lt_pow_right (by decide) (by omega) : 2 ^ (i % 8) < 2 ^ 8) rfl) ?_; refine W9 (Jha _ (by omega)) ?_; refine Jw (k := 9) rfl rfl rfl rfl rfl (fun _ _ => Ki (j := (i / 8)) (m := 1) (off' := (i / 8)) rfl rfl rfl rfl (by omega) (by omega) (by omega)) ?_; refine WB (k := 10) (q := 0) (cs' := ((KP l N (i + 1)).map bV).toArray) rfl rfl rfl rfl rfl rfl rfl rfl (by simp; omega) (by rw [yZ, hst1]) rfl (fun _ h => nomatch h) ?_; refine KC ?_; refine Jg (Jj (hK8 ?_)); clear hK8 K8; refine Ja ?_
      refine JZ rfl ?_; refine Jy (show _ = Value.int .i64 ((i + 1 : Nat) : Int) from by rw [wrap_i64 (by omega) (by omega)]; congr 1 <;> omega) ?_; refine Ji rfl (Jg (J5 ?_)); exact J1 (i + 1) (by omega) (by omega) (.cons rfl (.cons rfl (.cons rfl (.cons rfl .nil)))) (List.Sublist.refl _) (fun _ _ h => h)
    · try simp only [ZZ] at h11
      refine Jf (Jj (hK8 ?_)); clear hK8 K8; refine Ja ?_
      refine JZ rfl ?_; refine Jy (show _ = Value.int .i64 ((i + 1 : Nat) : Int) from by rw [wrap_i64 (by omega) (by omega)]; congr 1 <;> omega) ?_; refine Ji rfl (Jg (J5 ?_))
      (have hst0 : KP l N (i + 1) = KP l N i := by rw [KP, if_neg (by simp_all)]
       exact J1 (i + 1) (by omega) (by omega) (.cons rfl (.cons rfl (.cons rfl (.cons rfl .nil)))) (by rw [hst0]; exact List.Sublist.refl _) (fun _ _ h => h))
  · try simp only [ZZ] at h7
    refine JE (Jl ?_); clear hK6 K6; refine Jl (J0 (hK3 ?_)); clear hK3 K3; refine sQ fun K12 hK12 => ?_
    obtain rfl : i = l.length := by omega
    refine Ja (Ji rfl ?_); refine LR rfl (QH (b := KP l N l.length) (row := some (rm, N, [])) (e := 5) (show _ = some (JF (KP l N l.length).length _) from by rw [Vr]; rfl) ⟨by rw [List.length_map]; omega, by rw [Vr]; simp⟩ (fun p hp => .inl (by rw [List.mem_singleton.1 hp, List.append_nil]; exact List.mem_cons_self)) rfl rfl rfl) ?_; refine Ji rfl (nK hK12 ?_); clear hK12 K12; refine Jb (pT rfl rfl rfl fun w1 hs1 => ?_); refine ⟨?_, hs1.keep⟩; rw [hpB]; rfl
theorem Jyk {R : Jr} {a b c d : Nat} {bits : List Bool} {pb : Pl} {items : List Vl} {pi : Pl} {pick : Int} (hsb : Seg R bits.length (Qy bits) pb) (hl : bits.length ≤ 9223372036854775807) (rv : Nat) {i : Nat} (hi : i < bits.length) :
    PureR Tryz.prog 117 [.int .i64 (i : Int), V9 rv].toArray (.bool (bits.getD i false)) (WO rv (.mk a b c d bits pb items pi pick) :: R) := by
  have hsb := hsb.mono (R' := WO rv (.mk a b c d bits pb items pi pick) :: R) fun q hq => List.mem_cons_of_mem _ hq
  have hy : bits[i]? = some (bits.getD i false) := by rw [List.getD_eq_getElem?_getD, List.getElem?_eq_getElem hi]; rfl
  generalize bits.getD i false = y at hy ⊢
  refine Je Tryz.func117 rfl rfl fun w => ?_; refine sR fun _ hK1 => Ji rfl (nK hK1 ?_); refine sR fun _ hK2 => ?_
  refine LS 1 [] rfl rfl ?_; refine LR rfl (Jm rfl (J8 (k := 0) rfl) rfl rfl) ?_; refine Ji rfl ?_
  refine LR rfl (Jp (j := i) rfl hsb rfl rfl rfl (by first | rfl | omega) (by omega)) ?_; refine LR rfl (XY (fun q hq => Or.inr hq) rfl hsb hy rfl) ?_; refine Ji rfl (nK hK2 ?_); refine Jb (pT rfl rfl rfl fun w1 hs1 => ?_); exact ⟨rfl, hs1.keep⟩
theorem Jyl {R : Jr} {a b c d : Nat} {bits : List Bool} {pb : Pl} {items : List Vl} {pi : Pl} {pick : Int} (hsb : Seg R bits.length (Qy bits) pb) (hl : bits.length ≤ 9223372036854775807) (rn rv : Nat) {i : Nat} (hi : i < (bits ++ [true]).length) :
    PureR Tryz.prog 118 [.int .i64 (i : Int), V9 rn, V9 rv].toArray (.bool ((bits ++ [true]).getD i false)) (ZL rn bits.length :: WO rv (.mk a b c d bits pb items pi pick) :: R) := by
  have hsb := hsb.mono (R' := ZL rn bits.length :: WO rv (.mk a b c d bits pb items pi pick) :: R) fun q hq => List.mem_cons_of_mem _ (List.mem_cons_of_mem _ hq)
  rw [List.length_append] at hi; simp only [List.length_cons, List.length_nil] at hi
  by_cases he : i = bits.length
  have hv : (bits ++ [true]).getD i false = true := by rw [List.getD_eq_getElem?_getD, List.getElem?_append_right (by omega), he, Nat.sub_self]; rfl
  rw [hv]; refine Je Tryz.func118 rfl rfl fun w => ?_; refine sR fun _ hK1 => Ji rfl (nK hK1 ?_); refine sR fun _ hK2 => ?_; refine Ji rfl (LR rfl (Jm (v := .int .i64 (bits.length : Int)) rfl (J8 (k := 0) rfl) rfl rfl) ?_); refine JZ rfl (Jy (show _ = Value.bool true from Jcr (Jx8 (by rw [he]))) (LS 8 [] rfl rfl ?_)); refine nK hK2 (Jb ?_); refine pT rfl rfl rfl fun w1 hs1 => ?_; exact ⟨rfl, hs1.keep⟩
  · have hy : bits[i]? = some (bits.getD i false) := by rw [List.getD_eq_getElem?_getD, List.getElem?_eq_getElem (by omega)]; rfl
    have hv : (bits ++ [true]).getD i false = bits.getD i false := by rw [List.getD_eq_getElem?_getD, List.getElem?_append_left (by omega), List.getD_eq_getElem?_getD]
    rw [hv]
    generalize bits.getD i false = y at hy ⊢
    have hne : ((i : Int) == (bits.length : Int)) = false := by simp; omega
    refine Je Tryz.func118 rfl rfl fun w => ?_; refine sR fun _ hK1 => Ji rfl (nK hK1 ?_); refine sR fun _ hK2 => ?_; refine Ji rfl (LR rfl (Jm (v := .int .i64 (bits.length : Int)) rfl (J8 (k := 0) rfl) rfl rfl) ?_); refine JZ rfl (Jy (show _ = Value.bool false from Jcr (hne)) (Ji rfl ?_))
    refine LS 1 [] rfl rfl ?_; refine LR rfl (Jm rfl (J8 (k := 1) rfl) rfl rfl) ?_; refine Ji rfl ?_
    refine LR rfl (Jp (j := i) rfl hsb rfl rfl rfl (by first | rfl | omega) (by omega)) ?_; refine LR rfl (XY (fun q hq => Or.inr hq) rfl hsb hy rfl) ?_; refine LS 2 [] rfl rfl (nK hK2 ?_); refine Jb (pT rfl rfl rfl fun w1 hs1 => ?_); exact ⟨rfl, hs1.keep⟩
theorem vr {k : Int} (h8 : k ≠ 8) (pick : Int) (ins : List Ty) (i : Nat) : JK k pick ins i = JK k 0 ins i := by
  unfold JK VY; split
  · rfl
  · simp [h8]
theorem xQ {k : Int} (h8 : k ≠ 8) (pick : Int) (ins : List Ty) : ∀ (l : List Vl) (i : Nat), Qa l k pick ins i = Qa l k 0 ins i
  | [], i => by rw [Qa, Qa]
  | x :: xs, i => by rw [Qa, Qa, xQ h8 pick ins xs (i + 1), vr h8]
theorem Jcx {k : Int} (ins : List Ty) : ∀ (l : List Vl) (i : Nat), (Qa l k 0 ins i).map Prod.fst = (List.range' i l.length).map fun j => JK k 0 ins j
  | [], i => by rw [Qa]; rfl
  | x :: xs, i => by
    rw [Qa, List.map_cons, Jcx ins xs (i + 1), List.length_cons, List.range'_succ, List.map_cons]
theorem Jcy (k : Int) (ins : List Ty) (l : List Vl) : (Qa l k 0 ins 0).map Prod.fst = Kx k ins l.length := by
  rw [Jcx]; unfold Kx; rw [List.range_eq_range']
theorem Jrz {α : Type} (A : List α) (x : α) (B : List α) : (A ++ x :: B).Perm (B ++ (A ++ [x])) := by
  rw [show A ++ x :: B = (A ++ [x]) ++ B by simp]; exact List.perm_append_comm
def ze (l : List (Ty × BS)) : Nat := (l.map fun p => p.2.length + 4).sum
theorem wy (p : Ty × BS) (l : List (Ty × BS)) : ze (p :: l) = p.2.length + 4 + ze l := by unfold ze; rw [List.map_cons, List.sum_cons]
theorem xR : bOk [] none := ⟨⟨rfl, rfl⟩, fun _ => rfl⟩
set_option maxHeartbeats 1000000 in
theorem Jvd {R : Jr} {k n : Int} {p : Pl} {ins : List Ty} {items : List Vl} {pi : Pl} {B : Nat} (ht : Ty.In R (.mk k n p ins)) (hs : Seg R items.length (Qj items) pi) (hl : items.length ≤ 600) (hx : ∀ i, i < items.length → VY k 0 i < ins.length)
    (hb : ∀ (i : Nat) x, items[i]? = some x → PureR Tryz.prog 77 [(JK k 0 ins i).val, x.val].toArray (J2 (Vt x (JK k 0 ins i))) R) (hB : ze (Qa items k 0 ins 0) ≤ B) (hB2 : B ≤ 900000) :
    PureR Tryz.prog 119 [Ty.val (.mk k n p ins), KM items.length pi].toArray (J2 (Yx (Kf (Kx k ins items.length)).toNat (Qa items k 0 ins 0) [] [])) R := by
  have hti := fun i h => ht.sub _ (Qn (hx i h)).2
  have hbg := Jcv ht hl hx
  have hbl := j8 (Kx k ins items.length)
  rw [Xu] at hbl
  obtain ⟨H, hH⟩ : ∃ H, H = (Kf (Kx k ins items.length)).toNat := ⟨_, rfl⟩
  have hHi : Kf (Kx k ins items.length) = (H : Int) := by omega
  have hHb : H ≤ 1351079888211148800 := by omega
  rw [hHi] at hbg; rw [← hH]
  obtain ⟨TOT, hTOT⟩ : ∃ T, T = Yx H (Qa items k 0 ins 0) [] [] := ⟨_, rfl⟩
  rw [← hTOT]; refine Je Tryz.func119 rfl rfl fun w => ?_; refine sR fun _ hK1 => ?_; refine LN rfl fun r1 => ?_; refine LN rfl fun r2 => ?_; refine Ji rfl (nK hK1 ?_); refine sR fun _ hK2 => ?_; refine LN rfl fun r3 => ?_; refine LN rfl fun r4 => ?_; refine nK hK2 (sR fun _ hK3 => ?_); refine LS 2 [3, 2] rfl rfl ?_; refine LR rfl (J3 rfl hs rfl) ?_; refine Jh rfl rfl rfl (enters_of Tryz.func163 (by kernel_rfl) rfl) hbg (fun q hq => Or.inr hq) ?_; refine LN rfl fun r5 => ?_
  refine LT 0 rfl rfl (nK hK3 ?_); refine sQ fun _ hK4 => sR fun _ hK5 => ?_; refine LS 2 [4, 3] rfl rfl ?_; refine LR rfl (J3 rfl hs rfl) ?_; refine Vq rfl rfl rfl Jlm (xP (.mk k n p ins) (items.length : Int)) fun pp => ?_
  obtain ⟨ra, rb⟩ := pp
  change HL _ _ _ (ZL rb items.length :: VK ra (.mk k n p ins) :: _) _ _ _ _; refine nK hK5 (Ju (Yr [4, 3, 0, 1, 2, 5, 6] (L' := [yq r3 [] none false, yq r4 [] none false, ZL rb items.length, VK ra (.mk k n p ins), _, _, _]) (by decide) rfl ?_))
  refine WY (τ := Unit) (fun i (s : BS × BS × Vz × Vz × Bool × Bool) => i ≤ items.length ∧ Yx H (Qa (items.drop i) k 0 ins i) s.1 s.2.1 = TOT ∧ bOk s.1 s.2.2.1 ∧ bOk s.2.1 s.2.2.2.1 ∧ s.1.length + s.2.1.length + ze (Qa (items.drop i) k 0 ins i) ≤ B) (fun s => WR r3 s.1 s.2.2.1 s.2.2.2.2.1 ++ WR r4 s.2.1 s.2.2.2.1 s.2.2.2.2.2) (fun _ _ => False) (fun _ => []) [ZL rb items.length, VK ra (.mk k n p ins), _, _, _] ([], [], none, none, false, false) rfl rfl Jlr (Jg9 ht (by omega) hx ra rb) (by rintro _ _ _ ⟨_, rfl, _⟩; rfl) rfl (fun q hq => by rcases List.mem_cons.1 hq with rfl | hq; exact .inl (by simp); rcases List.mem_cons.1 hq with rfl | hq; exact .inl (by simp); exact .inr hq) rfl ⟨Nat.zero_le _, hTOT.symm, xR, xR, by simpa using hB⟩ ?_ ?_ ?_
  · rintro q Xr Xb w3 i _ _ ⟨f, th, row1, row2, own1, own2⟩ ⟨hii, rfl, rfl⟩ ⟨him, hinv, hb1, hb2, hlen⟩ Kr hKr
    simp only at hinv hb1 hb2 hlen
    have hti1 := hti i hii
    have hix := XD hii
    have hbi := hb i _ hix.1
    rw [Y9 hix.1, Qa, Yx] at hinv; rw [Y9 hix.1, Qa, wy] at hlen
    obtain ⟨S, hS⟩ : ∃ S, S = Vt (XC items i) (JK k 0 ins i) := ⟨_, rfl⟩
    simp only [← hS] at hinv hlen; rw [← hS] at hbi
    have hle4 := Jbv (H + th.length)
    unfold itV
    refine sR fun _ hK6 => Ji rfl (nK hK6 ?_); refine Ja (QF (cs := #[.int .i64 0, .int .i64 0, .slice none 0 0]) rfl rfl rfl rfl fun r9 => (Jz (k := 0) (n := 3) (ys := (JK k 0 ins i).cells) rfl rfl rfl rfl rfl (JK k 0 ins i).len rfl (JK k 0 ins i).one rfl ?_)); refine Jg ?_; refine hKr _ _ ?_; clear hKr; refine Ju (sQ fun _ hK7 => (Ka 7 (by kernel_rfl) (by kernel_rfl) ?_)); refine Jk rfl rfl rfl (Jq (xs := (JK k 0 ins i).cells) (n := 3) rfl (kn 0 rfl) rfl rfl (JK k 0 ins i).len) ?_; refine Jk rfl rfl rfl (Jm (v := KM items.length pi) rfl (J8 (k := 3) rfl) rfl rfl) ?_; refine Jk rfl rfl rfl (Jo rfl) ?_
    refine Jk rfl rfl rfl (Jp (j := i) rfl hs rfl rfl rfl (by first | rfl | omega) (by omega)) ?_; refine Jk rfl rfl rfl (QI (fun q hq => Or.inr (List.mem_append_right _ hq)) rfl hs hix.1 rfl rfl) ?_; refine Xn rfl rfl rfl Jur hbi (fun q hq => Or.inr (List.mem_append_right _ hq)) ?_; refine Jk rfl rfl rfl (JN rfl) ?_; refine Kt ?_; refine nK hK7 (sQ fun _ hK8 => ?_); refine sR fun _ hK9 => ?_; refine LR rfl (Jq (xs := (JK k 0 ins i).cells) (n := 3) rfl (kn 0 rfl) rfl rfl (JK k 0 ins i).len) ?_; refine Jh rfl rfl rfl Jf5 (vp hti1) (fun q hq => Or.inr (List.mem_append_right _ hq)) ?_; refine LS 5 [] rfl rfl (nK hK9 ?_); refine sR fun _ hK10 => Ji rfl (nK hK10 ?_); refine Jc rfl (fun h11 => ?_) (fun h11 => ?_)
    try simp only [ZZ] at h11
    refine sR fun _ hK12 => ?_; refine Ji rfl (Vn (T := WR r3 f row1 own1) (L0 := (r9, .cells (JK k 0 ins i).cells.toArray 76 (0, 0)) :: WR r4 th row2 own2) (Rl := []) List.perm_middle.symm rfl rfl rfl Jf2 (vo hb1 (s2 := S) (by omega)) (fun q hq => nomatch hq) fun x => ?_)
    obtain ⟨row1x, hb1x⟩ := x
    refine nK hK12 (JE (Jl ?_)); refine J0 ?_
    (rw [if_pos (by assumption)] at hinv
     refine j3 (L' := WR r3 (f ++ S) row1x true ++ WR r4 th row2 own2) ((List.Sublist.refl _).append (.cons _ (List.Sublist.refl _))) ?_
     exact QN (f ++ S, th, row1x, row2, true, own2) ⟨by omega, hinv, hb1x, hb2, by simp only [List.length_append]; omega⟩ rfl)
    · try simp only [ZZ] at h11
      refine Jf (hK8 ?_); refine sQ fun _ hK13 => ?_; refine Ka 10 (by kernel_rfl) (by kernel_rfl) ?_; refine Jk rfl rfl rfl (Jm (v := .int .i64 (H : Int)) rfl (J8 (k := 2) rfl) rfl rfl) ?_; refine Xn rfl rfl rfl (enters_of Tryz.func102 (by kernel_rfl) rfl) (Jvb r4 own2 hb2) (fun q hq => Or.inl (by rw [List.mem_singleton.1 hq]; exact List.mem_cons_of_mem _ (List.mem_append_right _ List.mem_cons_self))) ?_
      refine Jk rfl rfl rfl (J9 rfl rfl rfl) ?_; refine Qk (show _ = Value.int .i64 ((H + th.length : Nat) : Int) from by rw [wrap_i64 (by omega) (by omega)]; congr 1 <;> omega) ?_; refine Jk rfl rfl rfl (J9 rfl rfl rfl) ?_; refine Qk (show _ = uV (H + th.length) from congrArg (Value.int .u64) (wrap_u64 (by omega) (by omega))) ?_; refine Qm rfl rfl rfl (enters_of Tryz.func166 (by kernel_rfl) rfl) (Jbt (n := H + th.length) (by omega) 4) ?_; refine Jk rfl rfl rfl (Jo rfl) ?_; refine Jk rfl rfl rfl (Qh rfl rfl) ?_; refine Jk rfl rfl rfl (Qh rfl rfl) ?_; refine Jk rfl rfl rfl (JN rfl) ?_; refine Jk rfl rfl rfl (JN rfl) ?_; refine Kt ?_; refine nK hK13 (sR fun _ hK14 => ?_); refine Ji rfl (Vn (T := WR r3 f row1 own1) (L0 := (r9, .cells (JK k 0 ins i).cells.toArray 76 (0, 0)) :: WR r4 th row2 own2) (Rl := []) List.perm_middle.symm rfl rfl rfl Jf2 (vo hb1 (s2 := (yI (H + th.length) 4).1) (by omega)) (fun q hq => nomatch hq) fun x => ?_)
      obtain ⟨row1x, hb1x⟩ := x
      refine nK hK14 ?_; refine Ja (Ji rfl (Vn (T := WR r4 th row2 own2) (L0 := WR r3 (f ++ (yI (H + th.length) 4).1) row1x true ++ [(r9, .cells (JK k 0 ins i).cells.toArray 76 (0, 0))]) (Rl := []) (Jrz _ _ _) rfl rfl rfl Jf2 (vo hb2 (s2 := S) (by omega)) (fun q hq => nomatch hq) fun x => ?_))
      obtain ⟨row2x, hb2x⟩ := x
      refine Jg (Jj ?_)
      (rw [if_neg (by rw [Bool.not_eq_true]; assumption)] at hinv
       refine zC List.perm_append_comm ?_; refine j3 (L' := WR r3 (f ++ (yI (H + th.length) 4).1) row1x true ++ WR r4 (th ++ S) row2x true) ((List.sublist_append_left _ _).append (List.Sublist.refl _)) ?_
       exact QN (f ++ (yI (H + th.length) 4).1, th ++ S, row1x, row2x, true, true) ⟨by omega, hinv, hb1x, hb2x, by simp only [List.length_append]; omega⟩ rfl)
  rintro D i ⟨f, th, row1, row2, own1, own2⟩ hfi ⟨him, hinv, hb1, hb2, hlen⟩
  simp only at hinv hb1 hb2 hlen
  have hin : i = items.length := hfi
  rw [hin, List.drop_length, Qa, Yx] at hinv; refine Jj (hK4 ?_); refine sR fun _ hK15 => ?_; refine Vn (T := WR r3 f row1 own1) (L0 := _ :: (WR r4 th row2 own2 ++ [ZL rb items.length, VK ra (.mk k n p ins), _, _, _])) (Rl := []) (by rw [List.append_assoc]; exact List.perm_middle.symm) rfl rfl rfl Jlg (Jfa hb1 (by omega)) (fun q hq => nomatch hq) fun u1 => ?_; refine Vn (T := WR r4 th row2 own2) (L0 := _ :: [ZL rb items.length, VK ra (.mk k n p ins), _, _, _]) (Rl := []) List.perm_middle.symm rfl rfl rfl Jlg (Jfa hb2 (by omega)) (fun q hq => nomatch hq) fun u2 => ?_; refine LR rfl (V1 (a := f) (b := th) rfl rfl (by omega)) ?_; refine Ji rfl (nK hK15 ?_); refine Jb (QK (k := 0) rfl rfl ?_); refine pT rfl rfl rfl fun w1 hs1 => ?_; exact ⟨by rw [← hinv]; rfl, hs1.keep⟩
  · exact fun _ _ _ h => h.elim
theorem Xd {a b c d : Nat} {bits : List Bool} {pb : Pl} {items : List Vl} {pi : Pl} {pick k n : Int} {p : Pl} {ins : List Ty} (h : Kq (.mk a b c d bits pb items pi pick) (.mk k n p ins) = 0) :
    ¬ ((k = 4 ∧ n < items.length) ∨ (k = 6 ∧ n < bits.length)) ∧ yC k n ins.length (.mk a b c d bits pb items pi pick) = true ∧ Qq items k pick ins 0 = 0 := by
  rw [Kq] at h
  split at h
  · cases h
  · rename_i h1
    split at h
    · cases h
    · rename_i h2
      exact ⟨h1, by simpa using h2, h⟩
theorem Wf : ∀ {l : List Vl} {k pick : Int} {ins : List Ty} {i j : Nat} {x : Vl}, Qq l k pick ins i = 0 → l[j]? = some x → Kq x (JK k pick ins (i + j)) = 0
  | [], _, _, _, _, _, _, _, h => by simp at h
  | y :: ys, k, pick, ins, i, j, x, h0, h => by
    rw [Qq] at h0
    split at h0
    · rename_i h1
      cases j with
      | zero => simp at h; subst h; exact h1
      | succ j =>
        rw [List.getElem?_cons_succ] at h
        have := Wf h0 h
        rwa [show i + 1 + j = i + (j + 1) by omega] at this
    · rename_i h1; exact absurd h0 h1
theorem Jnf : ∀ {l : List Vl} {x : Vl}, x ∈ l → wV x ≤ wL l
  | y :: ys, x, h => by
    rw [wL]
    rcases List.mem_cons.1 h with rfl | h
    · omega
    · have := Jnf h; omega
theorem Jfb {a b c d : Nat} {bits : List Bool} {pb : Pl} {items : List Vl} {pi : Pl} {pick : Int} {x : Vl} (h : x ∈ items) : wV x ≤ wV (.mk a b c d bits pb items pi pick) := by
  have := Jnf h
  rw [wV]; omega
theorem Jcz (items : List Vl) (k pick : Int) (ins : List Ty) : ∀ (l : List Vl) (i : Nat), ze (Qa l k pick ins i) ≤ 40 * wL l
  | [], i => by rw [Qa, wL]; exact Nat.zero_le _
  | x :: xs, i => by
    rw [Qa, wL, wy]
    have h1 := wd x (JK k pick ins i)
    have h2 := Jcz items k pick ins xs (i + 1)
    simp only
    omega
theorem Jjc {z : Int} (h1 : 0 ≤ z) (h2 : z < 256) : Value.int .u8 (IntKind.u8.wrap z) = bV (UInt8.ofNat z.toNat) := by
  rw [zy h1 (by omega), ← Jfr (by omega), Int.toNat_of_nonneg h1]
theorem Jr0 {l : List Vl} {k pick : Int} {ins : List Ty} (h : l.length = 1) : ((Qa l k pick ins 0).headD (default, [])).2 = Vt (XC l 0) (JK k pick ins 0) := by
  match l, h with
  | [x], _ => rw [Qa]; rfl
theorem Jc0 {a b c d : Nat} {bits : List Bool} {pb : Pl} {items : List Vl} {pi : Pl} {pick k n dp : Int} {p : Pl} {ins : List Ty} (hc : V6 (.mk k n p ins) dp = 0) (h : Kq (.mk a b c d bits pb items pi pick) (.mk k n p ins) = 0) :
    items.length ≤ 512 ∧ bits.length ≤ 512 ∧ (k = 1 → 1 ≤ n ∧ n ≤ 32) ∧ (k = 8 → items.length = 1 ∧ 0 ≤ pick ∧ pick < ins.length ∧ ins.length ≤ 8) := by
  obtain ⟨h1, h2, _⟩ := Xd h
  obtain ⟨hk, hf, _, _⟩ := QQ hc
  rw [Qo k n ins.length a b c d bits pb items pi pick _ rfl] at h2; simp only [Qe] at h2
  unfold Kk at hf
  have h9 : k = 1 ∨ k = 2 ∨ k = 3 ∨ k = 4 ∨ k = 5 ∨ k = 6 ∨ k = 7 ∨ k = 8 := by omega
  rcases h9 with rfl | rfl | rfl | rfl | rfl | rfl | rfl | rfl
  all_goals generalize items.length = I at *
  all_goals generalize bits.length = J at *
  all_goals generalize ins.length = K at *
  all_goals simp at h1 h2 hf ⊢
  all_goals omega
section
variable {c : Cx} {l : Kn} {L E : Jr} {X : XP} {Q : Exit → Act → World → Prop} {d : List Deferred}
variable {ops : Array Oper} {rest : List Nat} {i k : Nat} {v : Value} {o : Oper} {tb : jp} {S : Jr} {T : Jr → Act → Prop}
theorem VN {t ty : TypeId} {ps : String} {af : Array Edge} {gd : Option (Nat × Bool)} {n e sz : Nat} {pa : List (Nat × Operand)} {vs : Kn} {r zs : List Value} {z : Value} (hk : Wl ops.toList k = some ⟨some i, .buildSlice t n pa.toArray, ty, ps, af, gd⟩) (hg : Kj l ops ⟨some i, .buildSlice t n pa.toArray, ty, ps, af, gd⟩ = some true) (hi : Nat.ble (i + 1) c.n = true)
    (hA : tb k = .grow (Wc (slV n) (.cells r.toArray e (0, 0))))
    (hp : Wy l pa = some vs) (ht : Kl c.P t = some e) (hz : QE c.P e = some z) (hs : KF c.P e = some sz) (hzs : z.cells.size = sz) (hb : Nat.ble (n * sz) 16777216 = true) (h0 : Nat.ble 1 (n * sz) = true)
    (hmk : (madeCells z.cells (n * sz)).toList = zs) (hf : Y8 (fun i => some (i * sz, sz)) zs (Qz vs) = some r)
    (h : ∀ q, HB c d ((i, .slice (some ⟨q, 0, none⟩) n n) :: l) ((q, .cells r.toArray e (0, 0)) :: E) X S ops tb rest T) : HB c d l E X S ops tb (k :: rest) T :=
  Jl4 (V := slV n) hk hg rfl hi hA (fun a w hfr => by
    have h1 := Vh hfr hp
    have h2 : (pa.toArray.map fun (p : Nat × Operand) => (p.1, a.eval p.2)) = vs.toArray := by
      apply Array.toList_inj.1; rw [Array.toList_map]; simpa using h1
    rw [Qs] at hf; subst hmk
    have h3 := Vx ht hz hs hzs (Nat.le_of_ble_eq_true hb) (Nat.le_of_ble_eq_true h0) hf w
    rw [← h2] at h3; simp only [execOp, Sem.run_bind]
    have h4 : (Instr.buildSlice t n (pa.toArray.map fun (i, x) => (i, a.eval x))).run c.P w = .ok (.slice (some ⟨w.heap.size, 0, none⟩) n n) (w.alloc (.cells r.toArray e)) := h3
    rw [h4]; rfl) h
end
section
variable {a b c d : Nat} {bits : List Bool} {pb : Pl} {items : List Vl} {pi : Pl} {pick k n : Int} {p : Pl} {ins : List Ty}
theorem QO : Vt (.mk a b c d bits pb items pi pick) (.mk k n p ins) = if k = 1 then leW [a, b, c, d] n.toNat else if k = 2 then leW [a, b, c, d] 1 else if k = 5 then VB bits else if k = 6 then VB (bits ++ [true])
    else if k = 8 then UInt8.ofNat pick.toNat :: ((Qa items k pick ins 0).headD (default, [])).2 else Yx (Kf ((Qa items k pick ins 0).map Prod.fst)).toNat (Qa items k pick ins 0) [] [] := by rw [Vt]; rfl
end
set_option maxHeartbeats 1000000 in
theorem Jr1 {R : Jr} {v : Vl} (hv : v.In R) : ∀ (t : Ty) (dp : Int), t.In R → V6 t dp = 0 → Kq v t = 0 → wV v ≤ 20000 → PureR Tryz.prog 77 [t.val, v.val].toArray (J2 (Vt v t)) R := by
  induction hv with
  | @mk a b c d bits pb items pi pick ha hb hc hd hlb hsb hl hs hp hi ih =>
  intro t dp ht hck hfit hw
  have ht0 := ht
  cases ht with
  | @mk k n p ins hk hn hlt hst hit =>
  obtain ⟨hk8, ho, h6, hci⟩ := QQ hck
  obtain ⟨hf1, hf2, hf3⟩ := Xd hfit
  obtain ⟨m1, m2, m3, m4⟩ := Jc0 hck hfit
  have hxl : ∀ i, i < items.length → VY k pick i < ins.length := fun i hi => qc (v := .mk a b c d bits pb items pi pick) hck hf2 hi
  have hwd : WOk [a, b, c, d] := ⟨rfl, fun x hx => by simp at hx; rcases hx with rfl | rfl | rfl | rfl <;> assumption⟩
  have hfx := Yv hwd
  have hlen32 : (Zm [a, b, c, d] 32).reverse.length = 32 := by rw [List.length_reverse, VO]
  have hpt := Jcw (s := Zm [a, b, c, d] 32) (by rw [VO]; decide)
  have hle : ∀ m, leW [a, b, c, d] m = ((Zm [a, b, c, d] 32).reverse.take m).drop 0 := fun m => by rw [List.drop_zero]; rfl
  have hrow : ¬ k = 1 → ¬ k = 2 → ¬ k = 5 → ¬ k = 6 → ¬ k = 8 → PureR Tryz.prog 119 [Ty.val (.mk k n p ins), KM items.length pi].toArray (J2 (Vt (.mk a b c d bits pb items pi pick) (.mk k n p ins))) R := fun h1 h2 h5 h6 h8 => by
    have hx0 : ∀ i, i < items.length → VY k 0 i < ins.length := fun i hi => by have := hxl i hi; unfold VY at this ⊢; rw [if_neg h8] at this ⊢; exact this
    have hwl : wL items ≤ wV (.mk a b c d bits pb items pi pick) := by rw [wV]; omega
    have := Jvd (B := 800000) ht0 hs (by omega) hx0 (fun i x hxi => by
      have hm := List.mem_of_getElem? hxi
      have hlt3 := (List.getElem?_eq_some_iff.1 hxi).1
      have hty := (Qn (hx0 i hlt3)).2
      have hg := Wf hf3 hxi
      rw [Nat.zero_add, vr h8] at hg
      exact ih x hm _ (dp + 1) (hit _ hty) (hci _ hty) hg (Nat.le_trans (Jfb hm) hw)) (by have := Jcz items k 0 ins items 0; omega) (by decide)
    rw [QO, if_neg h1, if_neg h2, if_neg h5, if_neg h6, if_neg h8, xQ h8, Jcy]; exact this
  refine Je Tryz.func77 rfl rfl fun w => ?_; refine sR fun _ hK1 => ?_; refine LN rfl fun r1 => ?_; refine LN rfl fun r2 => ?_; refine Ji rfl (nK hK1 ?_); refine sR fun _ hK2 => ?_
  refine LS 2 [0] rfl rfl ?_; refine LR rfl (J3 rfl hsb rfl) ?_; refine LN rfl fun r3 => ?_
  refine LT 0 rfl rfl (nK hK2 ?_); refine sQ fun _ hK3 => sR fun _ hK4 => ?_
  refine LS 2 [2] rfl rfl (nK hK4 ?_); refine Ju (sR fun _ hK5 => (LS 2 [] rfl rfl ?_)); refine nK hK5 ?_; refine Jc rfl (fun h6 => ?_) (fun h6 => ?_)
  try simp only [ZZ] at h6
  refine sQ fun _ hK7 => ?_
  have hn1 := m3 (by assumption)
  refine Ka 8 (by kernel_rfl) (by kernel_rfl) ?_
  refine Jk rfl rfl rfl (JL rfl rfl rfl) ?_; refine Jk rfl rfl rfl (Jx (vs := [_, _, _, _]) rfl (kn 1 rfl) rfl rfl rfl rfl) ?_; refine Qm rfl rfl rfl Jf3 hfx ?_; refine Qm rfl rfl rfl Jli hpt ?_
  refine Jk rfl rfl rfl (JL rfl rfl rfl) ?_; refine Jk rfl rfl rfl (Jm rfl (kn 2 rfl) rfl rfl) ?_; refine Jk rfl rfl rfl (V8 (kl := none) (kh := some (.i64, n)) (m := 0) (n := n.toNat) rfl rfl rfl rfl rfl (by show n = ((n.toNat : Nat) : Int); omega) (Nat.zero_le _) (by rw [hlen32]; omega) rfl) ?_; rw [← hle]; refine Jk rfl rfl rfl (JN rfl) ?_; refine Kt ?_; refine nK hK7 (Jb (Jn (Jd ?_))); refine pT rfl rfl rfl fun w1 hs1 => ?_; refine ⟨?_, hs1.keep⟩; rw [QO, if_pos (by assumption)]; rfl
  · try simp only [ZZ] at h6
    refine sR fun _ hK8 => LS 2 [] rfl rfl (nK hK8 ?_); refine Jc rfl (fun h9 => ?_) (fun h9 => ?_)
    try simp only [ZZ] at h9
    refine sR fun _ hK10 => ?_
    refine LS 2 [1] rfl rfl ?_; refine JD rfl rfl rfl Jf3 hfx ?_; refine JD rfl rfl rfl Jli hpt ?_; refine LR rfl (V8 (kl := none) (kh := some (.i64, 1)) (m := 0) (n := 1) rfl rfl rfl rfl rfl (by show (1 : Int) = ((1 : Nat) : Int); omega) (Nat.zero_le _) (by rw [hlen32]; omega) rfl) ?_; rw [← hle]; refine Ji rfl (nK hK10 ?_); refine Jb (Jn (Jd ?_)); refine pT rfl rfl rfl fun w1 hs1 => ?_; refine ⟨?_, hs1.keep⟩; rw [QO, if_neg (by assumption), if_pos (by assumption)]; rfl
    · try simp only [ZZ] at h9
      refine sR fun _ hK11 => LS 2 [] rfl rfl (nK hK11 ?_); refine Jc rfl (fun h12 => ?_) (fun h12 => ?_)
      try simp only [ZZ] at h12
      refine sR fun _ hK13 => ?_; refine LR rfl (Jm rfl (kn 0 rfl) rfl rfl) ?_; refine LR rfl (Kv rfl rfl) ?_; refine Jh (Rl := WO r2 (.mk a b c d bits pb items pi pick) :: R) rfl rfl rfl (enters_of Tryz.func116 (by kernel_rfl) rfl) (Jne (caps := [V9 r2]) (by omega) (enters_of Tryz.func117 (by kernel_rfl) rfl) (fun i hi => Jyk hsb (by omega) r2 hi)) (fun q hq => (List.mem_cons.1 hq).elim (fun h => .inl (by rw [h]; exact List.mem_cons_of_mem _ List.mem_cons_self)) .inr) ?_; refine Ji rfl (nK hK13 ?_); refine Jb (Jn (Jd ?_)); refine pT rfl rfl rfl fun w1 hs1 => ?_; refine ⟨?_, hs1.keep⟩; rw [QO, if_neg (by assumption), if_neg (by assumption), if_pos (by assumption)]; rfl
      · try simp only [ZZ] at h12
        refine sR fun _ hK14 => LS 2 [] rfl rfl (nK hK14 ?_); refine Jc rfl (fun h15 => ?_) (fun h15 => ?_)
        try simp only [ZZ] at h15
        refine sR fun _ hK16 => LS 2 [0] rfl rfl ?_; refine Jy (show _ = Value.int .i64 (((bits ++ [true]).length : Nat) : Int) from by rw [wrap_i64 (by omega) (by omega)]; congr 1; rw [List.length_append]; rfl) ?_; refine LR rfl (Kv rfl rfl) ?_
        refine Jh (Rl := ZL r3 bits.length :: WO r2 (.mk a b c d bits pb items pi pick) :: R) rfl rfl rfl (enters_of Tryz.func116 (by kernel_rfl) rfl) (Jne (caps := [V9 r3, V9 r2]) (by rw [List.length_append]; simp; omega) (enters_of Tryz.func118 (by kernel_rfl) rfl) (fun i hi => Jyl hsb (by omega) r3 r2 hi)) (fun q hq => by rcases List.mem_cons.1 hq with rfl | hq; exact .inl List.mem_cons_self; rcases List.mem_cons.1 hq with rfl | hq; exact .inl (List.mem_cons_of_mem _ List.mem_cons_self); exact .inr hq) ?_; refine Ji rfl (nK hK16 ?_); refine Jb (Jn (Jd ?_)); refine pT rfl rfl rfl fun w1 hs1 => ?_; refine ⟨?_, hs1.keep⟩; rw [QO, if_neg (by assumption), if_neg (by assumption), if_neg (by assumption), if_pos (by assumption)]; rfl
        · try simp only [ZZ] at h15
          refine sR fun _ hK17 => LS 2 [] rfl rfl (nK hK17 ?_); refine Jc rfl (fun h18 => ?_) (fun h18 => ?_)
          try simp only [ZZ] at h18
          refine sQ fun _ hK19 => ?_
          have hk0 : k = 8 := by assumption
          have h81 := (m4 hk0).1
          have hx8 := XD (l := items) (i := 0) (by omega)
          have hty8 := Qn (hxl 0 (by omega))
          have hix8 : VY k pick 0 = pick.toNat := by unfold VY; rw [if_neg (by omega), if_pos hk0]
          rw [hix8] at hty8
          have hg8 := Wf hf3 hx8.1
          have hw8 := Nat.le_trans (Jfb (a := a) (b := b) (c := c) (d := d) (bits := bits) (pb := pb) (pi := pi) (pick := pick) hx8.2) hw
          have hrec := ih _ hx8.2 (JK k pick ins 0) (dp + 1) (hit _ hty8.2) (hci _ hty8.2) hg8 hw8
          have hpl8 := wd (XC items 0) (JK k pick ins 0)
          refine JS [] [(0, .pure), (2, .pure), (3, .grow (Wc (slV 1) (.cells #[bV (UInt8.ofNat pick.toNat)] 5 (0, 0)))), (5, .pure), (7, .pure), (9, .pure), (11, .pure), (13, .pure), (16, .pure), (17, .pure)] 18 [0, 1, 2, 5, 6, 7, 8, 9, 10, 11, 12, 13, 14, 15, 3, 4, 16, 17] (by kernel_rfl) (by kernel_rfl) (by first | exact (fun _ h => absurd h List.not_mem_nil) | simp [SubS] | (intro p hp; simp [hp])) ?_
          refine Jw (k := 0) rfl rfl rfl rfl rfl (fun _ hS => (JL rfl rfl rfl)) ?_; refine KW (k := 1) rfl rfl rfl rfl rfl (Jm rfl (kn 1 rfl) rfl rfl) ?_; refine Jw (k := 2) rfl rfl rfl rfl rfl (fun _ hS => (J9 rfl rfl rfl)) ?_; refine W9 (show _ = bV (UInt8.ofNat pick.toNat) from Jjc (m4 (by assumption)).2.1 (by have := m4 (by assumption); omega)) ?_
          refine Jw (k := 5) rfl rfl rfl rfl rfl (fun _ hS => (JL rfl rfl rfl)) ?_; refine KW (k := 6) rfl rfl rfl rfl rfl (Jm rfl (kn 2 rfl) rfl rfl) ?_
          refine Jw (k := 7) rfl rfl rfl rfl rfl (fun _ hS => (JL rfl rfl rfl)) ?_; refine KW (k := 8) rfl rfl rfl rfl rfl (Jm rfl (kn 1 rfl) rfl rfl) ?_; refine Jw (k := 9) rfl rfl rfl rfl rfl (fun _ hS => (Jp (j := pick.toNat) rfl hst rfl rfl rfl (by have := m4 (by assumption); omega) (by have := m4 (by assumption); omega))) ?_; refine KW (k := 10) rfl rfl rfl rfl rfl (KV (fun q hq => Or.inr hq) rfl hst hty8.1 rfl rfl) ?_
          refine Jw (k := 11) rfl rfl rfl rfl rfl (fun _ hS => (JL rfl rfl rfl)) ?_; refine KW (k := 12) rfl rfl rfl rfl rfl (Jm rfl (kn 1 rfl) rfl rfl) ?_
          refine Jw (k := 13) rfl rfl rfl rfl rfl (fun _ hS => (Jp (j := 0) rfl hs rfl rfl rfl (by first | rfl | omega) (by omega))) ?_; refine KW (k := 14) rfl rfl rfl rfl rfl (QI (fun q hq => Or.inr hq) rfl hs hx8.1 rfl rfl) ?_; refine Qp (k := 15) rfl rfl rfl rfl rfl Jur hrec (fun q hq => Or.inr hq) ?_; refine VN (k := 3) (n := 1) (sz := 1) (vs := [_]) (zs := [_]) (r := [bV (UInt8.ofNat pick.toNat)]) rfl rfl rfl rfl rfl rfl rfl rfl rfl rfl rfl (by show (madeCells #[_] _).toList = _; rw [VJ]; exact rfl) rfl fun rv => ?_; refine KW (k := 4) rfl rfl rfl rfl rfl (QH (b := [UInt8.ofNat pick.toNat]) (row := some (rv, 1, [])) (e := 5) rfl ⟨rfl, rfl⟩ (fun p hp => .inl (by rw [List.mem_singleton.1 hp]; exact List.mem_cons_self)) rfl rfl rfl) ?_; refine Jw (k := 16) rfl rfl rfl rfl rfl (fun _ hS => (V1 (a := [UInt8.ofNat pick.toNat]) (b := Vt (XC items 0) (JK k pick ins 0)) rfl rfl (by simp only [List.length_cons, List.length_nil]; omega))) ?_; refine Jw (k := 17) rfl rfl rfl rfl rfl (fun _ hS => (JN rfl)) ?_; refine KC ?_; refine nK hK19 (Jb (Jn (Jd ?_))); refine pT rfl rfl rfl fun w1 hs1 => ?_; refine ⟨?_, hs1.keep⟩; rw [QO, if_neg (by assumption), if_neg (by assumption), if_neg (by assumption), if_neg (by assumption), if_pos (by assumption), Jr0 h81]; rfl
          · try simp only [ZZ] at h18
            refine Jf (Jj (hK3 ?_)); refine sR fun _ hK20 => ?_; refine LR rfl (Jx (vs := [_, _, _]) rfl (kn 2 rfl) rfl rfl rfl rfl) ?_
            refine LS 2 [1] rfl rfl ?_; refine Jh rfl rfl rfl (enters_of Tryz.func119 (by kernel_rfl) rfl) (hrow (by assumption) (by assumption) (by assumption) (by assumption) (by assumption)) (fun q hq => Or.inr hq) ?_; refine Ji rfl (nK hK20 ?_); refine Jb (pT rfl rfl rfl fun w1 hs1 => ?_); refine ⟨?_, hs1.keep⟩
            rfl
section
variable {c : Cx} {l : Kn} {L : Jr} {X : XP} {Q : Exit → Act → World → Prop} {d : List Deferred}
variable {ops : Array Oper} {rest : List Oper} {i : Nat} {v : Value} {t : TypeId} {ps : String} {af : Array Edge} {gd : Option (Nat × Bool)} {ty : TypeId}
end
theorem Y3 {t : Ty} {v : Vl} (h : Vv t v = 0) : V6 t 0 = 0 ∧ Kq v t = 0 := by
  unfold Vv at h
  split at h
  · rename_i h1; exact ⟨h1, h⟩
  · rename_i h1; exact absurd h h1
theorem Jr2 {v : Vl} (t : Ty) (h : wV v ≤ 20000) : (Vt v t).length ≤ 800000 := by have := wd v t; omega
theorem Jng {R : Jr} {t : Ty} {v : Vl} (ht : t.In R) (hv : v.In R) (hw : wV v ≤ 20000) : PureR Tryz.prog 52 [t.val, v.val].toArray (ZI (jt t v)) R := by
  have h1 := Jl7 ht hv
  have h2 := fun h => Jr1 hv t 0 ht (Y3 (t := t) (v := v) h).1 (Y3 h).2 hw
  have hlb := Jr2 t hw
  unfold jt
  generalize Vv t v = e at h1 h2 ⊢
  generalize Vt v t = s at h2 hlb ⊢
  obtain ⟨k, n, p, ins⟩ := t
  obtain ⟨a, b, c, d, bits, pb, items, pi, pick⟩ := v
  refine Je Tryz.func52 rfl rfl fun w => ?_; refine sR fun _ hK1 => ?_; refine LN rfl fun r1 => ?_; refine LN rfl fun r2 => ?_; refine LS 2 [] rfl rfl (nK hK1 ?_); refine sQ fun _ hK2 => sR fun _ hK3 => ?_; refine LS 2 [1, 0] rfl rfl ?_; refine Jh rfl rfl rfl (enters_of Tryz.func76 (by kernel_rfl) rfl) h1 (fun q hq => Or.inr hq) ?_; refine Ji rfl (nK hK3 ?_); refine sR fun _ hK4 => LS 2 [] rfl rfl (nK hK4 ?_); refine Jc rfl (fun h5 => ?_) (fun h5 => ?_)
  try simp only [ZZ] at h5
  refine sR fun _ hK6 => LS 3 [] rfl rfl (nK hK6 ?_); refine Jb (Jd ?_); refine Jv rfl rfl (.cons (J4 rfl) (.cons (J4 rfl) .nil)) (fun w1 hs1 => ?_); refine ⟨?_, hs1.keep⟩; rw [if_pos (by omega)]; rfl
  · try simp only [ZZ] at h5
    refine Jf (hK2 ?_); refine sR fun _ hK7 => LS 2 [1, 0] rfl rfl ?_; refine Jh rfl rfl rfl Jur (h2 (by omega)) (fun q hq => Or.inr hq) ?_; refine Ji rfl (nK hK7 ?_); refine sQ fun _ hK8 => sR fun _ hK9 => ?_; refine Ji rfl (LR rfl (JT rfl rfl) (JZ rfl ?_)); refine nK hK9 ?_; refine Jc rfl (fun h10 => ?_) (fun h10 => ?_)
    try simp only [ZZ] at h10
    refine sR fun _ hK11 => LS 2 [] rfl rfl (nK hK11 ?_); refine Jb (Jd ?_); refine Jv rfl rfl (.cons (J4 rfl) (.cons (J4 rfl) .nil)) (fun w1 hs1 => ?_); refine ⟨?_, hs1.keep⟩; rw [if_neg (by omega), if_pos (by omega)]; rfl
    · try simp only [ZZ] at h10
      refine Jf (hK8 ?_); refine sR fun _ hK12 => LS 3 [] rfl rfl (nK hK12 ?_); refine Jb ?_; refine Jv rfl rfl (.cons (J4 rfl) (.cons (J4 rfl) .nil)) (fun w1 hs1 => ?_); refine ⟨?_, hs1.keep⟩; rw [if_neg (by omega), if_neg (by omega)]; rfl
section
variable {c : Cx} {l : Kn} {L : Jr} {X : XP} {d : List Deferred} {i : Nat} {ps : String} {af : Array Edge} {gd : Option (Nat × Bool)} {ty : TypeId}
theorem Jc1 {x : Operand} {b : List UInt8} {r off n cap : Nat} {cs : Array Value} {e src dst : TypeId} {fr : Nat × Nat} (hx : Ke l x = some (.slice (some ⟨r, off, none⟩) n cap)) (hk : known c L r (.cells cs e fr)) (hn : n = b.length) (ht : (cs.toList.drop off).take b.length = b.map bV)
    (hs : Kl c.P src = some e) (he : c.P.underlying e = some (.int .u8)) (hd : vJ c.P dst = true) :
    J7 c d l L X ⟨some i, .convert src dst x, ty, ps, af, gd⟩ (.string (bs b)) := fun a' w hf hst => by
  subst hn; simp only [execOp]; rw [hf.eval hx]
  have hget := hst.known hk
  have hl : (loadCells ⟨r, off, none⟩ (b.map bV).length).run c.P w = .ok (b.map bV).toArray w := run_loadCells_list w ⟨r, off, none⟩ (b.map bV) fun j v hj => by
    have hlt := (List.getElem?_eq_some_iff.1 hj).1
    rw [List.length_map] at hlt
    have hj2 : cs[off + j]? = some v := by
      rw [← ht, List.getElem?_take, if_pos hlt, List.getElem?_drop] at hj
      simpa using hj
    rw [jf, VZ hget]; exact hj2
  rw [List.length_map] at hl; simp only [Sem.run_bind]; rw [run_convert_bytes_string w src dst e _ _ _ (Kc hs) he (Vk hd)]; rw [run_bytesToString w _ _ _ (b.map fun x => ((x.toNat : Nat) : Int)) (by rw [hl]; simp [bV, Function.comp_def])]
  have := Zl b []
  rw [show (bs [] : ByteArray) = ByteArray.empty from rfl] at this; rw [this]
  rfl
end
def Xv (s : BS) (i : Nat) : BS := (s.drop (32 * i)).take 32
def xT (s : BS) : Nat := (s.length + 31) / 32
def wz (s : BS) (m : Nat) : List BS := (List.range m).map fun i => ZC (Xv s i)
def Y4 (s : BS) : List BS := wz s (xT s)
theorem Jnh (s : BS) (m : Nat) : (wz s m).length = m := by unfold wz; rw [List.length_map, List.length_range]
theorem YX (s : BS) : (Y4 s).length = xT s := Jnh _ _
theorem Y5 (s : BS) (i : Nat) : (Xv s i).length = min 32 (s.length - 32 * i) := by unfold Xv; rw [List.length_take, List.length_drop]
theorem Jjd (s : BS) (i : Nat) : W3 (wz s (i + 1)) = W3 (wz s i) ++ [J2 (ZC (Xv s i))] := by
  unfold wz
  rw [List.range_succ, List.map_append, List.map_cons, List.map_nil, YW]
theorem Zw (s : BS) : ∀ x ∈ Y4 s, x.length = 32 := by
  intro x hx
  unfold Y4 wz at hx
  obtain ⟨i, _, rfl⟩ := List.mem_map.1 hx
  exact WD (by rw [Y5]; omega)
theorem Jni (s : BS) (i : Nat) (sp : List Value) : ((s.map bV ++ sp).toArray.toList.drop (32 * i)).take (Xv s i).length = (Xv s i).map bV := by
  simp only [List.toList_toArray]; rw [Y5]
  by_cases h : 32 * i ≤ s.length
  · rw [List.drop_append_of_le_length (by rw [List.length_map]; exact h), List.take_append_of_le_length (by rw [List.length_drop, List.length_map]; omega)]
    unfold Xv
    rw [List.map_take, List.map_drop]
    rcases Nat.le_total 32 (s.length - 32 * i) with h2 | h2
    · rw [Nat.min_eq_left h2]
    · rw [Nat.min_eq_right h2, List.take_of_length_le (by rw [List.length_drop, List.length_map]; omega), List.take_of_length_le (by rw [List.length_drop, List.length_map]; omega)]
  · unfold Xv
    rw [show s.length - 32 * i = 0 by omega, Nat.min_zero, List.take_zero, List.drop_of_length_le (by omega)]; rfl
def chM (rb n cap : Nat) (p : Nat × Nat) : Jr := [(p.2, .cells #[.int .i64 32] 3 (0, 0)), (p.1, .cells #[.slice (some ⟨rb, 0, none⟩) n cap] 55 (0, 0))]
theorem Jnj (rb n cap : Nat) : PureE (α := Nat × Nat) Tryz.prog 236 [.slice (some ⟨rb, 0, none⟩) n cap, .int .i64 32].toArray (fun p => .func (.func 257) #[] #[V9 p.1, V9 p.2]) (chM rb n cap) := by
  refine Vy Tryz.func236 rfl rfl fun w => ?_; refine sR fun _ hK1 => ?_; refine LN rfl fun r1 => ?_; refine LN rfl fun r2 => ?_; refine Ji rfl (nK hK1 ?_); refine sQ fun _ hK2 => sR fun _ hK3 => ?_; refine LS 2 [0] rfl rfl (nK hK3 ?_); refine Jc rfl (fun h4 => ?_) (fun h4 => ?_)
  exact absurd h4 (by decide)
  · try simp only [ZZ] at h4
    refine Jf (hK2 ?_); refine sR fun _ hK5 => ?_; refine LR rfl (Kv rfl rfl) ?_; refine Ji rfl (nK hK5 ?_); refine Jb (pT rfl rfl rfl fun w1 hs1 => ?_); exact ⟨(r1, r2), rfl, hs1⟩
def Jfc (rb n j : Nat) : List Value := [.slice (some ⟨rb, 32 * j, none⟩) (min 32 (n - 32 * j)) (min 32 (n - 32 * j))]
theorem Jnk {rb n cap N : Nat} (hn : N = (n + 31) / 32) (hcap : n ≤ cap) (hlim : n ≤ 1000000) (p1 p2 : Nat) : zz Tryz.prog 257 [V9 p1, V9 p2] (chM rb n cap (p1, p2)) 0 (nxN (Jfc rb n) N) (Jd3 N) := by
  refine Wp Tryz.func257 rfl rfl fun q xids w2 XI XF hY => ?_; refine sR fun _ hK1 => Ji rfl (nK hK1 ?_); refine Ju (JG (σ := Nat) (fun i => i ≤ N) (fun i => [(0, .func (.yield q) #[] #[]), (1, V9 p1), (2, V9 p2), (4, .int .i64 ((32 * i : Nat) : Int))]) (fun _ => []) (fun i => XI i) (fun i => N - i) 0 (Nat.zero_le _) (.cons rfl (.cons rfl (.cons rfl (.cons rfl .nil)))) (List.nil_sublist _) (fun _ _ h => h) ?_); intro i hi; refine sQ fun _ hK2 => sR fun _ hK3 => ?_; refine Ji rfl (LR rfl (Jm rfl (J8 (k := 1) rfl) rfl rfl) (LR rfl (KI rfl rfl) ?_)); refine JZ rfl (nK hK3 ?_); refine Jc rfl (fun h4 => ?_) (fun h4 => ?_)
  · try simp only [ZZ] at h4
    refine Jf (hK2 ?_); refine sB fun _ hK5 => sQ fun _ hK6 => ?_
    obtain ⟨M, hM⟩ : ∃ M, M = min 32 (n - 32 * i) := ⟨_, rfl⟩
    have hM1 : M ≤ 32 := by omega
    have hM2 : 0 < M := by omega
    refine Ka 7 (by kernel_rfl) (by kernel_rfl) ?_; refine Jk rfl rfl rfl (Jm rfl (J8 (k := 0) rfl) rfl rfl) ?_; refine Jk rfl rfl rfl (Jm rfl (J8 (k := 1) rfl) rfl rfl) ?_; refine Jk rfl rfl rfl (Jo rfl) ?_; refine Jk rfl rfl rfl (JR (kl := some (32 * i)) (kh := none) (km := none) (sz := 1) (m := 32 * i) (q := n) (z := cap) rfl rfl rfl ⟨_, rfl⟩ trivial trivial rfl rfl rfl (by omega) hcap (Nat.le_refl _) (fun _ => rfl) rfl) ?_; refine Jk rfl rfl rfl (KI rfl rfl) ?_
    refine Jk rfl rfl rfl (Jla (r := ((M : Nat) : Int)) rfl rfl (by rw [hM]; split <;> omega)) ?_; refine Jk rfl rfl rfl (JN rfl) ?_; refine Kt ?_; refine nK hK6 (sR fun _ hK7 => ?_); refine Ji rfl (LR rfl (Jm rfl (J8 (k := 1) rfl) rfl rfl) (LS 3 [] rfl rfl ?_))
    refine JZ rfl ?_; refine Jy (show _ = Value.int .i64 ((32 * i + M : Nat) : Int) from by rw [wrap_i64 (by omega) (by omega)]; congr 1 <;> omega) ?_; refine LS 2 [] rfl rfl ?_
    refine JZ rfl ?_; refine Jy (show _ = Value.int .i64 ((32 * i + M : Nat) : Int) from by rw [wrap_i64 (by omega) (by omega)]; congr 1 <;> omega) ?_
    refine LR rfl (JR (kl := some (32 * i)) (kh := some (32 * i + M)) (km := some (32 * i + M)) (sz := 1) (m := 32 * i) (q := 32 * i + M) (z := 32 * i + M) (off' := 32 * i) rfl rfl rfl ⟨_, rfl⟩ ⟨_, rfl⟩ ⟨_, rfl⟩ rfl rfl rfl (by omega) (Nat.le_refl _) (by omega) (fun h => by cases h) (by rw [if_neg (by omega)]; omega)) ?_; refine Jy (show _ = Value.slice (some ⟨rb, 32 * i, none⟩) (min 32 (n - 32 * i)) (min 32 (n - 32 * i)) from by congr 1 <;> omega) ?_; refine W5 (XT := XI (i + 1)) (XF := XF) rfl rfl rfl rfl (hY i (Jfc rb n i) (i + 1) ⟨by omega, rfl, rfl⟩) ?_ ?_
    all_goals refine JZ rfl ?_
    all_goals refine Jg ?_
    all_goals (
     refine hK7 ?_; refine Jc rfl (fun h8 => ?_) (fun h8 => ?_)
     · try exact Bool.noConfusion h8
       all_goals try simp only [ZZ] at h8
       all_goals (
        refine Jb (Jn (Jd ?_)); refine Jd (Jn ?_); refine Jv rfl rfl .nil (fun w1 hs1 => ?_)
        obtain ⟨xs1, hx1⟩ := hs1.now
        exact ⟨⟨_, rfl⟩, hs1.keep, .inr ⟨_, hx1⟩⟩
        skip)
     · try exact Bool.noConfusion h8
       all_goals try simp only [ZZ] at h8
       all_goals (
        refine Jf (Jj (hK5 ?_)); refine Ja (Ji rfl (LR rfl (Jm rfl (J8 (k := 0) rfl) rfl rfl) ?_))
        refine JZ rfl ?_; refine Jy (show _ = Value.int .i64 ((32 * (i + 1) : Nat) : Int) from by rw [wrap_i64 (by omega) (by omega)]; congr 1 <;> omega) ?_; refine Ji rfl (Jg (J5 ?_)); exact J1 (i + 1) (by omega) (by omega) (.cons rfl (.cons rfl (.cons rfl (.cons rfl .nil)))) (List.nil_sublist _) (fun _ _ h => h)
        skip)
     skip)
  · try simp only [ZZ] at h4
    refine JE (Jl ?_); refine Jl (J0 ?_); refine Qx rfl rfl .nil (fun w1 hs1 => ?_)
    obtain ⟨xs1, hx1⟩ := hs1.now
    exact ⟨⟨_, rfl⟩, hs1.keep, .inl ⟨i, _, (by show i = N; omega), hx1⟩⟩
theorem Jw8 {s : BS} (hl : s.length ≤ 1000000) : PureT (α := { row : Vz // rowOk 1 (xT s) (W3 (Y4 s)) row }) Tryz.prog 172 [J2 s].toArray (fun x => JF (xT s) x.1) [] (fun x => JY 9 (W3 (Y4 s)) x.1) [] := by
  obtain ⟨N, hN⟩ : ∃ N, N = xT s := ⟨_, rfl⟩
  have hN2 : N = (s.length + 31) / 32 := hN
  have hC : Y4 s = wz s N := by rw [hN]; rfl
  rw [hC, ← hN]; refine JH Tryz.func172 rfl rfl fun w => ?_; refine sR fun _ hK1 => Ji rfl (nK hK1 ?_); refine sR fun _ hK2 => ?_; refine LN rfl fun r1 => ?_; refine nK hK2 (sQ fun _ hK3 => ?_); refine sR fun _ hK4 => ?_; refine Ji rfl (X8 rfl rfl rfl rfl rfl rfl fun rb kb => (Vq rfl rfl rfl (enters_of Tryz.func236 (by kernel_rfl) rfl) (Jnj rb s.length (s.length + kb)) fun pp => ?_))
  obtain ⟨p1, p2⟩ := pp
  change HL _ _ _ [(p2, _), (p1, _), (rb, _), (r1, _)] _ _ _ _; refine nK hK4 (Ju (Yr [3, 0, 1, 2] (L' := [_, _, _, _]) (by decide) rfl ?_))
  refine WY (τ := Unit) (fun i (q : Nat × Vz) => i ≤ N ∧ i = q.1 ∧ rowOk 1 q.1 (W3 (wz s q.1)) q.2) (fun q => (r1, .cells #[JF q.1 q.2] 109 (0, 0)) :: JY 9 (W3 (wz s q.1)) q.2) (fun _ _ => False) (fun _ => []) [(p2, _), (p1, _), (rb, _)] (0, none) rfl rfl (enters_of Tryz.func257 (by kernel_rfl) rfl) (Jnk (rb := rb) (cap := s.length + kb) hN2 (by omega) hl p1 p2) (by rintro _ _ _ ⟨_, rfl, _⟩; rfl) rfl (fun q hq => .inl (by rcases List.mem_cons.1 hq with rfl | hq; exact List.mem_cons_self; rw [List.mem_singleton.1 hq]; exact List.mem_cons_of_mem _ List.mem_cons_self)) rfl ⟨Nat.zero_le _, rfl, rfl, rfl⟩ ?_ ?_ ?_
  rintro q Xr Xb w3 i _ _ ⟨i2, row⟩ ⟨hii, rfl, rfl⟩ ⟨him, he, hrow⟩ Kr hKr
  simp only at he
  obtain rfl := he
  simp only at hrow
  unfold Jfc
  refine Ja (Ji rfl (Jg ?_)); refine hKr _ _ ?_; clear hKr; refine Ju ?_
  have hfull := Je6 (s := Xv s i) (by rw [Y5]; omega)
  have hsn := Jjd s i
  obtain ⟨sv, hsv⟩ : ∃ x, x = ZC (Xv s i) := ⟨_, rfl⟩
  rw [← hsv] at hfull hsn
  refine JS [] [(1, .pure), (3, .pure), (4, .grow (Wc (slV 1) (.cells #[J2 sv] 9 (0, 0))))] 5 [0, 1, 2, 3, 4] (by kernel_rfl) (by kernel_rfl) (by first | exact (fun _ h => absurd h List.not_mem_nil) | simp [SubS] | (intro p hp; simp [hp])) ?_; refine KW (k := 0) rfl rfl rfl rfl rfl (Jm (v := JF i row) rfl (kn 0 rfl) rfl rfl) ?_; refine Jw (k := 1) rfl rfl rfl rfl rfl (fun _ hS => (Jo rfl)) ?_; refine KW (k := 2) rfl rfl rfl rfl rfl (Jc1 (b := Xv s i) rfl (J8 (k := 2) rfl) (Y5 s i).symm (Jni s i _) rfl rfl rfl) ?_; refine WA (k := 3) rfl rfl rfl rfl rfl Jln hfull ?_; refine VN (k := 4) (n := 1) (sz := 1) (vs := [_]) (zs := [_]) (r := [J2 sv]) rfl rfl rfl rfl rfl rfl rfl rfl rfl rfl rfl (by show (madeCells #[_] _).toList = _; rw [VJ]; exact rfl) rfl fun rv => ?_; refine KC ?_; refine Km (L0 := [_, _]) (xs := W3 (wz s i)) (row := row) (n := i) (sz := 1) (b := 16) (news := [J2 sv]) (List.perm_append_comm (l₁ := [_, _])) rfl rfl rfl rfl (kn 0 rfl) rfl rfl rfl rfl rfl (by decide) rfl rfl rfl (by decide) hrow (by omega) (by omega) fun ra cap sp hra => ?_; refine Kz (k := 2) (cs' := #[JF (i + 1) (some (ra, cap, sp))]) rfl rfl rfl rfl rfl rfl rfl rfl rfl rfl ?_; refine Jg (Jj (Vi [2, 0] (L' := [_, _]) (by decide) rfl ?_)); exact QN (i + 1, some (ra, cap, sp)) ⟨by omega, rfl, by simp only; rw [hsn]; exact hra⟩ (by simp only; rw [hsn]; rfl)
  rintro D i ⟨i2, row⟩ hfi ⟨him, he, hrow⟩
  simp only at he hrow
  obtain rfl : N = i := Eq.symm hfi
  obtain rfl := he
  refine Jj (hK3 ?_); refine sR fun _ hK5 => ?_; refine LR rfl (Jm (v := JF N row) rfl (kn 1 rfl) rfl rfl) ?_; refine Ji rfl (nK hK5 ?_); refine Jb (QK (k := 0) rfl rfl ?_); refine pT rfl rfl rfl fun w1 hs1 => ?_; exact ⟨⟨row, hrow⟩, rfl, hs1.weakL (.cons _ (.cons _ (List.sublist_append_left _ _)))⟩
  · exact fun _ _ _ h => h.elim
theorem Jnl {n : Nat} (hn : n ≤ 4611686018427387904) : Pure Tryz.prog 173 [.int .i64 (n : Int)].toArray (.int .i64 (((n + 31) / 32 : Nat) : Int)) := by
  refine JC Tryz.func173 rfl rfl fun w => ?_; refine sR fun _ hK1 => Ji rfl (nK hK1 ?_); refine sR fun _ hK2 => Ji rfl ?_
  refine JZ rfl ?_; refine Jy (show _ = Value.int .i64 ((n + 32 : Nat) : Int) from by rw [wrap_i64 (by omega) (by omega)]; congr 1 <;> omega) ?_
  refine JZ rfl ?_; refine Jy (show _ = Value.int .i64 ((n + 31 : Nat) : Int) from by rw [wrap_i64 (by omega) (by omega)]; congr 1 <;> omega) ?_; refine JZ rfl (Jy (show _ = Value.int .i64 (((n + 31) / 32 : Nat) : Int) from congrArg (Value.int .i64) (QM (by omega) (by decide) (by omega))) (Ji rfl ?_)); refine nK hK2 (Jb ?_); refine pT rfl rfl rfl fun w1 hs1 => ?_; exact ⟨rfl, hs1.keep⟩
def Xw (x : Ty) : Bool := decide (x.k = 1) || decide (x.k = 2)
def WX (items : List Vl) (x : Ty) : BS := (items.map fun v => Vt v x).flatten
def WS (k n : Int) (ins : List Ty) (items : List Vl) (rs : List BS) : BS :=
  if k = 7 then Ve rs ins.length else if Xw (ins.getD 0 default) = true then Ve (Y4 (WX items (ins.getD 0 default))) ((n.toNat * (JV (ins.getD 0 default)).toNat + 31) / 32) else Ve rs n.toNat
mutual
def KB : Vl → Ty → BS
  | .mk a b c d bits _ items _ pick, t =>
    if t.k = 1 ∨ t.k = 2 then leW [a, b, c, d] 32 else if t.k = 4 then XQ (WS t.k t.n t.ins items (Kg items t.k pick t.ins 0)) items.length
    else if t.k = 5 then Ve (Y4 (VB bits)) ((t.n.toNat + 255) / 256) else if t.k = 6 then XQ (Ve (Y4 (VB bits)) ((t.n.toNat + 255) / 256)) bits.length
    else if t.k = 8 then XQ ((Kg items t.k pick t.ins 0).headD []) pick.toNat else WS t.k t.n t.ins items (Kg items t.k pick t.ins 0)
def Kg : List Vl → Int → Int → List Ty → Nat → List BS
  | [], _, _, _, _ => []
  | x :: xs, k, pick, ins, i => KB x (JK k pick ins i) :: Kg xs k pick ins (i + 1)
end
section
variable {a b c d : Nat} {bits : List Bool} {pb : Pl} {items : List Vl} {pi : Pl} {pick k n : Int} {p : Pl} {ins : List Ty}
theorem WJ : KB (.mk a b c d bits pb items pi pick) (.mk k n p ins) = if k = 1 ∨ k = 2 then leW [a, b, c, d] 32 else if k = 4 then XQ (WS k n ins items (Kg items k pick ins 0)) items.length
    else if k = 5 then Ve (Y4 (VB bits)) ((n.toNat + 255) / 256) else if k = 6 then XQ (Ve (Y4 (VB bits)) ((n.toNat + 255) / 256)) bits.length
    else if k = 8 then XQ ((Kg items k pick ins 0).headD []) pick.toNat else WS k n ins items (Kg items k pick ins 0) := by rw [KB]; rfl
end
theorem Wv : ∀ (l : List Vl) (k pick : Int) (ins : List Ty) (i : Nat), (Kg l k pick ins i).length = l.length
  | [], _, _, _, _ => by rw [Kg]; rfl
  | x :: xs, k, pick, ins, i => by rw [Kg, List.length_cons, Wv xs, List.length_cons]
theorem wA {k : Int} (h8 : k ≠ 8) (pick : Int) (ins : List Ty) : ∀ (l : List Vl) (i : Nat), Kg l k pick ins i = Kg l k 0 ins i
  | [], i => by rw [Kg, Kg]
  | x :: xs, i => by rw [Kg, Kg, wA h8 pick ins xs (i + 1), vr h8]
theorem Yg : ∀ {l : List Vl} {k pick : Int} {ins : List Ty} {i : Nat} {s : BS}, s ∈ Kg l k pick ins i → ∃ j x, l[j]? = some x ∧ s = KB x (JK k pick ins (i + j))
  | [], _, _, _, _, _, h => by rw [Kg] at h; cases h
  | y :: ys, k, pick, ins, i, s, h => by
    rw [Kg] at h
    rcases List.mem_cons.1 h with rfl | h
    · exact ⟨0, y, rfl, rfl⟩
    · obtain ⟨j, x, h1, h2⟩ := Yg h
      exact ⟨j + 1, x, h1, by rw [h2, show i + 1 + j = i + (j + 1) by omega]⟩
theorem wB (k : Int) (ins : List Ty) : ∀ {l : List Vl} {i j : Nat} {x : Vl}, l[j]? = some x → (Kg l k 0 ins i).take (j + 1) = (Kg l k 0 ins i).take j ++ [KB x (JK k 0 ins (i + j))]
  | [], _, _, _, h => by simp at h
  | y :: ys, i, 0, x, h => by
    simp at h; subst h; rw [Kg]; rfl
  | y :: ys, i, j + 1, x, h => by
    rw [List.getElem?_cons_succ] at h; rw [Kg, List.take_succ_cons, List.take_succ_cons, wB k ins h, show i + 1 + j = i + (j + 1) by omega]; rfl
theorem Jr3 {k n : Int} {p : Pl} {ins : List Ty} {d : Int} (hk : 1 ≤ k ∧ k ≤ 8) (ho : Kk k n ins.length = true) : V6 (.mk k n p ins) d = if 6 ≤ d then 7 else XM ins (d + 1) := by
  rw [V6, if_neg (by omega), if_neg (by rw [ho]; simp)]
theorem zf : ∀ {ins : List Ty} {d : Int}, (∀ x ∈ ins, V6 x d = 0) → XM ins d = 0
  | [], _, _ => by rw [XM]
  | x :: xs, d, h => by
    rw [XM, if_pos (h x List.mem_cons_self)]; exact zf fun y hy => h y (List.mem_cons_of_mem _ hy)
theorem Jje (t : Ty) : ∀ d : Int, V6 t (d + 1) = 0 → V6 t d = 0 := by
  induction t using Ty.ind with
  | h k n p ins ih =>
    intro d h
    obtain ⟨hk, ho, h6, hi⟩ := QQ h
    rw [Jr3 hk ho, if_neg (by omega)]; exact zf fun x hx => ih x hx (d + 1) (hi x hx)
theorem wC {t : Ty} : ∀ {d : Nat}, V6 t (d : Int) = 0 → V6 t 0 = 0
  | 0, h => h
  | d + 1, h => wC (d := d) (Jje t d (by rw [Int.natCast_add] at h; exact h))
theorem XH {k n : Int} {p : Pl} {ins : List Ty} (h : V6 (.mk k n p ins) 0 = 0) : ∀ x ∈ ins, V6 x 0 = 0 := fun x hx => wC (d := 1) ((QQ h).2.2.2 x hx)
theorem Zx {x : Ty} (hc : V6 x 0 = 0) (hp : Xw x = true) : JJ x = true ∧ 1 ≤ JV x ∧ JV x ≤ 32 ∧ ∀ v : Vl, Kq v x = 0 → ((Vt v x).length : Int) = JV x := by
  obtain ⟨k, n, p, ins⟩ := x
  obtain ⟨hk, hf, _, _⟩ := QQ hc
  have hk2 : k = 1 ∨ k = 2 := by
    unfold Xw at hp
    rw [Bool.or_eq_true] at hp; exact hp.imp of_decide_eq_true of_decide_eq_true
  unfold Kk at hf
  have hins : ins.length = 0 := by
    rcases hk2 with rfl | rfl
    all_goals generalize ins.length = m at hf ⊢
    all_goals simp at hf
    all_goals omega
  have hi : ins = [] := List.length_eq_zero_iff.1 hins
  subst hi
  rcases hk2 with rfl | rfl
  · have hn : 1 ≤ n ∧ n ≤ 32 := by simp at hf; omega
    refine ⟨Xa.2 ⟨hc, by rw [W8, ZG]; rfl⟩, by rw [JV, if_pos rfl]; exact hn.1, by rw [JV, if_pos rfl]; exact hn.2, fun v _ => ?_⟩
    obtain ⟨a, b, c, d, bits, pb, items, pi, pick⟩ := v
    rw [QO, if_pos rfl, JV, if_pos rfl, xo _ (by omega)]; omega
  · refine ⟨Xa.2 ⟨hc, by rw [W8, ZG]; rfl⟩, by rw [JV, if_neg (by decide), if_pos rfl]; decide, by rw [JV, if_neg (by decide), if_pos rfl]; decide, fun v _ => ?_⟩
    obtain ⟨a, b, c, d, bits, pb, items, pi, pick⟩ := v
    rw [QO, if_neg (by decide), if_pos rfl, JV, if_neg (by decide), if_pos rfl, xo _ (by decide)]
    rfl
theorem j9 {x : Ty} {z : Nat} : ∀ {items : List Vl}, (∀ v ∈ items, (Vt v x).length = z) → (WX items x).length = items.length * z
  | [], _ => by unfold WX; simp
  | v :: l, h => by
    have ih := j9 (items := l) fun y hy => h y (List.mem_cons_of_mem _ hy)
    unfold WX at ih ⊢
    rw [List.map_cons, List.flatten_cons, List.length_append, ih, h v List.mem_cons_self, List.length_cons, Nat.succ_mul, Nat.add_comm]
theorem wD {a b c d : Nat} {bits : List Bool} {pb : Pl} {items : List Vl} {pi : Pl} {pick k n dp : Int} {p : Pl} {ins : List Ty} (hc : V6 (.mk k n p ins) dp = 0) (h : Kq (.mk a b c d bits pb items pi pick) (.mk k n p ins) = 0) :
    (k = 3 ∨ k = 4 → 1 ≤ n ∧ n ≤ 512 ∧ (items.length : Int) ≤ n ∧ ins.length = 1) ∧ (k = 5 ∨ k = 6 → 1 ≤ n ∧ n ≤ 512 ∧ (bits.length : Int) ≤ n) ∧ (k = 7 → items.length = ins.length ∧ 1 ≤ ins.length ∧ ins.length ≤ 16) := by
  obtain ⟨h1, h2, _⟩ := Xd h
  obtain ⟨hk, hf, _, _⟩ := QQ hc
  rw [Qo k n ins.length a b c d bits pb items pi pick _ rfl] at h2; simp only [Qe] at h2
  unfold Kk at hf
  have h9 : k = 1 ∨ k = 2 ∨ k = 3 ∨ k = 4 ∨ k = 5 ∨ k = 6 ∨ k = 7 ∨ k = 8 := by omega
  rcases h9 with rfl | rfl | rfl | rfl | rfl | rfl | rfl | rfl
  all_goals generalize items.length = I at *
  all_goals generalize bits.length = J at *
  all_goals generalize ins.length = K at *
  all_goals simp at h1 h2 hf ⊢
  all_goals omega
theorem qi {bits : List Bool} {n : Int} (h : (bits.length : Int) ≤ n) : (Y4 (VB bits)).length ≤ (n.toNat + 255) / 256 := by
  rw [YX]
  unfold xT
  rw [Xc]; omega
theorem Yh (v : Vl) : ∀ (t : Ty) (dp : Nat), V6 t (dp : Int) = 0 → Kq v t = 0 → (KB v t).length = 32 := by
  induction v using Vl.ind with
  | h a b c d bits pb items pi pick ih =>
  intro t dp hck hfit
  obtain ⟨k, n, p, ins⟩ := t
  obtain ⟨hk8, ho, h6, hci⟩ := QQ hck
  obtain ⟨hf1, hf2, hf3⟩ := Xd hfit
  obtain ⟨q1, q2, q3⟩ := wD hck hfit
  have hxl : ∀ i, i < items.length → VY k pick i < ins.length := fun i hi => qc (v := .mk a b c d bits pb items pi pick) hck hf2 hi
  have hrs : ∀ s ∈ Kg items k pick ins 0, s.length = 32 := fun s hs => by
    obtain ⟨j, x, h1, rfl⟩ := Yg hs
    have hlt := (List.getElem?_eq_some_iff.1 h1).1
    rw [Nat.zero_add]
    have hty := Qn (hxl j hlt)
    exact ih x (List.mem_of_getElem? h1) _ (dp + 1) (hci _ hty.2) (by have := Wf hf3 h1; rwa [Nat.zero_add] at this)
  have hrl := Wv items k pick ins 0
  have hrow : k = 3 ∨ k = 4 ∨ k = 7 → (WS k n ins items (Kg items k pick ins 0)).length = 32 := fun hk => by
    unfold WS
    split
    · rename_i h7
      exact VW (by have := q3 h7; omega) hrs
    · rename_i h7
      have := q1 (by omega)
      split
      · rename_i hp
        have hin0 : ins.getD 0 default ∈ ins := by
          match ins, this.2.2.2 with
          | [x], _ => exact List.mem_cons_self
        have hc0 : V6 (ins.getD 0 default) 0 = 0 := XH (wC hck) _ hin0
        obtain ⟨f1, f2, f3, f4⟩ := Zx hc0 hp
        refine VW ?_ (Zw _); rw [YX]
        unfold xT
        have hz : ∀ v ∈ items, (Vt v (ins.getD 0 default)).length = (JV (ins.getD 0 default)).toNat := fun v hv => by
          obtain ⟨j, hj⟩ := List.getElem?_of_mem hv
          have hg := Wf hf3 hj
          rw [Nat.zero_add] at hg
          have he : JK k pick ins j = ins.getD 0 default := by unfold JK VY; rw [if_neg h7, if_neg (by omega)]
          rw [he] at hg
          have := f4 v hg
          omega
        rw [j9 hz]
        have hm : items.length * (JV (ins.getD 0 default)).toNat ≤ n.toNat * (JV (ins.getD 0 default)).toNat := Nat.mul_le_mul_right _ (by omega)
        omega
      · exact VW (by omega) hrs
  rw [WJ]
  split
  · exact xo _ (Nat.le_refl _)
  · split
    · exact Zs _
    · split
      · rename_i h5
        exact VW (qi (q2 (by omega)).2.2) (Zw _)
      · split
        · exact Zs _
        · split
          · exact Zs _
          · exact hrow (by omega)
def Wg (head : Nat) : List (Ty × List UInt8) → Nat → List UInt8
  | [], _ => []
  | (x, s) :: l, n => if JJ x then s ++ Wg head l n else (yI (head + n) 4).1 ++ Wg head l (n + s.length)
def YY : List (Ty × List UInt8) → List UInt8
  | [] => []
  | (x, s) :: l => if JJ x then YY l else s ++ YY l
theorem xU (head : Nat) : ∀ (l : List (Ty × List UInt8)) (f th : List UInt8), Yx head l f th = (f ++ Wg head l th.length) ++ (th ++ YY l)
  | [], f, th => by rw [Yx, Wg, YY]; simp
  | (x, s) :: l, f, th => by
    rw [Yx, Wg, YY]
    split
    · rw [xU head l]; simp
    · rw [xU head l, List.length_append]; simp
theorem Jw9 {n : Nat} (h : n < 4294967296) : (yI n 4).1 = ji n 4 := by
  unfold yI
  rw [if_neg]
  · rfl
  · have := (Jgh (n := n) (k := 4) (by omega) (by decide)).2 (by simpa using h)
    omega
theorem Jjf {n : Nat} (h : n < 4294967296) : (yI n 4).1.length = 4 := by rw [Jw9 h, VP]
def Jhb (l : List (Ty × List UInt8)) : Prop := ∀ p ∈ l, JJ p.1 = true → (p.2.length : Int) = JV p.1
def Jjg : List (Ty × List UInt8) → Nat
  | [] => 0
  | p :: l => p.2.length + 4 + Jjg l
def YZ : List (Ty × List UInt8) → Nat
  | [] => 0
  | (x, s) :: l => if JJ x then YZ l else s.length + YZ l
theorem wE : ∀ l : List (Ty × List UInt8), (YY l).length = YZ l
  | [] => rfl
  | (x, s) :: l => by
    rw [YY, YZ]
    split
    · exact wE l
    · rw [List.length_append, wE l]
def QD (s : List UInt8) (head : Nat) : List Ty → Nat → Nat → Bool → Option (List Nat)
  | [], _, _, op => if op = false ∧ head ≠ s.length then none else some [s.length]
  | x :: xs, at_, last, op => if JJ x then QD s head xs (at_ + (JV x).toNat) last op else
      if (op = false ∧ W7 ((s.drop at_).take 4) ≠ head) ∨ W7 ((s.drop at_).take 4) < last ∨ s.length < W7 ((s.drop at_).take 4) then none
      else (QD s head xs (at_ + 4) (W7 ((s.drop at_).take 4)) true).map fun r => W7 ((s.drop at_).take 4) :: r
def V5 (s : List UInt8) : List Ty → Nat → List Nat → List (List UInt8)
  | [], _, _ => []
  | x :: xs, at_, os => if JJ x then (s.drop at_).take (JV x).toNat :: V5 s xs (at_ + (JV x).toNat) os else
      (s.take (os.getD 1 0)).drop (os.getD 0 0) :: V5 s xs (at_ + 4) os.tail
theorem vt : ∀ {ts : List Ty}, (∀ x ∈ ts, JJ x = true → 0 ≤ JV x) → 0 ≤ Kf ts
  | [], _ => by rw [Kf]; exact Int.le_refl _
  | x :: xs, h => by
    have h1 := vt (ts := xs) fun y hy => h y (List.mem_cons_of_mem _ hy)
    rw [Kf, WE]
    split
    · have := h x List.mem_cons_self ‹_›; omega
    · omega
theorem vu {s : List UInt8} {head : Nat} : ∀ {ts : List Ty} {at_ last : Nat} {op : Bool} {os : List Nat}, QD s head ts at_ last op = some os → last ≤ s.length → (op = false → last = head) → ∃ o r, os = o :: r ∧ last ≤ o ∧ o ≤ s.length ∧ (op = false → o = head)
  | [], at_, last, op, os, h, hl, ho => by
    rw [QD] at h
    split at h
    · cases h
    · rename_i h1
      cases h
      refine ⟨s.length, [], rfl, hl, Nat.le_refl _, fun hop => ?_⟩; exact Decidable.byContradiction fun h2 => h1 ⟨hop, fun e => h2 e.symm⟩
  | x :: xs, at_, last, op, os, h, hl, ho => by
    rw [QD] at h
    split at h
    · exact vu h hl ho
    · split at h
      · cases h
      · rename_i h1
        obtain ⟨r, _, rfl⟩ := Option.map_eq_some_iff.1 h
        refine ⟨_, r, rfl, by omega, by omega, fun hop => ?_⟩; exact Decidable.byContradiction fun h2 => h1 (.inl ⟨hop, h2⟩)
theorem xV {s : List UInt8} {head : Nat} (hs : s.length < 4294967296) (hh : head ≤ s.length) : ∀ {ts : List Ty} {at_ last : Nat} {op : Bool} {os : List Nat}, QD s head ts at_ last op = some os → last ≤ s.length → head ≤ last → (op = false → last = head) →
    (∀ x ∈ ts, JJ x = true → 0 ≤ JV x) → (at_ : Int) + Kf ts = head →
    ∀ o r, os = o :: r → Wg head (ts.zip (V5 s ts at_ os)) (o - head) = (s.take head).drop at_ ∧ YY (ts.zip (V5 s ts at_ os)) = s.drop o ∧ Jhb (ts.zip (V5 s ts at_ os)) ∧ (V5 s ts at_ os).length = ts.length
  | [], at_, last, op, os, h, hl, hhl, ho, hz, hb, o, r, e => by
    rw [QD] at h
    split at h
    · cases h
    · cases h
      cases e
      rw [Kf] at hb
      have ha : at_ = head := by omega
      subst ha; refine ⟨?_, ?_, fun p hp => by simp [V5] at hp, rfl⟩
      · rw [V5, List.zip_nil_right, Wg, List.drop_of_length_le (by rw [List.length_take]; omega)]
      · rw [V5, List.zip_nil_right, YY, List.drop_length]
  | x :: xs, at_, last, op, os, h, hl, hhl, ho, hz, hb, o, r, e => by
    have hz2 : ∀ y ∈ xs, JJ y = true → 0 ≤ JV y := fun y hy => hz y (List.mem_cons_of_mem _ hy)
    rw [Kf, WE] at hb; rw [QD] at h
    by_cases hf : JJ x = true
    · rw [if_pos hf] at h hb
      have h0 := hz x List.mem_cons_self hf
      obtain ⟨i1, i2, i3, i4⟩ := xV hs hh h hl hhl ho hz2 (by omega) o r e
      have hlen : ((s.drop at_).take (JV x).toNat).length = (JV x).toNat := by
        have hbg := vt hz2
        rw [List.length_take, List.length_drop]; omega
      rw [V5, if_pos hf, List.zip_cons_cons, Wg, YY, if_pos hf, if_pos hf]; refine ⟨?_, i2, ?_, by rw [List.length_cons, i4, List.length_cons]⟩
      · rw [i1]
        have hbg := vt hz2
        have e2 : (s.drop at_).take (JV x).toNat = ((s.take head).drop at_).take (JV x).toNat := by
          rw [List.drop_take, List.take_take, Nat.min_eq_left (by omega)]
        rw [e2, ← List.drop_drop, List.take_append_drop]
      · intro p hp
        rcases List.mem_cons.1 hp with rfl | hp
        · intro _; simp only; rw [hlen]; omega
        · exact i3 p hp
    · rw [if_neg hf] at h hb
      split at h
      · cases h
      · rename_i h1
        obtain ⟨r2, h2, hr2⟩ := Option.map_eq_some_iff.1 h
        subst hr2
        obtain ⟨rfl, rfl⟩ := List.cons.inj e
        have hbg := vt hz2
        have h4 : ((s.drop at_).take 4).length = 4 := by rw [List.length_take, List.length_drop]; omega
        have hn : W7 ((s.drop at_).take 4) ≤ s.length := by omega
        have hnl : last ≤ W7 ((s.drop at_).take 4) := by omega
        have hle : ji (W7 ((s.drop at_).take 4)) 4 = (s.drop at_).take 4 := by
          have := Jf0 ((s.drop at_).take 4)
          rwa [h4] at this
        generalize hq : W7 ((s.drop at_).take 4) = q at *
        obtain ⟨b, r3, rfl, hb1, hb2, _⟩ := vu h2 hn (fun h => by cases h)
        obtain ⟨i1, i2, i3, i4⟩ := xV hs hh h2 hn (by omega) (fun h => by cases h) hz2 (by omega) b r3 rfl
        rw [V5, if_neg hf, List.zip_cons_cons, Wg, YY, if_neg hf, if_neg hf]; simp only [List.tail_cons]
        have hpl : ((s.take b).drop q).length = b - q := by rw [List.length_drop, List.length_take]; omega
        refine ⟨?_, ?_, ?_, by rw [List.length_cons, i4, List.length_cons]⟩
        · show (yI (head + (q - head)) 4).1 ++ Wg head _ (q - head + ((s.take b).drop q).length) = _
          rw [hpl, show q - head + (b - q) = b - head by omega, i1, show head + (q - head) = q by omega, Jw9 (by omega), hle]
          have e2 : (s.drop at_).take 4 = ((s.take head).drop at_).take 4 := by
            rw [List.drop_take, List.take_take, Nat.min_eq_left (by omega)]
          rw [e2, ← List.drop_drop, List.take_append_drop]
        · show (s.take b).drop q ++ _ = _
          rw [i2]
          have e3 : s.drop q = (s.drop q).take (b - q) ++ (s.drop q).drop (b - q) := (List.take_append_drop _ _).symm
          rw [e3, List.drop_drop, List.drop_take, show q + (b - q) = b by omega]
        · intro p hp
          rcases List.mem_cons.1 hp with rfl | hp
          · intro hff; exact absurd hff hf
          · exact i3 p hp
theorem Jnm {t : Ty} (hc : V6 t 0 = 0) : JJ t = W8 t := by unfold JJ; rw [hc]; simp
theorem jA {t : Ty} (h : JJ t = true) : 1 ≤ JV t := by
  obtain ⟨h1, h2⟩ := Xa.1 h
  exact (zT t 0 (Int.le_refl _) h1 h2).1
mutual
def WN : Vl → Vl
  | .mk a b c d bits _ items _ pick => .mk a b c d bits none (Yi items) none pick
def Yi : List Vl → List Vl
  | [] => []
  | x :: xs => WN x :: Yi xs
end
theorem Wh : ∀ l : List Vl, Yi l = l.map WN
  | [] => by rw [Yi]; rfl
  | x :: xs => by rw [Yi, Wh xs]; rfl
def v0L : Vl := .mk 0 0 0 0 [] none [] none 0
def wF (w : List Nat) : Vl := .mk (w.getD 0 0) (w.getD 1 0) (w.getD 2 0) (w.getD 3 0) [] none [] none 0
def ZM (l : List Bool) : Vl := .mk 0 0 0 0 l none [] none 0
def KJ (l : List Vl) (pick : Int) : Vl := .mk 0 0 0 0 [] none l none pick
def JW (k n : Int) (ins : List Ty) (s : List UInt8) : Nat × Int :=
  if k = 7 then (ins.length, 0) else if k = 3 then (n.toNat, 0) else if s = [] then (0, 0)
  else if JJ (JK k 0 ins 0) then (if s.length % (JV (JK k 0 ins 0)).toNat ≠ 0 then (0, 2) else if n < ((s.length / (JV (JK k 0 ins 0)).toNat : Nat) : Int) then (0, 5) else (s.length / (JV (JK k 0 ins 0)).toNat, 0))
  else if s.length < 4 ∨ W7 (s.take 4) % 4 ≠ 0 ∨ W7 (s.take 4) = 0 then (0, 2) else if n < ((W7 (s.take 4) / 4 : Nat) : Int) then (0, 5) else (W7 (s.take 4) / 4, 0)
abbrev Gf : Type := List UInt8 → Vl × Int
def VA : List (Gf × List UInt8) → List Vl × Int
  | [] => ([], 0)
  | (f, s) :: r => if (f s).2 ≠ 0 then ([], (f s).2) else if (VA r).2 ≠ 0 then ([], (VA r).2) else ((f s).1 :: (VA r).1, 0)
def WK (s : List UInt8) : Nat → Nat
  | 0 => 0
  | i + 1 => if QW s i = true then i else WK s i
def g0 : Gf := fun _ => (v0L, 0)
def xW (k n : Int) (ins : List Ty) (fs : List Gf) (s : List UInt8) : Vl × Int :=
  if (JW k n ins s).2 ≠ 0 then (v0L, (JW k n ins s).2)
  else if (s.length : Int) < Kf (Kx k ins (JW k n ins s).1) then (v0L, 2)
  else match QD s (Kf (Kx k ins (JW k n ins s).1)).toNat (Kx k ins (JW k n ins s).1) 0 (Kf (Kx k ins (JW k n ins s).1)).toNat false with
    | none => (v0L, 2)
    | some os =>
      let r := VA (((List.range (JW k n ins s).1).map fun i => fs.getD (VY k 0 i) g0).zip (V5 s (Kx k ins (JW k n ins s).1) 0 os))
      if r.2 ≠ 0 then (v0L, r.2) else (KJ r.1 0, 0)
def ZN (k n : Int) (p : Pl) (ins : List Ty) (fs : List Gf) (s : List UInt8) : Vl × Int :=
  if JJ (.mk k n p ins) = true ∧ (s.length : Int) ≠ JV (.mk k n p ins) then (v0L, 2)
  else if k = 1 then (wF (XO s), 0)
  else if k = 2 then (if 1 < (s.getD 0 0).toNat then (v0L, 2) else (wF (XO s), 0))
  else if k = 5 then (if ((JM s (8 * s.length)).drop n.toNat).any id then (v0L, 8) else (ZM (JM s n.toNat), 0))
  else if k = 6 then (if s.getLast? = none ∨ s.getLast? = some 0 then (v0L, 2) else if n < (WK s (8 * s.length) : Int) then (v0L, 5) else (ZM (JM s (WK s (8 * s.length))), 0))
  else if k = 8 then (match s with
    | [] => (v0L, 2)
    | b :: r => if ins.length ≤ b.toNat then (v0L, 9) else if (fs.getD b.toNat g0 r).2 ≠ 0 then (v0L, (fs.getD b.toNat g0 r).2) else (KJ [(fs.getD b.toNat g0 r).1] b.toNat, 0))
  else xW k n ins fs s
mutual
def KK : Ty → List UInt8 → Vl × Int
  | .mk k n p ins, s => ZN k n p ins (YC ins) s
def YC : List Ty → List Gf
  | [] => []
  | x :: xs => KK x :: YC xs
end
theorem Jc2 : ∀ l : List Ty, YC l = l.map KK
  | [] => by rw [YC]; rfl
  | x :: xs => by rw [YC, Jc2 xs]; rfl
theorem vv {ins : List Ty} {i : Nat} {x : Ty} (h : ins[i]? = some x) : (YC ins).getD i g0 = KK x := by
  rw [Jc2, List.getD_eq_getElem?_getD, List.getElem?_map, h]; rfl
section
variable {a b c d : Nat} {bits : List Bool} {pb : Pl} {items : List Vl} {pi : Pl} {pick k n : Int} {p : Pl} {ins : List Ty}
theorem Jhc (hc : V6 (.mk k n p ins) 0 = 0) (h : Kq (.mk a b c d bits pb items pi pick) (.mk k n p ins) = 0) (h8 : k ≠ 8) {j : Nat} {x : Vl} (hx : items[j]? = some x) : ins[VY k 0 j]? = some (JK k 0 ins j) ∧ JK k 0 ins j ∈ ins ∧ V6 (JK k 0 ins j) 0 = 0 ∧ Kq x (JK k 0 ins j) = 0 := by
  obtain ⟨_, h2, h3⟩ := Xd h
  have hlt := (List.getElem?_eq_some_iff.1 hx).1
  have hin := qc (v := .mk a b c d bits pb items pi pick) hc h2 hlt
  have hg := Wf h3 hx
  rw [Nat.zero_add, vr h8] at hg
  have e : VY k (Vl.pick (.mk a b c d bits pb items pi pick)) j = VY k 0 j := by unfold VY; rw [if_neg h8, if_neg h8]
  rw [e] at hin
  have hty := Qn hin
  exact ⟨hty.1, hty.2, XH hc _ hty.2, hg⟩
end
theorem Qc (a b c d : Nat) (bits : List Bool) (pb : Pl) (items : List Vl) (pi : Pl) (pick : Int) : WN (.mk a b c d bits pb items pi pick) = .mk a b c d bits none (Yi items) none pick := by rw [WN]
theorem Jhd (k pick : Int) (ins : List Ty) : ∀ (l : List Vl), (∀ x ∈ l, ∀ t, Vt (WN x) t = Vt x t) → ∀ i : Nat, Qa (Yi l) k pick ins i = Qa l k pick ins i
  | [], _, i => by rw [Yi]
  | x :: xs, h, i => by rw [Yi, Qa, Qa, h x List.mem_cons_self, Jhd k pick ins xs (fun y hy => h y (List.mem_cons_of_mem _ hy))]
theorem Jnn (v : Vl) : ∀ t, Vt (WN v) t = Vt v t := by
  induction v using Vl.ind with
  | h a b c d bits pb items pi pick ih =>
  intro t
  obtain ⟨k, n, p, ins⟩ := t
  rw [Qc, QO, QO, Jhd k pick ins items ih]
theorem Jc3 (k pick : Int) (ins : List Ty) : ∀ (l : List Vl), (∀ x ∈ l, ∀ t, KB (WN x) t = KB x t) → ∀ i : Nat, Kg (Yi l) k pick ins i = Kg l k pick ins i
  | [], _, i => by rw [Yi]
  | x :: xs, h, i => by rw [Yi, Kg, Kg, h x List.mem_cons_self, Jc3 k pick ins xs (fun y hy => h y (List.mem_cons_of_mem _ hy))]
theorem Jr4 (x : Ty) (l : List Vl) : WX (Yi l) x = WX l x := by
  unfold WX
  rw [Wh, List.map_map]
  congr 1
  exact List.map_congr_left fun v _ => Jnn v x
theorem Jr5 (v : Vl) : ∀ t, KB (WN v) t = KB v t := by
  induction v using Vl.ind with
  | h a b c d bits pb items pi pick ih =>
  intro t
  obtain ⟨k, n, p, ins⟩ := t
  have hl : (Yi items).length = items.length := by rw [Wh, List.length_map]
  rw [Qc, WJ, WJ, Jc3 k pick ins items ih, hl]
  unfold WS
  rw [Jr4]
theorem Jc4 : ∀ {l : List (Gf × List UInt8)} {vs : List Vl}, VA l = (vs, 0) → vs.length = l.length ∧ ∀ (i : Nat) f s v, l[i]? = some (f, s) → vs[i]? = some v → f s = (v, 0)
  | [], vs, h => by
    rw [VA] at h
    obtain rfl := (Prod.mk.inj h).1
    exact ⟨rfl, fun i f s v h1 => by simp at h1⟩
  | (f, s) :: l, vs, h => by
    rw [VA] at h
    by_cases h1 : (f s).2 ≠ 0
    · rw [if_pos h1] at h; exact absurd (Prod.mk.inj h).2 h1
    rw [if_neg h1] at h
    by_cases h2 : (VA l).2 ≠ 0
    · rw [if_pos h2] at h; exact absurd (Prod.mk.inj h).2 h2
    rw [if_neg h2] at h
    have h3 := (Prod.mk.inj h).1
    subst h3
    have h4 : VA l = ((VA l).1, 0) := by rw [← Decidable.not_not.1 h2]
    obtain ⟨i1, i2⟩ := Jc4 h4
    refine ⟨by rw [List.length_cons, List.length_cons, i1], fun i f' s' v' hl hv => ?_⟩
    cases i with
    | zero =>
      cases hl; cases hv
      rw [← Decidable.not_not.1 h1]
    | succ i => exact i2 i f' s' v' hl hv
theorem zg : ∀ {l : List Vl} {k pick : Int} {ins : List Ty} {i : Nat}, (∀ (j : Nat) x, l[j]? = some x → Kq x (JK k pick ins (i + j)) = 0) → Qq l k pick ins i = 0
  | [], _, _, _, _, _ => by rw [Qq]
  | x :: xs, k, pick, ins, i, h => by
    have h0 := h 0 x rfl
    rw [Nat.add_zero] at h0; rw [Qq, if_pos h0]; exact zg fun j y hy => by rw [show i + 1 + j = i + (j + 1) by omega]; exact h (j + 1) y (by simpa using hy)
theorem Jno : ∀ {l : List Vl}, (∀ x ∈ l, WN x = x) → Yi l = l
  | [], _ => by rw [Yi]
  | x :: xs, h => by rw [Yi, h x List.mem_cons_self, Jno fun y hy => h y (List.mem_cons_of_mem _ hy)]
theorem Jc5 {k : Int} {ins : List Ty} : ∀ {vs : List Vl} {ps : List (List UInt8)} {i : Nat}, vs.length = ps.length → (∀ (j : Nat) x s, vs[j]? = some x → ps[j]? = some s → Vt x (JK k 0 ins (i + j)) = s) → Qa vs k 0 ins i = ((List.range' i vs.length).map fun j => JK k 0 ins j).zip ps
  | [], _, _, _, _ => by rw [Qa]; rfl
  | x :: xs, [], _, h, _ => by simp at h
  | x :: xs, s :: ps, i, h, hg => by
    have h0 := hg 0 x s rfl rfl
    rw [Nat.add_zero] at h0
    rw [Qa, h0, List.length_cons, List.range'_succ, List.map_cons, List.zip_cons_cons, Jc5 (vs := xs) (ps := ps) (i := i + 1) (by simpa using h) fun j y t hy ht => by
      rw [show i + 1 + j = i + (j + 1) by omega]; exact hg (j + 1) y t (by simpa using hy) (by simpa using ht)]
theorem Jve (k : Int) (ins : List Ty) (m : Nat) : ((List.range' 0 m).map fun j => JK k 0 ins j) = Kx k ins m := by
  unfold Kx; rw [List.range_eq_range']
theorem Jhe : ∀ {l : List (Ty × List UInt8)}, Jhb l → (Jjg l : Int) ≤ Kf (l.map Prod.fst) + YZ l + 4 * l.length
  | [], _ => by rw [Jjg, YZ, List.map_nil, Kf]; simp
  | (x, s) :: l, h => by
    have h1 := Jhe (l := l) fun p hp => h p (List.mem_cons_of_mem _ hp)
    have h2 := h _ List.mem_cons_self
    simp only at h2; rw [Jjg, YZ, List.map_cons, Kf, WE, List.length_cons]
    simp only
    split
    · rename_i h3
      have := h2 h3
      omega
    · omega
theorem Jnp {A H : Nat} : ∀ {l : List (Ty × List UInt8)} {vs : List Vl} {n : Nat}, vs.length = l.length → Jhb l → (∀ p ∈ l, JJ p.1 = true → 1 ≤ JV p.1) → (∀ (j : Nat) p v, l[j]? = some p → vs[j]? = some v → wV v ≤ A * p.2.length + 1) → H + n + Jjg l < 4294967296 → wL vs ≤ (A + 1) * ((Wg H l n).length + YZ l)
  | [], [], _, _, _, _, _, _ => by rw [wL]; exact Nat.zero_le _
  | [], _ :: _, _, h, _, _, _, _ => by simp at h
  | _ :: _, [], _, h, _, _, _, _ => by simp at h
  | (x, s) :: l, v :: vs, n, h, hs, hz, hg, hb => by
    rw [Jjg] at hb; simp only at hb
    have g0 := hg 0 (x, s) v rfl rfl
    simp only at g0
    have hs2 : Jhb l := fun p hp => hs p (List.mem_cons_of_mem _ hp)
    have hz2 : ∀ p ∈ l, JJ p.1 = true → 1 ≤ JV p.1 := fun p hp => hz p (List.mem_cons_of_mem _ hp)
    have hg2 : ∀ (j : Nat) p u, l[j]? = some p → vs[j]? = some u → wV u ≤ A * p.2.length + 1 := fun j p u hp hu => hg (j + 1) p u (by simpa using hp) (by simpa using hu)
    rw [wL, Wg, YZ]
    by_cases hf : JJ x = true
    · have ih := Jnp (A := A) (H := H) (l := l) (vs := vs) (n := n) (by simpa using h) hs2 hz2 hg2 (by omega)
      have h1 := hs _ List.mem_cons_self hf
      have h2 := hz _ List.mem_cons_self hf
      simp only at h1 h2; rw [if_pos hf, if_pos hf, List.length_append, Nat.add_assoc, Nat.mul_add]
      have h3 : 1 ≤ s.length := by omega
      rw [Nat.add_mul, Nat.one_mul]; omega
    · have ih := Jnp (A := A) (H := H) (l := l) (vs := vs) (n := n + s.length) (by simpa using h) hs2 hz2 hg2 (by omega)
      rw [if_neg hf, if_neg hf, List.length_append, Jjf (by omega)]
      have e : 4 + (Wg H l (n + s.length)).length + (s.length + YZ l) = ((Wg H l (n + s.length)).length + YZ l) + (s.length + 4) := by omega
      rw [e, Nat.mul_add, Nat.mul_add (A + 1) s.length 4, Nat.add_mul A 1 s.length, Nat.one_mul]; omega
theorem zh {s : List UInt8} : ∀ {N i : Nat}, i < N → QW s i = true → WK s N < N ∧ i ≤ WK s N ∧ QW s (WK s N) = true ∧ ∀ j, WK s N < j → j < N → QW s j = false
  | 0, _, h, _ => by omega
  | N + 1, i, h, hb => by
    rw [WK]
    by_cases e : QW s N = true
    · rw [if_pos e]
      exact ⟨Nat.lt_succ_self _, by omega, e, fun j h1 h2 => by omega⟩
    · rw [if_neg e]
      have hi : i ≠ N := fun h => e (h ▸ hb)
      obtain ⟨h1, h2, h3, h4⟩ := zh (N := N) (i := i) (by omega) hb
      refine ⟨by omega, h2, h3, fun j h5 h6 => ?_⟩
      by_cases hj : j = N
      · subst hj; simpa using e
      · exact h4 j h5 (by omega)
theorem Jhf {s : List UInt8} (hx : ¬ (s.getLast? = none ∨ s.getLast? = some 0)) : s.length = (WK s (8 * s.length) + 8) / 8 ∧ QW s (WK s (8 * s.length)) = true ∧ ∀ i, WK s (8 * s.length) < i → i < 8 * s.length → QW s i = false := by
  have hne : s ≠ [] := fun e => hx (.inl (by rw [e]; rfl))
  have hpos : 0 < s.length := List.length_pos_iff.2 hne
  obtain ⟨x, hl⟩ : ∃ x, s.getLast? = some x := by
    cases h : s.getLast? with
    | none => exact absurd (.inl h) hx
    | some x => exact ⟨x, rfl⟩
  have h0 : x ≠ 0 := fun e => hx (.inr (by rw [hl, e]))
  have hg : s.getD (s.length - 1) 0 = x := by
    rw [List.getLast?_eq_getElem?] at hl; rw [List.getD_eq_getElem?_getD, hl]; rfl
  have hj : ∃ j, j < 8 ∧ x.toNat.testBit j = true := by
    refine Decidable.byContradiction fun hn => h0 (Jgj fun j hj => ?_)
    have : ¬ x.toNat.testBit j = true := fun h => hn ⟨j, hj, h⟩
    rw [Bool.not_eq_true] at this; rw [this]; simp
  obtain ⟨j, hj, hb⟩ := hj
  have hbit : QW s (8 * (s.length - 1) + j) = true := by
    unfold QW
    rw [show (8 * (s.length - 1) + j) / 8 = s.length - 1 by omega, show (8 * (s.length - 1) + j) % 8 = j by omega, hg]; exact hb
  obtain ⟨h1, h2, h3, h4⟩ := zh (N := 8 * s.length) (by omega) hbit
  exact ⟨by omega, h3, h4⟩
theorem qj {s : List UInt8} : ∀ {ts : List Ty} {at_ : Nat} {os : List Nat} {q : List UInt8}, q ∈ V5 s ts at_ os → q.length ≤ s.length
  | [], _, _, _, h => by rw [V5] at h; cases h
  | x :: xs, at_, os, q, h => by
    rw [V5] at h
    split at h
    · rcases List.mem_cons.1 h with rfl | h
      · rw [List.length_take, List.length_drop]; omega
      · exact qj h
    · rcases List.mem_cons.1 h with rfl | h
      · rw [List.length_drop, List.length_take]; omega
      · exact qj h
theorem chkL_mem : ∀ {ins : List Ty} {d : Int}, XM ins d = 0 → ∀ x ∈ ins, V6 x d = 0
  | [], _, _, x, hx => by cases hx
  | y :: ys, d, h, x, hx => by
    rw [XM] at h
    by_cases h1 : V6 y d = 0
    · rw [if_pos h1] at h
      rcases List.mem_cons.1 hx with rfl | hx
      · exact h1
      · exact chkL_mem h x hx
    · rw [if_neg h1] at h; exact absurd h h1
theorem vw {k n : Int} {ins : List Ty} {s : List UInt8} (hk : 1 ≤ k ∧ k ≤ 8) (ho : Kk k n ins.length = true) (h3 : k = 3 ∨ k = 4 ∨ k = 7) (h : (JW k n ins s).2 = 0) :
    (JW k n ins s).1 ≤ 512 ∧ (k = 3 → ((JW k n ins s).1 : Int) = n) ∧ (k = 7 → (JW k n ins s).1 = ins.length) ∧ (k = 4 → ((JW k n ins s).1 : Int) ≤ n) := by
  unfold Kk at ho
  unfold JW at h ⊢
  rcases h3 with rfl | rfl | rfl
  · simp at ho ⊢; omega
  · simp only [show ¬ ((4 : Int) = 7) by decide, show ¬ ((4 : Int) = 3) by decide, if_false] at h ⊢
    simp at ho
    split at h
    · rename_i h1; rw [if_pos h1]; simp; omega
    · rename_i h1
      rw [if_neg h1]
      split at h
      · rename_i h2
        rw [if_pos h2]
        split at h
        · simp at h
        · rename_i h4
          rw [if_neg h4]
          split at h
          · simp at h
          · rename_i h5
            rw [if_neg h5]
            simp only
            refine ⟨?_, fun e => absurd e (by decide), fun e => absurd e (by decide), fun _ => ?_⟩
            · revert h5; generalize s.length / (JV (JK 4 0 ins 0)).toNat = q; intro h5; omega
            · revert h5; generalize s.length / (JV (JK 4 0 ins 0)).toNat = q; intro h5; omega
      · rename_i h2
        rw [if_neg h2]
        split at h
        · simp at h
        · rename_i h4
          rw [if_neg h4]
          split at h
          · simp at h
          · rename_i h5
            rw [if_neg h5]
            simp only
            refine ⟨?_, fun e => absurd e (by decide), fun e => absurd e (by decide), fun _ => ?_⟩
            · revert h5; generalize W7 (s.take 4) / 4 = q; intro h5; omega
            · revert h5; generalize W7 (s.take 4) / 4 = q; intro h5; omega
  · simp at ho ⊢; omega
theorem wG {k n : Int} {ins : List Ty} {s : List UInt8} (hk : 1 ≤ k ∧ k ≤ 8) (ho : Kk k n ins.length = true) (h3 : k = 3 ∨ k = 4 ∨ k = 7) (h : (JW k n ins s).2 = 0) : ∀ i, i < (JW k n ins s).1 → VY k 0 i < ins.length := by
  intro i hi
  obtain ⟨_, _, h7, _⟩ := vw hk ho h3 h
  unfold Kk at ho
  unfold VY
  rcases h3 with rfl | rfl | rfl
  · simp at ho ⊢; omega
  · simp at ho ⊢; omega
  · have := h7 rfl
    simp; omega
theorem Jr6 (t : Ty) : ∀ (d : Nat), V6 t (d : Int) = 0 → ∀ (s : List UInt8) (v : Vl), s.length ≤ 100000 → KK t s = (v, 0) → Kq v t = 0 ∧ Vt v t = s ∧ WN v = v ∧ wV v ≤ (7 - d) * s.length + 1 := by
  induction t using Ty.ind with
  | h k n p ins ih =>
  intro d hcd s v hlen hget
  have hc : V6 (.mk k n p ins) 0 = 0 := wC hcd
  obtain ⟨hk8, ho, hd6, hsubd⟩ := QQ hcd
  have hsub := XH hc
  rw [KK] at hget
  unfold ZN at hget
  by_cases hfx : JJ (.mk k n p ins) = true ∧ (s.length : Int) ≠ JV (.mk k n p ins)
  · rw [if_pos hfx] at hget; simp at hget
  rw [if_neg hfx] at hget
  have hsz : JJ (.mk k n p ins) = true → (s.length : Int) = JV (.mk k n p ins) := fun h => Decidable.byContradiction fun h2 => hfx ⟨h, h2⟩
  have hplain : k = 1 ∨ k = 2 ∨ k = 5 → (s.length : Int) = JV (.mk k n p ins) := fun h => hsz (by
    rw [Jnm hc, W8]
    unfold Kk at ho
    have hi : ins = [] := by
      rcases h with rfl | rfl | rfl <;> simp at ho <;> first | exact ho.1 | exact ho.1.1
    subst hi; rw [ZG]
    rcases h with rfl | rfl | rfl <;> rfl)
  rw [JV] at hplain
  by_cases h1 : k = 1
  · subst h1
    rw [if_pos rfl] at hget
    obtain rfl := (Prod.mk.inj hget).1
    have hs1 := hplain (.inl rfl)
    rw [if_pos rfl] at hs1
    unfold Kk at ho
    simp at ho
    have hn : s.length ≤ 32 := by omega
    obtain ⟨a, b, c, e, hnum⟩ : ∃ a b c e, XO s = [a, b, c, e] := by
      have := (xq s).1
      match hq : XO s, this with
      | [a, b, c, e], _ => exact ⟨a, b, c, e, rfl⟩
    have hle := Ju3 hn
    rw [hnum] at hle
    unfold wF
    rw [hnum]; simp only [List.getD_cons_zero, List.getD_cons_succ]; refine ⟨?_, ?_, ?_, ?_⟩
    · refine (Wt (by omega) ?_).trans (by rw [Qq])
      rw [Qo 1 n ins.length a b c e [] none [] none 0 _ rfl, if_pos rfl, Qe]
      have hb : (Ws [a, b, c, e]).length ≤ s.length := by
        have hz := fun t h3 h4 => Jmc hn (t := t) h3 h4
        rw [hnum] at hz; exact (jr _ 32 _).2 hz
      simp; omega
    · rw [QO, if_pos rfl, show n.toNat = s.length by omega, hle]
    · rw [Qc, Yi]
    · rw [wV, wL]; simp
  by_cases h2 : k = 2
  · subst h2
    rw [if_neg h1, if_pos rfl] at hget
    have hs1 := hplain (.inr (.inl rfl))
    rw [if_neg h1, if_pos rfl] at hs1
    match s, hs1 with
    | [x], _ =>
    by_cases hx : 1 < x.toNat
    · rw [if_pos (by simpa using hx)] at hget; simp at hget
    rw [if_neg (by simpa using hx)] at hget
    obtain rfl := (Prod.mk.inj hget).1
    have hx2 : x = 0 ∨ x = 1 := by
      have : x.toNat = 0 ∨ x.toNat = 1 := by omega
      rcases this with h | h
      · exact .inl (by rw [← UInt8.toNat_inj]; exact h)
      · exact .inr (by rw [← UInt8.toNat_inj]; exact h)
    have hi : ins = [] := by unfold Kk at ho; simp at ho; exact ho.1
    subst hi
    rcases hx2 with rfl | rfl
    · have e : wF (XO [0]) = .mk 0 0 0 0 [] none [] none 0 := by rw [show XO [0] = [0, 0, 0, 0] by decide +kernel]; rfl
      rw [e]; refine ⟨(Wt (by omega) (by rw [Qo 2 n _ 0 0 0 0 [] none [] none 0 _ rfl]; rfl)).trans (by rw [Qq]), by rw [QO, if_neg (by decide), if_pos rfl]; decide +kernel, by rw [Qc, Yi], by rw [wV, wL]; simp⟩
    · have e : wF (XO [1]) = .mk 1 0 0 0 [] none [] none 0 := by rw [show XO [1] = [1, 0, 0, 0] by decide +kernel]; rfl
      rw [e]; refine ⟨(Wt (by omega) (by rw [Qo 2 n _ 1 0 0 0 [] none [] none 0 _ rfl]; rfl)).trans (by rw [Qq]), by rw [QO, if_neg (by decide), if_pos rfl]; decide +kernel, by rw [Qc, Yi], by rw [wV, wL]; simp⟩
  rw [if_neg h1, if_neg h2] at hget; rw [if_neg h1, if_neg h2] at hplain
  by_cases h5 : k = 5
  · subst h5
    rw [if_pos rfl] at hget
    have hs1 := hplain (.inr (.inr rfl))
    rw [if_pos rfl] at hs1
    by_cases hx : ((JM s (8 * s.length)).drop n.toNat).any id = true
    · rw [if_pos hx] at hget; simp at hget
    rw [if_neg hx] at hget
    obtain rfl := (Prod.mk.inj hget).1
    unfold Kk at ho
    simp at ho
    have hl : s.length = (n.toNat + 7) / 8 := by omega
    have hz : ∀ i, n.toNat ≤ i → i < 8 * s.length → QW s i = false := fun i h3 h4 => by
      rw [Bool.not_eq_true, List.any_eq_false] at hx
      have := hx (QW s i) (List.mem_iff_getElem?.2 ⟨i - n.toNat, by rw [List.getElem?_drop, show n.toNat + (i - n.toNat) = i by omega, Va s h4]⟩)
      simpa using this
    unfold ZM
    refine ⟨(Wt (by omega) ?_).trans (by rw [Qq]), ?_, by rw [Qc, Yi], ?_⟩
    · rw [Qo 5 n _ 0 0 0 0 _ none [] none 0 _ rfl, if_neg h1, if_neg h2, if_neg (by decide), if_neg (by decide), if_pos rfl, Qe, Ko]
      simp; omega
    · rw [QO, if_neg h1, if_neg h2, if_pos rfl, qA hl hz]
    · rw [wV, wL, Ko]
      have : 1 * s.length ≤ (7 - d) * s.length := Nat.mul_le_mul_right _ (by omega)
      omega
  rw [if_neg h5] at hget
  by_cases h6 : k = 6
  · subst h6
    rw [if_pos rfl] at hget
    by_cases hx : s.getLast? = none ∨ s.getLast? = some 0
    · rw [if_pos hx] at hget; simp at hget
    rw [if_neg hx] at hget
    by_cases hn : n < (WK s (8 * s.length) : Int)
    · rw [if_pos hn] at hget; simp at hget
    rw [if_neg hn] at hget
    obtain rfl := (Prod.mk.inj hget).1
    obtain ⟨L, hL⟩ : ∃ L, L = WK s (8 * s.length) := ⟨_, rfl⟩
    obtain ⟨q1, q2, q3⟩ := Jhf hx
    rw [← hL] at hn q1 q2 q3 ⊢
    unfold ZM
    refine ⟨(Wt (by rw [Ko]; omega) ?_).trans (by rw [Qq]), ?_, by rw [Qc, Yi], ?_⟩
    · rw [Qo 6 n _ 0 0 0 0 _ none [] none 0 _ rfl]; rfl
    · rw [QO, if_neg h1, if_neg h2, if_neg h5, if_pos rfl]
      have e : JM s L ++ [true] = JM s (L + 1) := by
        apply List.ext_getElem?
        intro i
        by_cases hi : i < L
        · rw [List.getElem?_append_left (by rw [Ko]; exact hi), Va s hi, Va s (by omega)]
        · by_cases hi2 : i = L
          · subst hi2
            rw [List.getElem?_append_right (by rw [Ko]; exact Nat.le_refl _), Ko, Nat.sub_self, Va s (Nat.lt_succ_self _), q2]; rfl
          · rw [List.getElem?_eq_none (by rw [List.length_append, Ko]; simp; omega), List.getElem?_eq_none (by rw [Ko]; omega)]
      rw [e]; exact qA (by omega) fun i h3 h4 => q3 i (by omega) h4
    · rw [wV, wL, Ko]
      have : 1 * s.length ≤ (7 - d) * s.length := Nat.mul_le_mul_right _ (by omega)
      omega
  rw [if_neg h6] at hget
  by_cases h8 : k = 8
  · subst h8
    rw [if_pos rfl] at hget
    cases s with
    | nil => simp at hget
    | cons b r =>
    simp only at hget
    by_cases hb : ins.length ≤ b.toNat
    · rw [if_pos hb] at hget; simp at hget
    rw [if_neg hb] at hget
    by_cases hg : ((YC ins).getD b.toNat g0 r).2 ≠ 0
    · rw [if_pos hg] at hget; exact absurd (Prod.mk.inj hget).2 hg
    rw [if_neg hg] at hget
    obtain rfl := (Prod.mk.inj hget).1
    obtain ⟨x, hx⟩ : ∃ x, ins[b.toNat]? = some x := ⟨_, List.getElem?_eq_getElem (by omega)⟩
    have hxm := List.mem_of_getElem? hx
    rw [vv hx] at hg ⊢
    obtain ⟨y, hy⟩ : ∃ y, y = (KK x r).1 := ⟨_, rfl⟩
    have hgx : KK x r = (y, 0) := by rw [hy, ← Decidable.not_not.1 hg]
    rw [← hy]
    obtain ⟨i1, i2, i3, i4⟩ := ih x hxm (d + 1) (by have := hsubd x hxm; simpa using this) r y (by simp at hlen; omega) hgx
    have hin : JK 8 (b.toNat : Int) ins 0 = x := by
      unfold JK VY
      rw [if_neg (by decide), if_pos rfl, Int.toNat_natCast, List.getD_eq_getElem?_getD, hx]; rfl
    unfold Kk at ho
    simp at ho
    unfold KJ
    refine ⟨(Wt (by omega) ?_).trans ?_, ?_, ?_, ?_⟩
    · rw [Qo 8 n _ 0 0 0 0 [] none [y] none b.toNat _ rfl, if_neg h1, if_neg h2, if_neg (by decide), if_neg (by decide), if_neg h5, if_neg h6, if_neg (by decide), Qe]
      simp; omega
    · rw [Qq, hin, if_pos i1, Qq]
    · rw [QO, if_neg h1, if_neg h2, if_neg h5, if_neg h6, if_pos rfl, Qa, hin, i2]
      simp only [List.headD_cons, Int.toNat_natCast]; rw [show UInt8.ofNat b.toNat = b from by rw [← UInt8.toNat_inj, UInt8.toNat_ofNat']; exact Nat.mod_eq_of_lt (UInt8.toNat_lt b)]
    · rw [Qc, Yi, Yi, i3]
    · rw [wV, wL, wL, List.length_cons]
      have e : (7 - d) * (r.length + 1) = (7 - (d + 1)) * r.length + r.length + (7 - d) := by
        rw [Nat.mul_add, Nat.mul_one]
        congr 1
        have : 7 - d = (7 - (d + 1)) + 1 := by omega
        rw [this, Nat.add_mul, Nat.one_mul]
      simp only [List.length_nil, Nat.zero_div]; omega
  rw [if_neg h8] at hget
  have h3 : k = 3 ∨ k = 4 ∨ k = 7 := by omega
  unfold xW at hget
  by_cases hm : (JW k n ins s).2 ≠ 0
  · rw [if_pos hm] at hget; exact absurd (Prod.mk.inj hget).2 hm
  rw [if_neg hm] at hget
  have hm0 := Decidable.not_not.1 hm
  obtain ⟨m1, m2, m3, m4⟩ := vw hk8 ho h3 hm0
  have hX := wG hk8 ho h3 hm0
  generalize hM : (JW k n ins s).1 = M at *
  by_cases hbg : (s.length : Int) < Kf (Kx k ins M)
  · rw [if_pos hbg] at hget; simp at hget
  rw [if_neg hbg] at hget
  have hbl := j8 (Kx k ins M)
  obtain ⟨H, hH⟩ : ∃ H, H = (Kf (Kx k ins M)).toNat := ⟨_, rfl⟩
  have hHi : Kf (Kx k ins M) = (H : Int) := by omega
  rw [← hH] at hget
  cases hos : QD s H (Kx k ins M) 0 H false with
  | none => rw [hos] at hget; simp at hget
  | some os =>
  rw [hos] at hget; simp only at hget
  have hty : ∀ i, i < M → ins[VY k 0 i]? = some (JK k 0 ins i) ∧ JK k 0 ins i ∈ ins := fun i hi => Qn (hX i hi)
  have htys : ∀ x ∈ Kx k ins M, x ∈ ins := fun x hx => by
    unfold Kx at hx
    obtain ⟨i, hi, rfl⟩ := List.mem_map.1 hx
    exact (hty i (List.mem_range.1 hi)).2
  generalize hps : V5 s (Kx k ins M) 0 os = ps at *
  obtain ⟨o, r, rfl, o1, o2, o3⟩ := vu hos (by omega) (fun _ => rfl)
  have ho3 := (o3 rfl).symm
  subst ho3
  have hg := xV (by omega) (by omega) hos (by omega) (Nat.le_refl _) (fun _ => rfl) (fun x _ hx => by have := jA hx; omega) (by omega) H r rfl
  rw [hps, Nat.sub_self, List.drop_zero] at hg
  obtain ⟨f1, f2, f3, f4⟩ := hg
  rw [Xu] at f4
  by_cases hr : (VA (((List.range M).map fun i => (YC ins).getD (VY k 0 i) g0).zip ps)).2 ≠ 0
  · rw [if_pos hr] at hget; exact absurd (Prod.mk.inj hget).2 hr
  rw [if_neg hr] at hget
  obtain ⟨vs, hvs⟩ : ∃ vs, vs = (VA (((List.range M).map fun i => (YC ins).getD (VY k 0 i) g0).zip ps)).1 := ⟨_, rfl⟩
  have hrun : VA (((List.range M).map fun i => (YC ins).getD (VY k 0 i) g0).zip ps) = (vs, 0) := by rw [hvs]; exact Prod.ext rfl (Decidable.not_not.1 hr)
  rw [← hvs] at hget
  obtain rfl := (Prod.mk.inj hget).1
  obtain ⟨r1, r2⟩ := Jc4 hrun
  have hvl : vs.length = M := by rw [r1, List.length_zip, List.length_map, List.length_range, f4, Nat.min_self]
  have hall : ∀ (j : Nat) x q, vs[j]? = some x → ps[j]? = some q → Kq x (JK k 0 ins j) = 0 ∧ Vt x (JK k 0 ins j) = q ∧ WN x = x ∧ wV x ≤ (7 - (d + 1)) * q.length + 1 := fun j x q hx hq => by
    have hj : j < M := by rw [← hvl]; exact (List.getElem?_eq_some_iff.1 hx).1
    obtain ⟨e1, e2⟩ := hty j hj
    have hql : q.length ≤ 100000 := by
      have hqm := List.mem_of_getElem? hq
      rw [← hps] at hqm
      have := qj hqm
      omega
    refine ih _ e2 (d + 1) (by have := hsubd _ e2; simpa using this) q x hql ?_; refine r2 j _ q x ?_ hx; rw [List.getElem?_zip_eq_some]; exact ⟨by rw [List.getElem?_map, List.getElem?_range hj, Option.map_some, vv e1], hq⟩
  have hpl : Qa vs k 0 ins 0 = (Kx k ins M).zip ps := by
    rw [Jc5 (ps := ps) (by rw [hvl, f4]) fun j x q hx hq => by rw [Nat.zero_add]; exact (hall j x q hx hq).2.1, hvl, Jve]
  have hzl : ((Kx k ins M).zip ps).length = M := by rw [List.length_zip, Xu, f4, Nat.min_self]
  have hfst : ((Kx k ins M).zip ps).map Prod.fst = Kx k ins M := by
    rw [List.map_fst_zip]; rw [Xu, f4]; exact Nat.le_refl _
  have htl := congrArg List.length f2
  rw [wE, List.length_drop] at htl
  have hfl := congrArg List.length f1
  rw [List.length_take, Nat.min_eq_left (by omega)] at hfl
  have hsb := Jhe f3
  rw [hfst, hHi, hzl] at hsb
  have hitem : ∀ (j : Nat) x, vs[j]? = some x → ∃ q, ps[j]? = some q := fun j x hx => by
    have hj : j < M := by rw [← hvl]; exact (List.getElem?_eq_some_iff.1 hx).1
    exact ⟨_, List.getElem?_eq_getElem (by omega)⟩
  unfold KJ
  refine ⟨(Wt ?_ ?_).trans ?_, ?_, ?_, ?_⟩
  · rw [hvl]
    rintro (⟨e1, e2⟩ | ⟨e1, _⟩)
    · have := m4 e1; omega
    · omega
  · rw [Qo k n _ 0 0 0 0 [] none vs none 0 _ rfl, Qe, Qe, Qe, Qe, hvl]
    rcases h3 with rfl | rfl | rfl
    · have := m2 rfl; simp; omega
    · simp
    · have := m3 rfl; simp; omega
  · exact zg fun j x hx => by
      obtain ⟨q, hq⟩ := hitem j x hx
      rw [Nat.zero_add]; exact (hall j x q hx hq).1
  · rw [QO, if_neg h1, if_neg h2, if_neg h5, if_neg h6, if_neg h8, xQ h8, Jcy, hvl, ← hH, hpl, xU, List.nil_append, List.nil_append, List.length_nil, f1, f2, List.take_append_drop]
  · rw [Qc, Jno fun x hx => by
      obtain ⟨j, hj⟩ := List.getElem?_of_mem hx
      obtain ⟨q, hq⟩ := hitem j x hj
      exact (hall j x q hj hq).2.2.1]
  · have hw := Jnp (A := 7 - (d + 1)) (H := H) (l := (Kx k ins M).zip ps) (vs := vs) (n := 0) (by rw [hvl, hzl]) f3 (fun p _ hp => jA hp) (fun j p v hp hv => by
      obtain ⟨q, hq⟩ := hitem j v hv
      rw [List.getElem?_zip_eq_some] at hp
      have e : p.2 = q := by have := hp.2; rw [hq] at this; exact (Option.some.inj this).symm
      rw [e]
      exact (hall j v q hv hq).2.2.2) (by omega)
    rw [hfl, htl, show 7 - (d + 1) + 1 = 7 - d by omega, show H + (s.length - H) = s.length by omega] at hw; rw [wV]; simp only [List.length_nil, Nat.zero_div]; omega
end Go.Proofs.YteceenlfegnigaaGreatDoor
namespace Go.SL
set_option linter.all false
open Go Go.RowKit Go.Shelf
open Go.Proofs (Enters enters_of)
def wH (v : Value) : List PanicEntry := [{ v, recovered := false }]
structure PureX {α : Type} (P : Program) (f : FuncId) (args : Array Value) (ok : Prop) (bad : Value → Prop) (V : α → Value) (LL : α → Jr) (Rl : Jr) : Prop where
  run : ∀ w, jT Rl w → Calls P f args w fun e w' => (ok ∧ ∃ x, e = .returned (V x) ∧ Keep [] w w' ∧ (∀ p ∈ LL x, w.heap.size ≤ p.1 ∧ w'.heap[p.1]? = some p.2) ∧ (LL x).Pairwise fun p q => p.1 ≠ q.1) ∨ (∃ v, bad v ∧ e = .panicked (wH v) ∧ Keep [] w w')
def cxX (P : Program) (w : World) (Rl : Jr) (n : Nat) : Cx := ⟨P, none, w, [], [], Rl, n⟩
theorem St.startX {P : Program} {w : World} {n : Nat} {Rl : Jr} (hR : jT Rl w) : St (cxX P w Rl n) [] (fun _ _ => True) w :=
  ⟨Keep.refl _ _, by simp, by simp, fun p hp => ⟨by simp [cxX], by simp [cxX], hR p hp⟩, by simp [cxX], ⟨[], by simp, fun _ _ => trivial⟩⟩
def Jnq {α : Type} (c : Cx) (ok : Prop) (bad : Value → Prop) (V : α → Value) (LL : α → Jr) : Ending → World → Prop := fun e w' =>
  (ok ∧ ∃ x, e = .returned (V x) ∧ St c (LL x) (fun _ _ => True) w') ∨ (∃ v, bad v ∧ e = .panicked (wH v) ∧ Keep [] c.w1 w')
theorem XJ {α : Type} {P : Program} {f : FuncId} {fn : Func} {code : Code} {vs : List Value} {ok : Prop} {bad : Value → Prop} {V : α → Value} {Rl : Jr} {LL : α → Jr} (hf : P.funcs[f]? = some fn) (hb : fn.body = some code) (hlen : Nat.ble vs.length fn.ntmps = true)
    (h : ∀ w, HC (cxX P w Rl fn.ntmps) [] (Vg 0 vs) [] (fun _ _ => True) code (bodyPostM (FW none) 0 P fn (Jnq (cxX P w Rl fn.ntmps) ok bad V LL))) : PureX P f vs.toArray ok bad V LL Rl := ⟨fun w hR =>
  (QB (cxX P w Rl fn.ntmps) hf hb rfl rfl rfl hlen (St.startX hR) (h w)).mono fun _ _ h => h.imp
    (fun ⟨ho, x, he, hs⟩ => ⟨ho, x, he, by have := hs.keep; simpa [cxX] using this, fun p hp => by have := (hs.own p hp); simp only [cxX, List.not_mem_nil, false_or] at this; exact ⟨this.1, this.2.2⟩, hs.distinct⟩)
    (fun ⟨v, hv, he, hk⟩ => ⟨v, hv, he, hk⟩)⟩
theorem PureX.mono {α : Type} {P : Program} {f : FuncId} {args : Array Value} {ok ok' : Prop} {bad bad' : Value → Prop} {V : α → Value} {LL : α → Jr} {Rl : Jr} (h : PureX P f args ok bad V LL Rl) (h1 : ok → ok') (h2 : ∀ v, bad v → bad' v) : PureX P f args ok' bad' V LL Rl :=
  ⟨fun w hR => (h.run w hR).mono fun _ _ h => h.imp (fun ⟨a, b⟩ => ⟨h1 a, b⟩) (fun ⟨v, a, b⟩ => ⟨v, h2 v a, b⟩)⟩
theorem PureX.map {α β : Type} {P : Program} {f : FuncId} {args : Array Value} {ok : Prop} {bad : Value → Prop} {V : α → Value} {LL : α → Jr} {V' : β → Value} {LL' : β → Jr} {Rl : Jr} (h : PureX P f args ok bad V LL Rl) (g : α → β) (hv : ∀ x, V x = V' (g x)) (hl : ∀ x, (LL' (g x)).Sublist (LL x)) : PureX P f args ok bad V' LL' Rl :=
  ⟨fun w hR => (h.run w hR).mono fun _ _ h => h.imp (fun ⟨a, x, he, hk, h1, h2⟩ => ⟨a, g x, he.trans (by rw [hv]), hk, fun p hp => h1 p ((hl x).subset hp), h2.sublist (hl x)⟩) id⟩
theorem PureX.toT {α : Type} {P : Program} {f : FuncId} {args : Array Value} {ok : Prop} {bad : Value → Prop} {V : α → Value} {LL : α → Jr} {Rl : Jr} (h : PureX P f args ok bad V LL Rl) (hb : ∀ v, ¬ bad v) : PureT P f args V [] LL Rl :=
  ⟨fun w _ hR _ _ => (h.run w hR).mono fun _ _ h => h.elim (fun ⟨_, x, he, hk, h1, h2⟩ => ⟨x, he, hk, fun p hp => ⟨.inr (h1 p hp).1, (h1 p hp).2⟩, h2⟩) (fun ⟨v, hv, _⟩ => absurd hv (hb v))⟩
section
variable {c : Cx} {l : Kn} {L : Jr} {X : XP} {Q : Exit → Act → World → Prop} {K : Act → World → Prop} {d : List Deferred}
variable {ops : Array Oper} {rest : List Oper} {i : Nat} {v : Value} {t : TypeId} {ps : String} {af : Array Edge} {gd : Option (Nat × Bool)} {ty : TypeId}
theorem KQ {α : Type} {ok : Prop} {bad : Value → Prop} {Rl : Jr} {f : Operand} {args : Array Operand} {at_ : Array TypeId} {g : FuncId} {vs : List Value} {V : α → Value} {LL : α → Jr}
    (hg : Kj l ops ⟨some i, .call ⟨.value f, args, at_⟩, ty, ps, af, gd⟩ = some true) (hi : Nat.ble (i + 1) c.n = true) (hca : KA l f args = some (g, vs)) (eg : Enters c.P g)
    (hpt : PureX c.P g vs.toArray ok bad V LL Rl) (hR : ∀ p ∈ Rl, known c L p.1 p.2) (h : ok → ∀ x, HL c d ((i, V x) :: l) (LL x ++ L) X ops rest Q) (hp : ∀ v, bad v → HQ c d l L X (Q (.panic (wH v)))) :
    HL c d l L X ops (⟨some i, .call ⟨.value f, args, at_⟩, ty, ps, af, gd⟩ :: rest) Q := fun a w hf hs => by
  refine QA (JB hf hg) rfl ?_
  rw [V7 hf hca c.P w _ rfl eg, Oper.uponIn_enter]
  refine ⟨fun hdep => (by cases hdep), ?_⟩
  have hc := callsIn_wide (n := 0) |>.2 (hpt.run w fun p hp => hs.known (hR p hp))
  refine CallsIn.mono (show CallsIn (FW c.ro) 0 c.P g vs.toArray w _ from hc) ?_
  rintro e w' (⟨ho, x, rfl, hk, h1, h2⟩ | ⟨v, hv, rfl, hk⟩)
  · exact h ho x _ w' (hf.put (Nat.le_of_ble_eq_true hi)) (hs.freshs hk h1 h2)
  · exact hp v hv a w' hf (hs.more hk)
theorem Jnr {x : Operand} {dst : Option Nat} {tt : TypeId} (hg : Kj l ops ⟨dst, .panic x, ty, ps, af, gd⟩ = some true) (hx : Ke l x = some (.iface tt v)) (h : HQ c d l L X (Q (.panic (wH (.iface tt v))))) : HL c d l L X ops (⟨dst, .panic x, ty, ps, af, gd⟩ :: rest) Q := fun a w hf hs => by
  refine QA (JB hf hg) rfl ?_
  have hrun : (execOp a.eval ⟨dst, .panic x, ty, ps, af, gd⟩).run c.P w = .halt (.panic (.iface tt v)) w := by
    have e : (Instr.panic (.iface tt v)).run c.P w = .halt (.panic (.iface tt v)) w := rfl
    simp only [execOp, hf.eval hx]
    simp [Sem.run_bind, e, Result.andThen]
  rw [hrun, Oper.uponIn_panic]
  exact h a w hf hs
theorem Jns {ch : List PanicEntry} (h : HQ c d l L X (Q (.panic ch))) : HQ c d l L X (Exit.then K Q (.panic ch)) := h
theorem Jjh {id : Nat} {ch : List PanicEntry} (h : HQ c d l L X (Q (.panic ch))) : HQ c d l L X (Exit.inBlock id Q (.panic ch)) := h
theorem Jhh {fn : Func} {R : Ending → World → Prop} {P : Program} {ch : List PanicEntry} (h : ∀ w, St c L X w → R (.panicked ch) w) : HQ c [] l L X (bodyPostM (FW none) 0 P fn R (.panic ch)) := fun a w hf hs => by
  show LeavesInM _ _ _ _ _ _ _ _ _
  rw [hf.defers]
  exact h w hs
theorem Ql {α : Type} {fn : Func} {P : Program} {ok : Prop} {bad : Value → Prop} {V : α → Value} {LL : α → Jr} (hc1 : c.ids = []) (hc2 : c.xids = []) (h : bad v) : HQ c [] l L X (bodyPostM (FW none) 0 P fn (Jnq c ok bad V LL) (.panic (wH v))) :=
  Jhh fun w hs => .inr ⟨v, h, rfl, by have := hs.keep; rw [hc1, hc2] at this; exact this⟩
theorem Jc6 {fn : Func} {R : Ending → World → Prop} {P : Program} {ch : List PanicEntry} {D k : Nat} {L' : Jr} (hk : L[k]? = some (D, .deferred (some []))) (hL : L.set k (D, .deferred none) = L')
    (h : HQ c d l L' X (bodyPostM (FW none) 0 P fn R (.panic ch))) : HQ c (QG D :: d) l L X (bodyPostM (FW none) 0 P fn R (.panic ch)) := fun a w hf hs => by
  subst hL
  have hget := hs.get hk
  have hs' := hs.set hk (Keep.putObj D (.deferred none)) (World.putObj_heap_same (Js hget))
  have h1 := h { tmps := a.tmps, defers := d } _ ⟨hf.size, rfl, hf.slots⟩ hs'
  show LeavesInM _ _ _ _ _ _ _ _ _
  rw [hf.defers]
  exact ⟨by simp, .inl ⟨D, _, rfl, run_takeDeferred hget, h1⟩⟩
end
def ZO (P : Program) (l : Nat) (R : Ending → World → Prop) : Exit → Act → World → Prop
  | .panic ch, a, w => a.defers = [] ∧ R (.panicked ch) w
  | e, a, w => roundPost P l R e a w
theorem qk {F : Fence} {n : Nat} {P : Program} {l : Nat} {f : FuncId} {fn : Func} {tmps : Array Value} {assign body : Code} {w : World} {R : Ending → World → Prop} (hF : F.fn f) (hfn : P.funcs[f]? = some fn)
    (h : assign.wpIn (F.inRound l) n P (Exit.then (fun a₁ w₁ => ∃ w₂, (Instr.beginRound l).run P w₁ = .ok () w₂ ∧ body.wpIn (F.inRound l) n P (ZO P l R) a₁ w₂) (fun _ _ _ => False))
      { tmps := tmps, defers := [] } w) :
    RoundIn F n P l f tmps assign body w R := by
  refine ⟨hF, fun c cs hr => ?_⟩
  let b : Frame := { (default : Frame) with fn := f, kind := .normal, roundOf := some l }
  have hb0 : Frame.round l f tmps assign body .normal = b.atR { tmps := tmps, defers := [] } [.code assign, .beginRound, .code body] := by
    simp [Frame.round, Frame.atR, b]
  have hr' : (F.inRound l).room ((c :: cs).length + 1 + n) := hr
  have hF' : (F.inRound l).fn b.fn := hF
  obtain ⟨e, a₁, w₁, hq, harr⟩ := h b [.beginRound, .code body] (c :: cs) rfl hF' hr'
  rw [← hb0] at harr
  cases e with
  | normal =>
    obtain ⟨w₂, hbr, hbody⟩ := hq
    have s1 : StepsIn (Machine.fenced P (F.inRound l)) P (lone (b.atR a₁ [.beginRound, .code body]) (c :: cs) w₁) (lone (b.atR a₁ [.code body]) (c :: cs) w₂) :=
      .one (fenced_calm (fr := b.atR a₁ [.beginRound, .code body]) hF' hr' rfl) (stepR_beginRound rfl hbr)
    obtain ⟨e₂, a₂, w₃, hq₂, harr₂⟩ := hbody b [] (c :: cs) rfl hF' hr'
    cases e₂ with
    | normal =>
      obtain ⟨v, w₄, hend, hR⟩ := hq₂
      exact ⟨.returned v, w₄, hR, (StepsIn.trans harr s1).trans (StepsIn.trans harr₂ (.one (fenced_calm (fr := b.atR a₂ []) hF' hr' rfl) (stepR_round_end rfl rfl hend)))⟩
    | ret =>
      obtain ⟨v, w₄, hend, hR⟩ := hq₂
      obtain ⟨k₁, hs⟩ := harr₂.2 rfl
      exact ⟨.returned v, w₄, hR, (StepsIn.trans harr s1).trans (StepsIn.trans hs (.one (fenced_calm (fr := b.atR a₂ (.code .ret :: k₁)) hF' hr' rfl) (stepR_round_ret rfl rfl hend)))⟩
    | exit id =>
      obtain ⟨v, w₄, hend, hR⟩ := hq₂
      obtain ⟨k₁, hk, hs⟩ := harr₂.2 rfl rfl
      exact ⟨.returned v, w₄, hR, (StepsIn.trans harr s1).trans (StepsIn.trans hs (.one (fenced_calm (fr := b.atR a₂ (.code (.exit id) :: k₁)) hF' hr' rfl) (stepR_round_exit rfl rfl hk hend)))⟩
    | goto t =>
      obtain ⟨v, w₄, hend, hR⟩ := hq₂
      obtain ⟨k₁, hk, hs⟩ := harr₂.2 rfl rfl
      exact ⟨.returned v, w₄, hR, (StepsIn.trans harr s1).trans (StepsIn.trans hs (.one (fenced_calm (fr := b.atR a₂ (.code (.goto t) :: k₁)) hF' hr' rfl) (stepR_round_goto rfl rfl hk hend)))⟩
    | panic chain =>
      obtain ⟨hd, hR⟩ := hq₂
      obtain ⟨todo, hs⟩ := harr₂
      have hl : ({ b.atR a₂ todo with mode := .panicking chain } : Frame).leaving P w₃ (.panicked chain) := ⟨rfl, hd, fn, hfn⟩
      have hfe : (lone ({ b.atR a₂ todo with mode := .panicking chain } : Frame) (c :: cs) w₃).fenced P (F.inRound l) := fenced_leaving (F := F.inRound l) hF' hr' hl
      exact ⟨.panicked chain, w₃, hR, (StepsIn.trans harr s1).trans (StepsIn.trans hs (.one hfe (step_leave_panicked hl)))⟩
    | outgrown => exact hq₂.elim
  | exit id => exact hq.elim
  | goto t => exact hq.elim
  | ret => exact hq.elim
  | panic chain => exact hq.elim
  | outgrown => exact hq.elim
def YSX (P : Program) (q : Nat) (vals : Array Value) (xs : List Nat) (w : World) (XT XF : XP) (pc : List PanicEntry → Prop) : Prop :=
  YieldAt (FW none) 0 P q vals w fun e w' => (∃ b xs', e = .returned (.bool b) ∧ (∀ k ∈ xs', k < w'.heap.size ∧ (k ∈ xs ∨ w.heap.size ≤ k)) ∧ Keep xs w w' ∧ Yo xs' (if b = true then XT else XF) w') ∨ (∃ ch, e = .panicked ch ∧ pc ch ∧ Keep xs w w')
def Jnt {ι : Type} (P : Program) (gf : FuncId) (caps : List Value) (Rl : Jr) (p0 : ι) (nx : ι → List Value → ι → Prop) (fin : ι → Prop) : Prop :=
  ∀ (q : Nat) (xids : List Nat) (w2 : World) (XI : ι → XP) (XF : XP) (pc : List PanicEntry → Prop),
    (∀ p ∈ Rl, p.1 ∉ xids ∧ w2.heap[p.1]? = some p.2) → (∀ k ∈ xids, k < w2.heap.size) → Yo xids (XI p0) w2 →
    (∀ i v i', nx i v i' → ∀ xs w, (∀ k ∈ xs, k < w.heap.size ∧ (k ∈ xids ∨ w2.heap.size ≤ k)) → Keep xids w2 w → Yo xs (XI i) w → YSX P q v.toArray xs w (XI i') XF pc) →
    Calls P gf (.func (.yield q) #[] #[] :: caps).toArray w2 fun e w' => ((∃ v, e = .returned v) ∧ Keep xids w2 w' ∧ ((∃ i xs, fin i ∧ XI i xs w') ∨ ∃ xs, XF xs w')) ∨ (∃ ch, e = .panicked ch ∧ pc ch ∧ Keep xids w2 w')
theorem Jc7 {ι : Type} {P : Program} {f : FuncId} {fn : Func} {code : Code} {caps : List Value} {Rl : Jr} {p0 : ι} {nx : ι → List Value → ι → Prop} {fin : ι → Prop} (hf : P.funcs[f]? = some fn) (hb : fn.body = some code) (hlen : Nat.ble (caps.length + 1) fn.ntmps = true)
    (h : ∀ (q : Nat) (xids : List Nat) (w2 : World) (XI : ι → XP) (XF : XP) (pc : List PanicEntry → Prop),
      (∀ i v i', nx i v i' → ∀ xs w, (∀ k ∈ xs, k < w.heap.size ∧ (k ∈ xids ∨ w2.heap.size ≤ k)) → Keep ([] ++ xids) w2 w → Yo xs (XI i) w → YSX P q v.toArray xs w (XI i') XF pc) →
      HC ⟨P, none, w2, [], xids, Rl, fn.ntmps⟩ [] (Vg 0 (.func (.yield q) #[] #[] :: caps)) [] (XI p0) code
        (bodyPostM (FW none) 0 P fn (fun e w' => ((∃ v, e = .returned v) ∧ Keep ([] ++ xids) w2 w' ∧ ((∃ i xs, fin i ∧ XI i xs w') ∨ ∃ xs, XF xs w')) ∨ (∃ ch, e = .panicked ch ∧ pc ch ∧ Keep ([] ++ xids) w2 w')))) : Jnt P f caps Rl p0 nx fin :=
  fun q xids w2 XI XF pc hR hlt h0 hY =>
    QB ⟨P, none, w2, [], xids, Rl, fn.ntmps⟩ hf hb rfl rfl rfl hlen
      ⟨Keep.refl _ _, by simp, by simp, fun p hp => ⟨by simp, (hR p hp).1, (hR p hp).2⟩, hlt, xids, fun k hk => ⟨.inl hk, hlt k hk, by simp⟩, h0⟩ (h q xids w2 XI XF pc hY)
section
variable {c : Cx} {l : Kn} {L : Jr} {X : XP} {Q : Exit → Act → World → Prop} {d : List Deferred}
variable {ops : Array Oper} {rest : List Oper} {i : Nat} {v : Value} {t : TypeId} {ps : String} {af : Array Edge} {gd : Option (Nat × Bool)} {ty : TypeId}
theorem Jji {f : Operand} {args : Array Operand} {at_ : Array TypeId} {q : Nat} {vs : List Value} {XT XF : XP} {pc : List PanicEntry → Prop}
    (hg : Kj l ops ⟨some i, .call ⟨.value f, args, at_⟩, ty, ps, af, gd⟩ = some true) (hi : Nat.ble (i + 1) c.n = true)
    (hf : Ke l f = some (.func (.yield q) #[] #[])) (ha : evs l args.toList = some vs)
    (hY : ∀ xs w, (∀ k ∈ xs, k < w.heap.size ∧ (k ∈ c.xids ∨ c.w1.heap.size ≤ k)) → Keep (c.ids ++ c.xids) c.w1 w → Yo xs X w → YSX c.P q vs.toArray xs w XT XF pc)
    (h1 : HL c d ((i, .bool true) :: l) L XT ops rest Q) (h0 : HL c d ((i, .bool false) :: l) L XF ops rest Q) (hp : ∀ ch, pc ch → HQ c d l L (fun _ _ => True) (Q (.panic ch))) : HL c d l L X ops (⟨some i, .call ⟨.value f, args, at_⟩, ty, ps, af, gd⟩ :: rest) Q := fun a w hfr hs => by
  refine QA (JB hfr hg) rfl ?_
  obtain ⟨xs, hx1, hx2⟩ := hs.x
  obtain ⟨fn, tmps, assign, body, hy, hR⟩ := hY xs w (fun k hk => ⟨(hx1 k hk).2.1, (hx1 k hk).1⟩) hs.keep hx2
  have h2 := hfr.evals ha
  have h3 : args.map a.eval = vs.toArray := by apply Array.toList_inj.1; rw [Array.toList_map]; simpa using h2
  have h4 : a.eval f = .func (.yield q) #[] #[] := hfr.eval hf
  have hrun : (execOp a.eval ⟨some i, .call ⟨.value f, args, at_⟩, ty, ps, af, gd⟩).run c.P w = .ok (.round q fn tmps assign body) w := by
    simp only [execOp, Sem.run_bind]
    simp [resolve, h3, h4, Deferred.ofValue, Result.andThen, invoke, hy]
  rw [hrun, Oper.uponIn_round]
  refine ⟨fun hdep => (by cases hdep), ?_⟩
  refine RoundIn.mono (show RoundIn (FW c.ro) (0 - 1) c.P q fn tmps assign body w _ from hR) ?_
  have base : ∀ xs' w' X', Keep xs w w' → (∀ k ∈ xs', k < w'.heap.size ∧ (k ∈ xs ∨ w.heap.size ≤ k)) → Yo xs' X' w' → St c L X' w' := fun xs' w' X' hk hxs hx => by
    refine ⟨hs.keep.glue hk fun k hm => ?_, fun p hp => ?_, hs.distinct, hs.ext, hs.xlt, xs', fun k hm => ?_, hx⟩
    · rcases (hx1 k hm).1 with g | g
      · exact .inl (List.mem_append_right _ g)
      · exact .inr g
    · obtain ⟨g1, g2, g3⟩ := hs.own p hp
      exact ⟨g1, g2, (hk.block p.1 (Js g3) fun hm => (hx1 _ hm).2.2 p hp rfl).trans g3⟩
    · obtain ⟨g1, g2⟩ := hxs k hm
      refine ⟨g2.elim (fun g => (hx1 k g).1) fun g => .inr (Nat.le_trans hs.keep.size g), g1, fun p hp => ?_⟩
      rcases g2 with g | g
      · exact (hx1 k g).2.2 p hp
      · have := Js (hs.own p hp).2.2; omega
  rintro e w' (⟨b, xs', rfl, hxs, hk, hb⟩ | ⟨ch, rfl, hpc, hk⟩)
  · cases b with
    | true => exact h1 _ w' (hfr.put (Nat.le_of_ble_eq_true hi)) (base xs' w' XT hk hxs (by simpa using hb))
    | false => exact h0 _ w' (hfr.put (Nat.le_of_ble_eq_true hi)) (base xs' w' XF hk hxs (by simpa using hb))
  · exact hp ch hpc a w' hfr (base [] w' _ hk (by simp) fun _ _ => trivial)
end
def wpE (F : Fence) (n : Nat) (P : Program) (c : Code) (Q : Exit → Act → World → Prop) (a : Act) (w : World) : Prop :=
  ∀ (b : Frame) (k : List Item) (cs : List Frame), b.roundOf = F.round → F.fn b.fn → (∃ fn, P.funcs[b.fn]? = some fn) → F.room (cs.length + 1 + n) →
    ∃ e a' w', Q e a' w' ∧ ArrivesIn (Machine.fenced P F) P (lone (b.atR a (.code c :: k)) cs w) b k cs e a' w'
theorem Jvf {F : Fence} {n : Nat} {P : Program} {c : Code} {Q : Exit → Act → World → Prop} {a : Act} {w : World} (h : c.wpIn F n P Q a w) : wpE F n P c Q a w := fun b k cs h1 h2 _ h4 => h b k cs h1 h2 h4
theorem Jr7 {F : Fence} {n : Nat} {P : Program} {x y : Code} {Q : Exit → Act → World → Prop} {a : Act} {w : World} (h : wpE F n P x (Exit.then (wpE F n P y Q) Q) a w) : wpE F n P (.seq x y) Q a w := by
  intro b k cs hro hb hfn hr
  have h0 : (lone (b.atR a (.code (.seq x y) :: k)) cs w).fenced P F := fenced_calm hb hr rfl
  obtain ⟨e, a₁, w₁, hq, harr⟩ := h b (.code y :: k) cs hro hb hfn hr
  cases e with
  | normal =>
    obtain ⟨e₂, a₂, w₂, hq₂, harr₂⟩ := hq b k cs hro hb hfn hr
    exact ⟨e₂, a₂, w₂, hq₂, .of_steps (.head h0 stepR_seq harr) harr₂⟩
  | exit id => exact ⟨_, a₁, w₁, hq, .of_steps (.one h0 stepR_seq) (.pass (x := .code y) rfl (fun _ _ => .inl (by simp)) harr)⟩
  | goto l => exact ⟨_, a₁, w₁, hq, .of_steps (.one h0 stepR_seq) (.pass (x := .code y) rfl (fun _ _ => .inl (by simp)) harr)⟩
  | ret => exact ⟨_, a₁, w₁, hq, .of_steps (.one h0 stepR_seq) (.pass (x := .code y) rfl (fun _ _ => .inl (by simp)) harr)⟩
  | panic ch => exact ⟨_, a₁, w₁, hq, .of_steps (.one h0 stepR_seq) (.pass (x := .code y) rfl (fun _ _ => .inl (by simp)) harr)⟩
  | outgrown => exact ⟨_, a₁, w₁, hq, .of_steps (.one h0 stepR_seq) (.pass (x := .code y) rfl (fun _ _ => .inl (by simp)) harr)⟩
theorem Jjj {F : Fence} {n : Nat} {P : Program} {id : Nat} {c : Code} {Q : Exit → Act → World → Prop} {a : Act} {w : World} (h : wpE F n P c (Exit.inBlock id Q) a w) : wpE F n P (.block id c) Q a w := by
  intro b k cs hro hb hfn hr
  have h0 : (lone (b.atR a (.code (.block id c) :: k)) cs w).fenced P F := fenced_calm hb hr rfl
  obtain ⟨e, a₁, w₁, hq, harr⟩ := h b (.inBlock id :: k) cs hro hb hfn hr
  cases e with
  | normal => exact ⟨.normal, a₁, w₁, hq, .head h0 stepR_block (StepsIn.trans harr (.one (fenced_calm hb hr rfl) stepR_inBlock))⟩
  | exit id' =>
    by_cases hid : id' = id
    · simp only [Exit.inBlock, hid, if_true] at hq
      exact ⟨.normal, a₁, w₁, hq, .head h0 stepR_block (harr.1 k (by simp [exitTo, hid]))⟩
    · simp only [Exit.inBlock, hid, if_false] at hq
      have this : (id == id') = false := by simp; exact fun h => hid h.symm
      have hx : exitTo id' (.inBlock id :: k) = exitTo id' k := by simp [exitTo, this]
      exact ⟨.exit id', a₁, w₁, hq, fun k' hk => .head h0 stepR_block (harr.1 k' (by rw [hx]; exact hk)),
        fun hr' hk => let ⟨k₁, h1, h2⟩ := harr.2 hr' (by rw [hx]; exact hk); ⟨k₁, h1, .head h0 stepR_block h2⟩⟩
  | goto l =>
    have hx : gotoIn l (.inBlock id :: k) = gotoIn l k := by simp [gotoIn]
    exact ⟨_, a₁, w₁, hq, fun k' hk => .head h0 stepR_block (harr.1 k' (by rw [hx]; exact hk)),
      fun hr' hk => let ⟨k₁, h1, h2⟩ := harr.2 hr' (by rw [hx]; exact hk); ⟨k₁, h1, .head h0 stepR_block h2⟩⟩
  | ret => exact ⟨_, a₁, w₁, hq, .of_steps (.one h0 stepR_block) harr⟩
  | panic ch => exact ⟨_, a₁, w₁, hq, .of_steps (.one h0 stepR_block) harr⟩
  | outgrown => exact ⟨_, a₁, w₁, hq, .of_steps (.one h0 stepR_block) harr⟩
theorem Jvg {F : Fence} {n : Nat} {P : Program} {f : FuncId} {fn : Func} {c : Code} {args : Array Value} {w : World} {R : Ending → World → Prop}
    (hf : P.funcs[f]? = some fn) (hb : fn.body = some c) (hF : F.fn f)
    (h : wpE F n P c (bodyPostM F n P fn R) { tmps := args ++ Array.replicate (fn.ntmps - args.size) undef, defers := [] } w) (hro : F.round = none := by rfl) : CallsIn F n P f args w R := by
  refine ⟨hF, fun cs hr => ?_⟩
  let b : Frame := { (default : Frame) with fn := f, kind := .normal, roundOf := none }
  have henter : Frame.enter P f args .normal =
      b.atR { tmps := args ++ Array.replicate (fn.ntmps - args.size) undef, defers := [] } [.code c] := by
    simp [Frame.enter, Frame.atR, hf, hb, b]
  obtain ⟨e, a', w', hq, harr⟩ := h b [] cs hro.symm hF ⟨fn, hf⟩ hr
  rw [← henter] at harr
  cases e with
  | normal =>
    obtain ⟨e', w'', fr', hR, hs, hfn, hl⟩ := leaves_stepsInM a'.defers .returning w' { b.atR a' [] with mode := .returning } cs rfl rfl rfl hf rfl hF hr hq
    exact ⟨e', w'', fr', hR, ComesIn.of_steps (StepsIn.trans harr (.one (fenced_calm (fr := b.atR a' []) hF hr rfl) (stepR_end rfl))) hs, hfn, hl⟩
  | ret =>
    obtain ⟨todo, hs₀⟩ := harr.1 rfl
    obtain ⟨e', w'', fr', hR, hs, hfn, hl⟩ := leaves_stepsInM a'.defers .returning w' { b.atR a' todo with mode := .returning } cs rfl rfl rfl hf rfl hF hr hq
    exact ⟨e', w'', fr', hR, ComesIn.of_steps hs₀ hs, hfn, hl⟩
  | panic chain =>
    obtain ⟨todo, hs₀⟩ := harr
    obtain ⟨e', w'', fr', hR, hs, hfn, hl⟩ := leaves_stepsInM a'.defers (.panicking chain) w' { b.atR a' todo with mode := .panicking chain } cs rfl rfl rfl hf rfl hF hr hq
    exact ⟨e', w'', fr', hR, ComesIn.of_steps hs₀ hs, hfn, hl⟩
  | exit id => exact hq.elim
  | goto l => exact hq.elim
  | outgrown => exact ⟨.outgrown, w', b, hq, harr.resolve_left (by simp [b]), rfl, trivial⟩
theorem yr {F : Fence} {n : Nat} {P : Program} {g : Operand} {ps : Array Tmp} {assign body : Code} {Q : Exit → Act → World → Prop} {a : Act} {w : World}
    (h : ∀ fn, F.fn fn → (∃ fd, P.funcs[fn]? = some fd) → ∃ (l : Nat) (mark : List Deferred) (w₁ : World) (d : Deferred) (w₁' : World) (f : FuncId) (args : Array Value) (w₂ : World),
      (Instr.enterLoop fn a.tmps ps assign body F.round).run P w = .ok (l, mark) w₁ ∧
      (resolve a.eval (rangeCall g l) 0).run P w₁ = .ok d w₁' ∧
      (∀ f', Target.leads P w₁' d.target d.args = some f' → F.fn f') ∧
      (invoke d.target d.args).run P w₁' = .ok (.enter f args) w₂ ∧
      (F.depth.isSome = true → 1 ≤ n) ∧
      CallsIn F (n - 1) P f args w₂ (rangePost F n P l Q { a with defers := mark ++ a.defers })) :
    wpE F n P (.rangeFunc g ps assign body) Q a w := by
  intro b k cs hro hb hfn hr
  have h2 := h b.fn hb hfn
  have h3 : (Code.rangeFunc g ps assign body).wpIn { F with fn := fun f => F.fn f } n P Q a w → True := fun _ => trivial
  obtain ⟨l, mark, w₁, d, w₁', f, args, w₂, he, hres, hlead, hinv, hn, hF, hcall⟩ := h2
  rw [← hro] at he
  have h0 : (lone (b.atR a (.code (.rangeFunc g ps assign body) :: k)) cs w).fenced P F := by
    refine fenced_lone (.inl hb) (fun f' hf' => hlead f' ?_) (Fence.room_le hr (by omega))
    have hev := Frame.eval_atR b a (.code (.rangeFunc g ps assign body) :: k)
    simp only [Frame.atR] at hev
    simp only [Frame.about, Frame.atR, he, hev, hres] at hf'
    exact hf'
  have henter := stepR_rangeFunc (P := P) (b := b) (a := a) (k := k) (cs := cs) (w := w) he hres hinv
  have hroom : F.room ((b.atR { a with defers := mark ++ a.defers } (.inRangeFunc l :: k) :: cs).length + 1 + (n - 1)) := Fence.room_enter hr hn
  obtain ⟨e, w₃, fr, hR, hsteps, hfn', hleave⟩ := hcall (b.atR { a with defers := mark ++ a.defers } (.inRangeFunc l :: k) :: cs) hroom
  cases e with
  | outgrown =>
    obtain ⟨a₀, w₀, hq⟩ := hR
    exact ⟨.outgrown, a₀, w₀, hq, .inr (Outgrown.of_steps (.one henter) hsteps)⟩
  | returned v =>
    have hl : (lone fr (b.atR { a with defers := mark ++ a.defers } (.inRangeFunc l :: k) :: cs) w₃).fenced P F := fenced_leaving (hfn' ▸ hF) hroom hleave
    obtain ⟨jump, w₄, hend, hj⟩ := hR
    have sback : StepsIn (Machine.fenced P F) P (lone (b.atR a (.code (.rangeFunc g ps assign body) :: k)) cs w) (lone (b.atR { a with defers := mark ++ a.defers } ((jump.map Item.code).toList ++ k)) cs w₄) := by
      refine .head h0 henter (StepsIn.trans hsteps (.head hl ?_ (.one (fenced_calm (fr := b.atR { a with defers := mark ++ a.defers } (.endRangeFunc l :: k)) hb hr rfl) (stepR_endRangeFunc hend))))
      rw [← finish_atR_inRangeFunc l v]; exact step_leave_returned hleave
    cases jump with
    | none => exact ⟨.normal, _, w₄, hj, sback⟩
    | some c =>
      obtain ⟨e', a'', w₅, hq, harr⟩ := hj b k cs hro hb hr
      exact ⟨e', a'', w₅, hq, .of_steps sback harr⟩
  | panicked chain =>
    have hl : (lone fr (b.atR { a with defers := mark ++ a.defers } (.inRangeFunc l :: k) :: cs) w₃).fenced P F := fenced_leaving (hfn' ▸ hF) hroom hleave
    refine ⟨.panic chain, _, w₃, hR, .inRangeFunc l :: k, .head h0 henter (StepsIn.trans hsteps (.one hl ?_))⟩
    rw [← Frame.raise_atR]; exact step_leave_panicked hleave
def vx {σ τ : Type} (c3 : Cx) (Xb : XP) (I : σ → Prop) (LI : σ → Jr) (E : Code → τ → Prop) (LE : τ → Jr) (pc : List PanicEntry → Prop) : Exit → Act → World → Prop
  | .normal, _, w => ∃ s, I s ∧ St c3 (LI s) Xb w
  | .ret, _, w => ∃ s, E .ret s ∧ St c3 (LE s) Xb w
  | .exit id, _, w => ∃ s, E (.exit id) s ∧ St c3 (LE s) Xb w
  | .panic ch, a, w => a.defers = [] ∧ pc ch ∧ ∃ LL, St c3 LL Xb w
  | _, _, _ => False
theorem xX {σ τ : Type} {c3 : Cx} {q : Nat} {r : Loop} {I : σ → Prop} {LI : σ → Jr} {E : Code → τ → Prop} {LE : τ → Jr} {pc : List PanicEntry → Prop} {R : Ending → World → Prop}
    (h1 : ∀ s w, I s → St c3 (LI s) (VE q { r with state := .busy }) w → R (.returned (.bool true)) (w.putObj q (.loop { r with state := .ready, pending := none })))
    (h2 : ∀ j s w, E j s → St c3 (LE s) (VE q { r with state := .busy }) w → R (.returned (.bool false)) (w.putObj q (.loop { r with state := .done, pending := some j })))
    (h3 : ∀ ch LL w, pc ch → St c3 LL (VE q { r with state := .busy }) w → R (.panicked ch) w)
    (e : Exit) (a : Act) (w : World) (h : vx c3 (VE q { r with state := .busy }) I LI E LE pc e a w) : ZO c3.P q R e a w := by
  have hend : ∀ (w : World) (jump : Option Code), w.heap[q]? = some (.loop { r with state := .busy }) → (Instr.endRound q jump).run c3.P w = .ok (.bool jump.isNone) (w.putObj q (.loop { r with state := if jump.isNone then .ready else .done, pending := jump })) := fun w jump hw => run_endRound (r := { r with state := .busy }) jump hw
  cases e with
  | normal => obtain ⟨s, hs, hst⟩ := h; exact ⟨_, _, hend w none hst.recd, h1 s w hs hst⟩
  | ret => obtain ⟨s, hs, hst⟩ := h; exact ⟨_, _, hend w (some .ret) hst.recd, h2 _ s w hs hst⟩
  | exit id => obtain ⟨s, hs, hst⟩ := h; exact ⟨_, _, hend w (some (.exit id)) hst.recd, h2 _ s w hs hst⟩
  | goto t => exact h.elim
  | panic ch => obtain ⟨hd, hpc, LL, hst⟩ := h; exact ⟨hd, h3 ch LL w hpc hst⟩
  | outgrown => exact h.elim
theorem Jjk {σ τ : Type} {c3 : Cx} {l : Kn} {L : Jr} {Xb : XP} {I : σ → Prop} {LI : σ → Jr} {E : Code → τ → Prop} {LE : τ → Jr} {pc : List PanicEntry → Prop} {ch : List PanicEntry} (h : pc ch) : HQ c3 [] l L Xb (vx c3 Xb I LI E LE pc (.panic ch)) := fun a w hf hs => ⟨hf.defers, h, L, hs⟩
def HCE (c : Cx) (d : List Deferred) (l : Kn) (L : Jr) (X : XP) (code : Code) (Q : Exit → Act → World → Prop) : Prop :=
  ∀ a w, Fr c.n d l a → St c L X w → wpE (FW c.ro) 0 c.P code Q a w
section
variable {c : Cx} {l : Kn} {L : Jr} {X : XP} {Q : Exit → Act → World → Prop} {d : List Deferred}
theorem Jnu {code : Code} (h : HC c d l L X code Q) : HCE c d l L X code Q := fun a w hf hs => Jvf (h a w hf hs)
theorem Jhi {x y : Code} (h : ∀ K, (∀ d l L X, HCE c d l L X y Q → HQ c d l L X K) → HCE c d l L X x (Exit.then K Q)) : HCE c d l L X (x.seq y) Q :=
  fun a w hf hs => Jr7 (h (fun a w => wpE (FW c.ro) 0 c.P y Q a w) (fun _ _ _ _ hy a w hf hs => hy a w hf hs) a w hf hs)
theorem Jjm {id : Nat} {b : Code} (h : HCE c d l L X b (Exit.inBlock id Q)) : HCE c d l L X (.block id b) Q := fun a w hf hs => Jjj (h a w hf hs)
theorem Wi {x y : Code} (h : ∀ K, (∀ d l L X, HCE c d l L X y Q → HQ c d l L X K) → HC c d l L X x (Exit.then K Q)) : HCE c d l L X (x.seq y) Q := Jhi fun K hK => Jnu (h K hK)
theorem Jjn {ι σ τ : Type} {f : Operand} {pp : List Nat} {assign body : Code} {gf : FuncId} {caps : List Value} {Rl : Jr} {p0 : ι} {nx : ι → List Value → ι → Prop} {fi : ι → Prop}
    (pc : List PanicEntry → Prop) (I : ι → σ → Prop) (LI : σ → Jr) (E : Code → τ → Prop) (LE : τ → Jr) (Lk : Jr) (s0 : σ)
    (hro : c.ro = none) (hf : Ke l f = some (.func (.func gf) #[] caps.toArray)) (eg : Enters c.P gf) (hit : Jnt c.P gf caps Rl p0 nx fi) (hlen : ∀ i v i', nx i v i' → v.length = pp.length) (hpp : pp.all (Nat.blt · c.n) = true)
    (hRl : ∀ p ∈ Rl, p ∈ Lk ∨ p ∈ c.R) (hL : L = LI s0 ++ Lk) (h0 : I p0 s0)
    (hround : ∀ (q : Nat) (Xr Xb : XP) (w3 : World) (i : ι) (v : List Value) (i' : ι) (s : σ), nx i v i' → I i s → ∀ K, Jfo (jU c q w3 (KO (LI s)) Lk) Xr Xb body (vx (jU c q w3 (KO (LI s)) Lk) Xb (I i') LI E LE pc) K →
      HC (jU c q w3 (KO (LI s)) Lk) [] (qM pp v l) (LI s) Xr assign (Exit.then K fun _ _ _ => False))
    (hdone : ∀ D i s, fi i → I i s → HQ c (QG D :: d) l ((D, .deferred (some [])) :: (LI s ++ Lk)) X (Q .normal))
    (hstop : ∀ D j s, E j s → HC c (QG D :: d) l ((D, .deferred (some [])) :: (LE s ++ Lk)) X j Q)
    (hpan : ∀ D ch, pc ch → HQ c (QG D :: d) l ((D, .deferred (some [])) :: Lk) X (Q (.panic ch))) :
    HCE c d l L X (.rangeFunc f pp.toArray assign body) Q := fun a w hfr hs => by
  subst hL
  refine yr ?_
  intro fn _ hfdE
  obtain ⟨fd, hfd⟩ := hfdE
  have e0 : (FW c.ro).round = none := by rw [hro]; rfl
  rw [e0]
  obtain ⟨r, hr⟩ : ∃ r : Loop, r = { state := .ready, pending := none, fn, tmps := a.tmps, params := pp.toArray, assign, body, defers := w.heap.size } := ⟨_, rfl⟩
  obtain ⟨w2, hw2⟩ : ∃ w2, (w.alloc (.deferred (some []))).alloc (.loop r) = w2 := ⟨_, rfl⟩
  have hq : (w.alloc (.deferred (some []))).heap.size = w.heap.size + 1 := World.size_alloc _ _
  have hs2 : St c ((w.heap.size + 1, .loop r) :: (w.heap.size, .deferred (some [])) :: (LI s0 ++ Lk)) X w2 := by
    have := (hs.alloc (.deferred (some []))).alloc (.loop r)
    rw [hq, hw2] at this
    exact this
  have hq2 : w2.heap[w.heap.size + 1]? = some (.loop r) := (hs2.own _ List.mem_cons_self).2.2
  have hrr : ({ r with state := .ready, pending := none } : Loop) = r := by rw [hr]
  obtain ⟨M, hM⟩ : ∃ M, KO (LI s0) = M := ⟨_, rfl⟩
  refine ⟨w.heap.size + 1, [QG w.heap.size], w2, { target := .fn (.func gf) caps.toArray, args := #[.func (.yield (w.heap.size + 1)) #[] #[]] }, w2, gf, (.func (.yield (w.heap.size + 1)) #[] #[] :: caps).toArray, w2, ?_, ?_, fun _ _ => trivial, ?_, fun hdep => (by cases hdep), ?_⟩
  rw [← hw2, hr]; exact run_enterLoop_outer _ _ _ _ _
  have := hfr.eval hf
  simp only [resolve, this]
  simp [Deferred.ofValue]
  rfl
  have := eg (#[.func (.yield (w.heap.size + 1)) #[] #[]] ++ caps.toArray) w2
  have e1 : (#[Value.func (.yield (w.heap.size + 1)) #[] #[]] ++ caps.toArray) = (Value.func (.yield (w.heap.size + 1)) #[] #[] :: caps).toArray := by apply Array.toList_inj.1; simp
  rw [e1] at this
  simpa [invoke] using this
  · -- the iterator's contract at our invariant
    have hown := hs2.distinct
    have hMown : ∀ k ∈ M, ∃ o, (k, o) ∈ LI s0 := fun k hk => by
      rw [← hM] at hk
      obtain ⟨p, hp, rfl⟩ := List.mem_map.1 hk
      exact ⟨p.2, hp⟩
    have hpw := List.pairwise_cons.1 hown
    have hpw2 := List.pairwise_cons.1 hpw.2
    have hpw3 := List.pairwise_append.1 hpw2.2
    have hsz2 : w2.heap.size = w.heap.size + 2 := by rw [← hw2, World.size_alloc, World.size_alloc]
    have hLk2 : ∀ p ∈ Lk, p.1 < w2.heap.size := fun p hp => Js (hs2.own p (List.mem_cons_of_mem _ (List.mem_cons_of_mem _ (List.mem_append_right _ hp)))).2.2
    have hMk : ∀ p ∈ Lk, p.1 ∉ M ∧ p.1 ≠ w.heap.size + 1 := fun p hp => ⟨fun hm => by
      obtain ⟨o, ho⟩ := hMown _ hm
      exact hpw3.2.2 _ ho _ hp rfl, fun e => hpw.1 p (List.mem_cons_of_mem _ (List.mem_append_right _ hp)) e.symm⟩
    have hMq : w.heap.size + 1 ∉ M := fun hm => by
      obtain ⟨o, ho⟩ := hMown _ hm
      exact hpw.1 _ (List.mem_cons_of_mem _ (List.mem_append_left _ ho)) rfl
    have hMD : w.heap.size ∉ M := fun hm => by
      obtain ⟨o, ho⟩ := hMown _ hm
      exact hpw2.1 _ (List.mem_append_left _ ho) rfl
    have hMlt : ∀ k ∈ M, k < w2.heap.size := fun k hk => by
      obtain ⟨o, ho⟩ := hMown _ hk
      exact Js (hs2.own _ (List.mem_cons_of_mem _ (List.mem_cons_of_mem _ (List.mem_append_left _ ho)))).2.2
    -- what a place of one's own is apart from
    have apart : ∀ {k : Nat}, (k ∈ M ∨ w2.heap.size ≤ k) → k ≠ w.heap.size + 1 ∧ k ≠ w.heap.size ∧ (∀ p ∈ Lk, p.1 ≠ k) := fun {k} hk => by
      rcases hk with hk | hk
      exact ⟨fun e => hMq (e ▸ hk), fun e => hMD (e ▸ hk), fun p hp e => (hMk p hp).1 (e ▸ hk)⟩
      exact ⟨by omega, by omega, fun p hp e => by have := hLk2 p hp; omega⟩
    have apartR : ∀ {k : Nat}, (k ∈ M ∨ w2.heap.size ≤ k) → ∀ p ∈ c.R, p.1 ≠ k := fun {k} hk p hp e => by
      obtain ⟨e1, _, e3⟩ := hs2.ext p hp
      have h1 := Js e3
      have h2 := hs.keep.size
      rcases hk with hk | hk
      obtain ⟨o, ho⟩ := hMown _ hk
      rcases (hs2.own _ (List.mem_cons_of_mem _ (List.mem_cons_of_mem _ (List.mem_append_left _ ho)))).1 with g | g
      exact e1 (e ▸ g)
      simp only at g; omega
      omega
    have hcalls := hit (w.heap.size + 1) ((w.heap.size + 1) :: M) w2 (fun i => vI (w.heap.size + 1) w2.heap.size M r (I i) LI)
      (fun xs w' => ∃ j, vI (w.heap.size + 1) w2.heap.size M { r with state := .done, pending := some j } (E j) LE xs w') pc
      (fun p hp => by
        rcases hRl p hp with hL | hR
        refine ⟨fun hm => ?_, (hs2.own p (List.mem_cons_of_mem _ (List.mem_cons_of_mem _ (List.mem_append_right _ hL)))).2.2⟩
        obtain ⟨h1, h2⟩ := hMk p hL
        rcases List.mem_cons.1 hm with hm | hm
        exact h2 hm
        exact h1 hm
        refine ⟨fun hm => ?_, hs2.readR hR⟩
        rcases List.mem_cons.1 hm with hm | hm
        have h1 := Js (hs2.ext p hR).2.2
        have h2 := hs.keep.size
        omega
        exact apartR (.inl hm) p hR rfl)
      (fun k hk => by
        rcases List.mem_cons.1 hk with rfl | hk
        exact Js hq2
        exact hMlt k hk)
      (by
        have := Vj (q := w.heap.size + 1) (B := w2.heap.size) (M := M) (rec := r) (I := I p0) (LI := LI) s0 h0 hpw3.1 (fun p hp => .inl (by rw [← hM]; exact List.mem_map_of_mem (f := (·.1)) hp)) (fun p hp => (hs2.own _ (List.mem_cons_of_mem _ (List.mem_cons_of_mem _ (List.mem_append_left _ hp)))).2.2) hq2
        rw [hM] at this
        exact this)
      ?_
    · refine CallsIn.mono (show CallsIn (FW c.ro) (0 - 1) c.P gf _ w2 _ from callsIn_wide (n := 0) |>.2 hcalls) ?_
      rintro e w' (⟨⟨v, rfl⟩, hk, hfin⟩ | ⟨ch, rfl, hpc, hk⟩)
      rotate_left
      refine hpan w.heap.size ch hpc _ w' ⟨hfr.size, by simp [hfr.defers], hfr.slots⟩ ?_
      refine hs2.jump hk (fun k hm => ?_) (List.pairwise_cons.2 ⟨fun p hp => hpw2.1 p (List.mem_append_right _ hp), hpw3.2.1⟩) (fun p hp => ?_)
      rcases List.mem_cons.1 hm with rfl | hm
      exact ⟨_, List.mem_cons_self⟩
      obtain ⟨o, ho⟩ := hMown k hm
      exact ⟨o, List.mem_cons_of_mem _ (List.mem_cons_of_mem _ (List.mem_append_left _ ho))⟩
      rcases List.mem_cons.1 hp with rfl | hp
      refine ⟨.inl ⟨_, List.mem_cons_of_mem _ List.mem_cons_self⟩, ?_⟩
      refine (hk.block w.heap.size (Js (hs2.own _ (List.mem_cons_of_mem _ List.mem_cons_self)).2.2) ?_).trans (hs2.own _ (List.mem_cons_of_mem _ List.mem_cons_self)).2.2
      simp only [List.mem_cons, not_or]; exact ⟨by omega, hMD⟩
      have hmem := List.mem_cons_of_mem (w.heap.size + 1, Obj.loop r) (List.mem_cons_of_mem (w.heap.size, Obj.deferred (some [])) (List.mem_append_right (LI s0) hp))
      refine ⟨.inl ⟨p.2, hmem⟩, ?_⟩
      obtain ⟨g1, g2⟩ := hMk p hp
      refine (hk.block p.1 (Js (hs2.own _ hmem).2.2) ?_).trans (hs2.own _ hmem).2.2
      simp only [List.mem_cons, not_or]; exact ⟨g2, g1⟩
      have fin : ∀ (st : LoopState) (pe : Option Code) (LL : Jr), st ≠ .busy → LL.Pairwise (fun p q => p.1 ≠ q.1) → (∀ p ∈ LL, p.1 ∈ M ∨ w2.heap.size ≤ p.1) → jT LL w' → w'.heap[w.heap.size + 1]? = some (.loop { r with state := st, pending := pe }) →
          (Instr.endLoop (w.heap.size + 1)).run c.P w' = .ok pe (w'.putObj (w.heap.size + 1) (.loop { r with state := .exhausted, pending := pe })) ∧
          St c ((w.heap.size, .deferred (some [])) :: (LL ++ Lk)) X (w'.putObj (w.heap.size + 1) (.loop { r with state := .exhausted, pending := pe })) := by
        intro st pe LL hst hpwL hLM hLL hl
        refine ⟨run_endLoop hl hst, ?_⟩
        have hk2 : Keep ((w.heap.size + 1) :: M) w2 (w'.putObj (w.heap.size + 1) (.loop { r with state := .exhausted, pending := pe })) :=
          hk.trans ((Keep.putObj _ _).weak fun k hm => by simp at hm; subst hm; exact List.mem_cons_self)
        have hput : ∀ k, k ≠ w.heap.size + 1 → (w'.putObj (w.heap.size + 1) (.loop { r with state := .exhausted, pending := pe })).heap[k]? = w'.heap[k]? := fun k hne => World.putObj_heap_other hne
        refine hs2.jump hk2 (fun k hm => ?_) ?_ (fun p hp => ?_)
        rcases List.mem_cons.1 hm with rfl | hm
        exact ⟨_, List.mem_cons_self⟩
        obtain ⟨o, ho⟩ := hMown k hm
        exact ⟨o, List.mem_cons_of_mem _ (List.mem_cons_of_mem _ (List.mem_append_left _ ho))⟩
        refine List.pairwise_cons.2 ⟨fun p hp => ?_, List.pairwise_append.2 ⟨hpwL, hpw3.2.1, fun p hp p' hp' => ?_⟩⟩
        rcases List.mem_append.1 hp with hp | hp
        exact fun e => (apart (hLM p hp)).2.1 e.symm
        exact hpw2.1 p (List.mem_append_right _ hp)
        exact fun e => (apart (hLM p hp)).2.2 p' hp' e.symm
        rcases List.mem_cons.1 hp with rfl | hp
        refine ⟨.inl ⟨_, List.mem_cons_of_mem _ List.mem_cons_self⟩, ?_⟩
        rw [hput _ (by simp)]
        refine (hk.block w.heap.size (Js (hs2.own _ (List.mem_cons_of_mem _ List.mem_cons_self)).2.2) ?_).trans (hs2.own _ (List.mem_cons_of_mem _ List.mem_cons_self)).2.2
        simp only [List.mem_cons, not_or]; exact ⟨by omega, hMD⟩
        rcases List.mem_append.1 hp with hp | hp
        refine ⟨?_, ?_⟩
        rcases hLM p hp with g | g
        obtain ⟨o, ho⟩ := hMown _ g
        exact .inl ⟨o, List.mem_cons_of_mem _ (List.mem_cons_of_mem _ (List.mem_append_left _ ho))⟩
        exact .inr g
        rw [hput _ (apart (hLM p hp)).1]
        exact hLL p hp
        have hmem := List.mem_cons_of_mem (w.heap.size + 1, Obj.loop r) (List.mem_cons_of_mem (w.heap.size, Obj.deferred (some [])) (List.mem_append_right (LI s0) hp))
        refine ⟨.inl ⟨p.2, hmem⟩, ?_⟩
        obtain ⟨g1, g2⟩ := hMk p hp
        rw [hput _ g2]
        refine (hk.block p.1 (Js (hs2.own _ hmem).2.2) ?_).trans (hs2.own _ hmem).2.2
        simp only [List.mem_cons, not_or]; exact ⟨g2, g1⟩
      have hfr2 : Fr c.n (QG w.heap.size :: d) l { tmps := a.tmps, defers := [QG w.heap.size] ++ a.defers } := ⟨hfr.size, by simp [hfr.defers], hfr.slots⟩
      rcases hfin with ⟨i, xs, hi, ⟨s, h1, h2, h3, h4, _⟩, h5⟩ | ⟨xs, j, ⟨s, h1, h2, h3, h4, _⟩, h5⟩
      obtain ⟨g1, g2⟩ := fin .ready none (LI s) (by simp) h2 h3 h4 (by rw [hrr]; exact h5)
      exact ⟨none, _, g1, hdone _ i s hi h1 _ _ hfr2 g2⟩
      · obtain ⟨g1, g2⟩ := fin .done (some j) (LE s) (by simp) h2 h3 h4 h5
        exact ⟨some j, _, g1, hstop _ j s h1 _ _ hfr2 g2⟩
    · -- a round
      rintro i v i' hi xs w3 hxs hk3 hfoot
      obtain ⟨⟨s, h1, hpwS, hMS, h2, rfl⟩, h3⟩ := hfoot w3 fun _ _ => rfl
      have hargs : v.toArray.size = r.params.size := by rw [hr]; simpa using hlen i v i' hi
      have hy := run_yield (P := c.P) (args := v.toArray) h3 hargs
      refine ⟨_, _, _, _, hy, ?_⟩
      obtain ⟨c3, hc3⟩ : ∃ c3, jU c (w.heap.size + 1) w3 (KO (LI s)) Lk = c3 := ⟨_, rfl⟩
      have hc3x : c3.xids = [w.heap.size + 1] := by rw [← hc3]; rfl
      have hc3i : c3.ids = KO (LI s) := by rw [← hc3]; rfl
      have hc3w : c3.w1 = w3 := by rw [← hc3]; rfl
      have hmemS : ∀ p ∈ LI s, p.1 ∈ KO (LI s) := fun p hp => List.mem_map_of_mem (f := (·.1)) hp
      have hidS : ∀ {k : Nat}, k ∈ KO (LI s) → k ∈ M ∨ w2.heap.size ≤ k := fun {k} hk => by
        obtain ⟨p, hp, rfl⟩ := List.mem_map.1 hk
        exact hMS p hp
      have hst3 : St c3 (LI s) (VE (w.heap.size + 1) r) w3 := by
        subst hc3
        refine ⟨Keep.refl _ _, fun p hp => ⟨.inl (hmemS p hp), ?_, h2 p hp⟩, hpwS, ?_, ?_, [w.heap.size + 1], fun k hk => ?_, fun w' hw' => (hw' _ (by simp)).trans h3⟩
        simp only [jU, List.mem_singleton]; exact (apart (hMS p hp)).1
        intro p hp
        simp only [jU] at hp ⊢
        rcases List.mem_append.1 hp with hp | hp
        obtain ⟨g1, g2⟩ := hMk p hp
        refine ⟨fun hm => (apart (hidS hm)).2.2 p hp rfl, by simpa using g2, ?_⟩
        have hmem := List.mem_cons_of_mem (w.heap.size + 1, Obj.loop r) (List.mem_cons_of_mem (w.heap.size, Obj.deferred (some [])) (List.mem_append_right (LI s0) hp))
        exact (hk3.block p.1 (Js (hs2.own _ hmem).2.2) (by simp only [List.mem_cons, not_or]; exact ⟨g2, g1⟩)).trans (hs2.own _ hmem).2.2
        have e3 := hs2.readR hp
        have hlt := Js (hs2.ext p hp).2.2
        have hsz := hs.keep.size
        have hnq : p.1 ≠ w.heap.size + 1 := fun e => by omega
        refine ⟨fun hm => apartR (hidS hm) p hp rfl, by simpa using hnq, ?_⟩
        exact (hk3.block p.1 (Js e3) (by simp only [List.mem_cons, not_or]; exact ⟨hnq, fun hm => apartR (.inl hm) p hp rfl⟩)).trans e3
        intro k hk; simp only [jU, List.mem_singleton] at hk; subst hk; exact Js h3
        simp only [List.mem_singleton] at hk
        subst hk
        exact ⟨.inl (by simp [jU]), Js h3, fun p hp => (apart (hMS p hp)).1⟩
      have hbusy : ∀ {LL : Jr} {w' : World}, St c3 LL (VE (w.heap.size + 1) r) w' →
          St c3 LL (VE (w.heap.size + 1) { r with state := .busy, pending := none }) (w'.putObj (w.heap.size + 1) (.loop { r with state := .busy, pending := none })) := by
        intro LL w' hst
        have hlt : w.heap.size + 1 < w'.heap.size := Js hst.recd
        refine ⟨hst.keep.trans ((Keep.putObj _ _).weak fun k hm => by simp at hm; subst hm; rw [hc3x]; simp), fun p hp => ?_, hst.distinct, hst.ext, hst.xlt, [w.heap.size + 1], fun k hk => ?_, fun w'' hw'' => (hw'' _ (by simp)).trans (World.putObj_heap_same hlt)⟩
        obtain ⟨g1, g2, g3⟩ := hst.own p hp
        refine ⟨g1, g2, (World.putObj_heap_other ?_).trans g3⟩
        intro e; exact g2 (by rw [e, hc3x]; simp)
        simp only [List.mem_singleton] at hk
        subst hk
        exact ⟨.inl (by rw [hc3x]; simp), Nat.lt_of_lt_of_le hlt (Keep.putObj _ _).size, fun p hp e => (hst.own p hp).2.1 (by rw [hc3x, e]; simp)⟩
      have hfr3 : Fr c3.n [] (qM pp v l) { tmps := (r.params.zip v.toArray).foldl (fun (t : Array Value) (pv : Nat × Value) => t.setIfInBounds pv.1 pv.2) r.tmps, defers := [] } := by
        have h5 := zB (n := c.n) pp v l a.tmps (fun p hp => by have := List.all_eq_true.1 hpp p hp; simpa using this) ⟨hfr.size, rfl, hfr.slots⟩
        rw [hr, ← hc3]
        simp only [List.zip_toArray, List.foldl_toArray']
        exact h5
      have key : ∀ RR : Ending → World → Prop,
          (∀ s' w', I i' s' → St c3 (LI s') (VE (w.heap.size + 1) { r with state := .busy, pending := none }) w' → RR (.returned (.bool true)) (w'.putObj (w.heap.size + 1) (.loop { r with state := .ready, pending := none }))) →
          (∀ j s' w', E j s' → St c3 (LE s') (VE (w.heap.size + 1) { r with state := .busy, pending := none }) w' → RR (.returned (.bool false)) (w'.putObj (w.heap.size + 1) (.loop { r with state := .done, pending := some j }))) →
          (∀ ch LL w', pc ch → St c3 LL (VE (w.heap.size + 1) { r with state := .busy, pending := none }) w' → RR (.panicked ch) w') →
          RoundIn (FW none) 0 c.P (w.heap.size + 1) r.fn ((r.params.zip v.toArray).foldl (fun (t : Array Value) (pv : Nat × Value) => t.setIfInBounds pv.1 pv.2) r.tmps) r.assign r.body w3 RR := by
        intro RR g1 g2 g3
        refine qk (F := FW none) (fn := fd) trivial (by rw [hr]; exact hfd) ?_
        have hround' := hround (w.heap.size + 1) (VE (w.heap.size + 1) r) (VE (w.heap.size + 1) { r with state := .busy, pending := none }) w3 i v i' s hi h1
          (fun a₁ w₁ => ∃ w₂, (Instr.beginRound (w.heap.size + 1)).run c.P w₁ = .ok () w₂ ∧ body.wpIn ((FW none).inRound (w.heap.size + 1)) 0 c.P (ZO c.P (w.heap.size + 1) RR) a₁ w₂)
        rw [hc3] at hround'
        have hround'' := hround' (fun l' L' hb a₁ w₁ hf₁ hs₁ => ?_) _ w3 hfr3 hst3
        have e1 : r.assign = assign := by rw [hr]
        have e2 : r.body = body := by rw [hr]
        have e3 : c3.P = c.P := by rw [← hc3]; rfl
        have e4 : c3.ro = some (w.heap.size + 1) := by rw [← hc3]; rfl
        rw [e3, e4] at hround''
        rw [e1, e2]
        exact hround''
        have hx1 : w₁.heap[w.heap.size + 1]? = some (.loop r) := hs₁.recd
        refine ⟨_, run_beginRound hx1 (by rw [hr]), ?_⟩
        have hb2 := hb a₁ _ hf₁ (hbusy hs₁)
        have hb3 : ({ r with state := .busy } : Loop) = { r with state := .busy, pending := none } := by rw [hr]
        rw [hb3]
        have e3 : c3.P = c.P := by rw [← hc3]; rfl
        have e4 : c3.ro = some (w.heap.size + 1) := by rw [← hc3]; rfl
        rw [e3, e4] at hb2
        refine wpIn_mono (show body.wpIn ((FW none).inRound (w.heap.size + 1)) 0 c.P _ a₁ _ from hb2) ?_
        have := xX (c3 := c3) (q := w.heap.size + 1) (r := { r with pending := none }) (R := RR) g1 g2 g3
        rw [e3] at this
        exact this
      have turn : ∀ (st : LoopState) (pe : Option Code) (LL : Jr) (w' : World), St c3 LL (VE (w.heap.size + 1) { r with state := .busy, pending := none }) w' →
          (∀ k ∈ (w.heap.size + 1) :: KO LL, k < (w'.putObj (w.heap.size + 1) (.loop { r with state := st, pending := pe })).heap.size ∧ (k ∈ (w.heap.size + 1) :: KO (LI s) ∨ w3.heap.size ≤ k)) ∧
          Keep ((w.heap.size + 1) :: KO (LI s)) w3 (w'.putObj (w.heap.size + 1) (.loop { r with state := st, pending := pe })) ∧ (∀ p ∈ LL, p.1 ∈ M ∨ w2.heap.size ≤ p.1) ∧ jT LL (w'.putObj (w.heap.size + 1) (.loop { r with state := st, pending := pe })) ∧
          (w'.putObj (w.heap.size + 1) (.loop { r with state := st, pending := pe })).heap[w.heap.size + 1]? = some (.loop { r with state := st, pending := pe }) := by
        intro st pe LL w' hst'
        have hlt : w.heap.size + 1 < w'.heap.size := Js hst'.recd
        have hk' := hst'.keep
        rw [hc3x, hc3i, hc3w] at hk'
        have hown' : ∀ p ∈ LL, (p.1 ∈ KO (LI s) ∨ w3.heap.size ≤ p.1) ∧ p.1 ≠ w.heap.size + 1 ∧ w'.heap[p.1]? = some p.2 := fun p hp => by
          have := hst'.own p hp
          rw [hc3x, hc3i, hc3w] at this
          simpa using this
        refine ⟨fun k hk => ?_, ?_, fun p hp => ?_, fun p hp => (World.putObj_heap_other (hown' p hp).2.1).trans (hown' p hp).2.2, World.putObj_heap_same hlt⟩
        rcases List.mem_cons.1 hk with rfl | hk
        exact ⟨Nat.lt_of_lt_of_le hlt (Keep.putObj _ _).size, .inl List.mem_cons_self⟩
        obtain ⟨p, hp, rfl⟩ := List.mem_map.1 hk
        obtain ⟨e1, e2, e3⟩ := hown' p hp
        exact ⟨Nat.lt_of_lt_of_le (Js e3) (Keep.putObj _ _).size, e1.imp (List.mem_cons_of_mem _) id⟩
        refine (hk'.weak fun k hm => ?_).trans ((Keep.putObj _ _).weak fun k hm => by simp at hm; subst hm; exact List.mem_cons_self)
        rcases List.mem_append.1 hm with hm | hm
        exact List.mem_cons_of_mem _ hm
        simp only [List.mem_singleton] at hm; subst hm; exact List.mem_cons_self
        rcases (hown' p hp).1 with g | g
        exact hidS g
        exact .inr (Nat.le_trans hk3.size g)
      refine key _ ?_ ?_ ?_
      intro s' w' hI' hst'
      obtain ⟨t1, t2, t3, t4, t5⟩ := turn .ready none (LI s') w' hst'
      refine .inl ⟨true, _, rfl, t1, t2, ?_⟩
      rw [if_pos rfl]
      exact Vj s' hI' hst'.distinct t3 t4 (by rw [hrr] at t5 ⊢; exact t5)
      · intro j s' w' hE' hst'
        obtain ⟨t1, t2, t3, t4, t5⟩ := turn .done (some j) (LE s') w' hst'
        refine .inl ⟨false, _, rfl, t1, t2, ?_⟩
        rw [if_neg (by simp)]
        exact fun w'' hw'' => ⟨j, Vj s' hE' hst'.distinct t3 t4 t5 w'' hw''⟩
      · intro ch LL w' hpc hst'
        have hk' := hst'.keep
        rw [hc3x, hc3i, hc3w] at hk'
        refine .inr ⟨ch, rfl, hpc, hk'.weak fun k hm => ?_⟩
        rcases List.mem_append.1 hm with hm | hm
        exact List.mem_cons_of_mem _ hm
        · simp only [List.mem_singleton] at hm; subst hm; exact List.mem_cons_self
end
theorem xY {P : Program} {f : FuncId} {fn : Func} {code : Code} {vs : List Value} {w : World} {L : Jr} {X : XP} {R : Ending → World → Prop} (c : Cx) (hf : P.funcs[f]? = some fn) (hb : fn.body = some code) (hc : c.P = P) (hro : c.ro = none) (hn : c.n = fn.ntmps)
    (hlen : Nat.ble vs.length fn.ntmps = true) (hs : St c L X w) (h : HCE c [] (Vg 0 vs) L X code (bodyPostM (FW none) 0 P fn R)) : Calls P f vs.toArray w R := by
  refine callsIn_wide (n := 0) |>.1 (Jvg hf hb trivial ?_)
  have h1 := h _ w (jS (n := c.n) (by rw [hn]; exact Nat.le_of_ble_eq_true hlen)) hs
  rw [hro, hc, hn] at h1
  exact h1
theorem xZ {α : Type} {P : Program} {f : FuncId} {fn : Func} {code : Code} {vs : List Value} {ok : Prop} {bad : Value → Prop} {V : α → Value} {Rl : Jr} {LL : α → Jr} (hf : P.funcs[f]? = some fn) (hb : fn.body = some code) (hlen : Nat.ble vs.length fn.ntmps = true)
    (h : ∀ w, HCE (cxX P w Rl fn.ntmps) [] (Vg 0 vs) [] (fun _ _ => True) code (bodyPostM (FW none) 0 P fn (Jnq (cxX P w Rl fn.ntmps) ok bad V LL))) : PureX P f vs.toArray ok bad V LL Rl := ⟨fun w hR =>
  (xY (cxX P w Rl fn.ntmps) hf hb rfl rfl rfl hlen (St.startX hR) (h w)).mono fun _ _ h => h.imp
    (fun ⟨ho, x, he, hs⟩ => ⟨ho, x, he, by have := hs.keep; simpa [cxX] using this, fun p hp => by have := (hs.own p hp); simp only [cxX, List.not_mem_nil, false_or] at this; exact ⟨this.1, this.2.2⟩, hs.distinct⟩)
    (fun ⟨v, hv, he, hk⟩ => ⟨v, hv, he, hk⟩)⟩
def dF (g : FuncId) (caps : List Value) : Deferred := { target := .fn (.func g) caps.toArray, args := #[] }
def Jtw (c : Cx) (L' : Jr) (X : XP) : Ending → FrameMode → World → Prop := fun e u' w' => (∃ x, e = .returned x) ∧ settle u' = .returning ∧ St c L' X w'
section
variable {c : Cx} {l : Kn} {L : Jr} {X : XP} {Q : Exit → Act → World → Prop} {K : Act → World → Prop} {d : List Deferred}
variable {ops : Array Oper} {rest : List Oper} {i : Nat} {v : Value} {t : TypeId} {ps : String} {af : Array Edge} {gd : Option (Nat × Bool)} {ty : TypeId}
theorem Jnv {f : Operand} {at_ : Array TypeId} {g : FuncId} {caps : List Value} {dst : Option Nat} (hro : c.ro = none) (hg : Kj l ops ⟨dst, .defer ⟨.value f, #[], at_⟩, ty, ps, af, gd⟩ = some true) (hf : Ke l f = some (.func (.func g) #[] caps.toArray))
    (h : HL c (dF g caps :: d) l L X ops rest Q) (hdst : dst = none) : HL c d l L X ops (⟨dst, .defer ⟨.value f, #[], at_⟩, ty, ps, af, gd⟩ :: rest) Q := fun a w hfr hs => by
  subst hdst
  unfold wpListIn
  rw [if_pos (JB hfr hg)]
  refine ⟨KR, ?_⟩
  have e0 : (FW c.ro).round = none := by rw [hro]; rfl
  rw [e0, Oper.semAt_none]
  have h4 := hfr.eval hf
  have hrun : (execOp a.eval ⟨none, .defer ⟨.value f, #[], at_⟩, ty, ps, af, gd⟩).run c.P w = .ok (.defer (dF g caps)) w := by
    simp only [execOp, Sem.run_bind]
    simp [resolve, h4, Deferred.ofValue, Result.andThen, dF]
  rw [hrun, Oper.uponIn_defer]
  exact h _ w ⟨hfr.size, by simp [Act.put, hfr.defers], hfr.slots⟩ hs
theorem Jnw {P : Program} {g : FuncId} (eg : Enters P g) (caps : List Value) (w : World) : (invoke (dF g caps).target (dF g caps).args).run P w = .ok (.enter g caps.toArray) w := by
  have := eg (#[] ++ caps.toArray) w
  have e1 : (#[] ++ caps.toArray : Array Value) = caps.toArray := by simp
  rw [e1] at this
  simpa [invoke, dF] using this
theorem Jvh {fn : Func} {R : Ending → World → Prop} {P : Program} {g : FuncId} {caps : List Value} {L' : Jr} (eg : Enters P g)
    (hD : ∀ w, St c L X w → CallsDIn (FW none) 0 P g caps.toArray .returning w (Jtw c L' X)) (h : HQ c d l L' X (bodyPostM (FW none) 0 P fn R .ret)) : HQ c (dF g caps :: d) l L X (bodyPostM (FW none) 0 P fn R .ret) := fun a w hf hs => by
  show LeavesInM _ _ _ _ _ _ _ _ _
  rw [hf.defers]
  refine ⟨by simp, .inr ⟨fun hdep => (by cases hdep), _, _, g, caps.toArray, rfl, Jnw eg caps w, fun _ _ => trivial, ?_⟩⟩
  refine CallsDIn.mono (hD w hs) ?_
  rintro e u' w' ⟨⟨x, rfl⟩, hu, hs'⟩
  have h1 := h { tmps := a.tmps, defers := d } w' ⟨hf.size, rfl, hf.slots⟩ hs'
  simp only [hu]
  exact h1
theorem Jr8 {fn : Func} {R : Ending → World → Prop} {P : Program} {g : FuncId} {caps : List Value} {L' : Jr} {ch : List PanicEntry} (eg : Enters P g)
    (hD : ∀ w, St c L X w → CallsDIn (FW none) 0 P g caps.toArray (.panicking ch) w (Jtw c L' X)) (h : HQ c d l L' X (bodyPostM (FW none) 0 P fn R .ret)) : HQ c (dF g caps :: d) l L X (bodyPostM (FW none) 0 P fn R (.panic ch)) := fun a w hf hs => by
  show LeavesInM _ _ _ _ _ _ _ _ _
  rw [hf.defers]
  refine ⟨by simp, .inr ⟨fun hdep => (by cases hdep), _, _, g, caps.toArray, rfl, Jnw eg caps w, fun _ _ => trivial, ?_⟩⟩
  refine CallsDIn.mono (hD w hs) ?_
  rintro e u' w' ⟨⟨x, rfl⟩, hu, hs'⟩
  have h1 := h { tmps := a.tmps, defers := d } w' ⟨hf.size, rfl, hf.slots⟩ hs'
  simp only [hu]
  exact h1
end
def HCS (c : Cx) (d : List Deferred) (l : Kn) (L : Jr) (X : XP) (code : Code) (cs : List Frame) (Q : Exit → Act → List Frame → World → Prop) : Prop :=
  ∀ a w, Fr c.n d l a → St c L X w → code.wpSIn (FW none) 0 c.P Q a cs w
def HS (c : Cx) (d : List Deferred) (l : Kn) (L : Jr) (X : XP) (ops : Array Oper) (rest : List Nat) (cs : List Frame) (Q : Exit → Act → List Frame → World → Prop) : Prop :=
  ∀ a w, Fr c.n d l a → St c L X w → wpOpsSIn (FW none) 0 c.P ops Q rest a cs w
section
variable {c : Cx} {l : Kn} {L : Jr} {X : XP} {Q : Exit → Act → List Frame → World → Prop} {d : List Deferred} {cs : List Frame}
variable {ops : Array Oper} {rest : List Nat} {i k : Nat} {v : Value} {o : Oper}
theorem Jnx {code : Code} (hro : c.ro = none) (h : HC c d l L X code (fun e a w => Q e a cs w)) : HCS c d l L X code cs Q := fun a w hf hs => by
  have h1 := h a w hf hs
  rw [hro] at h1
  exact wpSIn_of_wpIn rfl h1
theorem Jhj {x y : Code} (h : ∀ K, (∀ d l L X cs, HCS c d l L X y cs Q → HQ c d l L X (fun a w => K a cs w)) → HCS c d l L X x cs (Exit.thenS K Q)) : HCS c d l L X (x.seq y) cs Q :=
  fun a w hf hs => wpSIn_seq (h (fun a cs w => y.wpSIn (FW none) 0 c.P Q a cs w) (fun _ _ _ _ _ hy a w hf hs => hy a w hf hs) a w hf hs)
theorem wI {id : Nat} {ops : Array Oper} (h : HS c d l L X ops (List.range ops.size) cs Q) : HCS c d l L X (.region id ops false) cs Q := fun a w hf hs => wpSIn_region (h a w hf hs)
theorem Jny (h : HQ c d l L X (fun a w => Q .normal a cs w)) : HS c d l L X ops [] cs Q := h
theorem yt (ho : Wl ops.toList k = some o) (hg : Kj l ops o = some true) (hd : o.dst = some i) (hi : Nat.ble (i + 1) c.n = true) (hr : J7 c d l L X o v) (h : HS c d ((i, v) :: l) L X ops rest cs Q) : HS c d l L X ops (k :: rest) cs Q := fun a w hf hs => by
  have hk : ops[k]? = some o := by rw [← QJ ho]
  simp only [wpOpsSIn, hk]
  refine ⟨KR, ?_⟩
  rw [if_pos (JB hf hg), hr a w hf hs]
  rw [hd]
  exact h _ w (hf.put (Nat.le_of_ble_eq_true hi)) hs
def Jjo (cs : List Frame) : Value := match recoverD cs with | some (v, _) => v | none => .nilIface
def Jjp (cs : List Frame) : List Frame := match recoverD cs with | some (_, cs') => cs' | none => cs
theorem wJ (ho : Wl ops.toList k = some o) (hg : Kj l ops o = some true) (hd : o.dst = some i) (hi : Nat.ble (i + 1) c.n = true) (hr : ∀ a w, Fr c.n d l a → (execOp a.eval o).run c.P w = .ok .recover w) {v : Value} {cs' : List Frame} (hv : Jjo cs = v) (hc : Jjp cs = cs') (h : HS c d ((i, v) :: l) L X ops rest cs' Q) : HS c d l L X ops (k :: rest) cs Q := fun a w hf hs => by
  have hk : ops[k]? = some o := by rw [← QJ ho]
  simp only [wpOpsSIn, hk]
  refine ⟨KR, ?_⟩
  rw [if_pos (JB hf hg), hr a w hf, hd]
  have h1 := h _ w (hf.put (Nat.le_of_ble_eq_true hi)) hs
  subst hv hc
  unfold Jjo Jjp at h1
  cases e : recoverD cs with
  | none => rw [e] at h1; exact h1
  | some q => obtain ⟨u, cs2⟩ := q; rw [e] at h1; exact h1
theorem Jnz {fn : Func} {R : Ending → FrameMode → World → Prop} {rs : List ResultVar} {vs : List Value} {P : Program} {c₀ : Frame} {cs cs' : List Frame} {u' : FrameMode} (hP : c.P = P) (hcs : cs' = { c₀ with mode := u' } :: cs) (hr : fn.results = rs.toArray) (h : ResAll c l L rs vs) (hR : ∀ w, St c L X w → R (.returned (JP vs)) u' w) :
    HQ c [] l L X (fun a w => bodyPostS P fn c₀ cs R .ret a cs' w) := fun a w hf hs => ⟨hf.defers, u', hcs, _, hP ▸ qw hf hs h hr, hR w hs⟩
theorem zi {fn : Func} {R : Ending → FrameMode → World → Prop} {rs : List ResultVar} {vs : List Value} {P : Program} {c₀ : Frame} {cs cs' : List Frame} {u' : FrameMode} (hP : c.P = P) (hcs : cs' = { c₀ with mode := u' } :: cs) (hr : fn.results = rs.toArray) (h : ResAll c l L rs vs) (hR : ∀ w, St c L X w → R (.returned (JP vs)) u' w) :
    HQ c [] l L X (fun a w => bodyPostS P fn c₀ cs R .normal a cs' w) := Jnz (R := R) (fn := fn) hP hcs hr h hR
end
theorem jB {P : Program} {f : FuncId} {fn : Func} {code : Code} {vs : List Value} {L : Jr} {X : XP} {u : FrameMode} {w : World} {R : Ending → FrameMode → World → Prop} (c : Cx) (hf : P.funcs[f]? = some fn) (hb : fn.body = some code) (hc : c.P = P) (hn : c.n = fn.ntmps)
    (hlen : Nat.ble vs.length fn.ntmps = true) (hs : St c L X w) (h : ∀ c₀ cs, c₀.mode = u → HCS c [] (Vg 0 vs) L X code (c₀ :: cs) (bodyPostS P fn c₀ cs R)) : CallsDIn (FW none) 0 P f vs.toArray u w R := by
  refine callsDIn_of_wpSIn hf hb trivial fun c₀ cs hu => ?_
  have h1 := h c₀ cs hu _ w (jS (n := c.n) (by rw [hn]; exact Nat.le_of_ble_eq_true hlen)) hs
  rw [hc, hn] at h1
  exact h1
theorem Jn0 {c₀ : Frame} {cs : List Frame} {v : Value} (h : c₀.mode = .panicking (wH v)) : Jjo (c₀ :: cs) = v ∧ Jjp (c₀ :: cs) = { c₀ with mode := .panicking [{ v, recovered := true }] } :: cs := by
  have e : recoverD (c₀ :: cs) = some (v, { c₀ with mode := .panicking [{ v, recovered := true }] } :: cs) := by simp only [recoverD, h, wH]
  unfold Jjo Jjp
  rw [e]
  exact ⟨rfl, rfl⟩
theorem Jn1 {c₀ : Frame} {cs : List Frame} (h : c₀.mode = .returning) : Jjo (c₀ :: cs) = .nilIface ∧ Jjp (c₀ :: cs) = { c₀ with mode := .returning } :: cs := by
  have e : recoverD (c₀ :: cs) = none := by simp only [recoverD, h]
  unfold Jjo Jjp
  rw [e]
  refine ⟨rfl, ?_⟩
  cases c₀
  simp only at h
  rw [h]
def Jaa : Kn → Nat → Option Value
  | [], _ => none
  | (j, v) :: l, i => match Nat.beq i j with | true => some v | false => Jaa l i
def Za (ops : List Oper) (j : Nat) : Option Nat := match Wl ops j with | some o => o.dst | none => none
def wK (ops : List Oper) (tv : Kn) : List Edge → Kn
  | [] => []
  | e :: es => match Za ops e.on, Jaa tv e.on with | some i, some v => (i, v) :: wK ops tv es | _, _ => wK ops tv es
def Jc8 (ops : List Oper) (tv : Kn) (j : Nat) : Kn := match Wl ops j with | some o => wK ops tv (o.after.toList.filter fun e => Region.binds .any e) | none => []
def Jtx (ops : List Oper) (P : List Nat) (k : Nat) : Bool :=
  (P.all fun j => Nat.blt j ops.length) && Nat.blt k ops.length && !P.contains k && Nat.blt P.length ops.length &&
  ((k :: P).all fun j => match Wl ops j with | some o => Kp o.op && o.guard.isNone && (o.after.all fun e => !Region.binds .any e || (P.contains e.on && Nat.blt e.on j)) | none => false) &&
  ((List.range ops.length).all fun j => P.contains j || Nat.beq j k || (match Wl ops j with | some o => o.after.any fun e => Region.binds .any e && !P.contains e.on | none => false))
def Zb (n : Nat) (l : Kn) (ops : List Oper) : List Nat → Bool
  | [] => true
  | j :: r => (match Za ops j with | some i => Nat.blt i n && (match Vs l i with | some _ => false | none => true) && (r.all fun j' => match Za ops j' with | some i' => !Nat.beq i i' | none => false) | none => false) && Zb n l ops r
inductive BoomOk (c : Cx) (d : List Deferred) (l : Kn) (L : Jr) (X : XP) (ops : List Oper) (tv : Kn) : Kn → Prop
  | nil : BoomOk c d l L X ops tv []
  | cons {j : Nat} {v : Value} {o : Oper} {ds rest : Kn} (h1 : Wl ops j = some o) (h2 : Jc8 ops tv j = ds) (h3 : J7 c d (ds ++ l) L X o v) (h : BoomOk c d l L X ops tv rest) : BoomOk c d l L X ops tv ((j, v) :: rest)
theorem BoomOk.get {c : Cx} {d : List Deferred} {l : Kn} {L : Jr} {X : XP} {ops : List Oper} {tv : Kn} : ∀ {tw : Kn}, BoomOk c d l L X ops tv tw → ∀ p ∈ tw, ∃ o, Wl ops p.1 = some o ∧ J7 c d (Jc8 ops tv p.1 ++ l) L X o p.2
  | _, .nil, p, h => by cases h
  | _, .cons h1 h2 h3 h, p, hp => by
    rcases List.mem_cons.1 hp with rfl | hp
    · exact ⟨_, h1, h2 ▸ h3⟩
    · exact h.get p hp
theorem wM : ∀ {tv : Kn} {i : Nat} {v : Value}, Jaa tv i = some v → (i, v) ∈ tv
  | [], _, _, h => by cases h
  | (j, u) :: l, i, v, h => by
    rw [Jaa] at h
    split at h
    · rename_i e
      obtain rfl := Nat.eq_of_beq_eq_true e
      cases h; exact List.mem_cons_self
    · exact List.mem_cons_of_mem _ (wM h)
theorem Jn2 {d l : Kn} {i : Nat} {v : Value} (h : Vs (d ++ l) i = some v) : (i, v) ∈ d ∨ Vs l i = some v := by
  induction d with
  | nil => exact .inr h
  | cons x xs ih =>
    obtain ⟨j, u⟩ := x
    rw [List.cons_append, Vs] at h
    split at h
    · rename_i e
      obtain rfl := Nat.eq_of_beq_eq_true e
      cases h; exact .inl List.mem_cons_self
    · exact (ih h).imp (List.mem_cons_of_mem _) id
theorem ZP {ops : List Oper} {tv : Kn} : ∀ {es : List Edge} {i : Nat} {v : Value}, (i, v) ∈ wK ops tv es → ∃ e ∈ es, Za ops e.on = some i ∧ (e.on, v) ∈ tv
  | [], _, _, h => by cases h
  | e :: es, i, v, h => by
    rw [wK] at h
    split at h
    · rename_i i' v' h1 h2
      rcases List.mem_cons.1 h with e1 | h
      · cases e1; exact ⟨e, List.mem_cons_self, h1, wM h2⟩
      · obtain ⟨e', h3, h4⟩ := ZP h; exact ⟨e', List.mem_cons_of_mem _ h3, h4⟩
    · obtain ⟨e', h3, h4⟩ := ZP h; exact ⟨e', List.mem_cons_of_mem _ h3, h4⟩
theorem wO {n : Nat} {l : Kn} {ops : List Oper} : ∀ {P : List Nat}, Zb n l ops P = true → ∀ j ∈ P, ∃ i, Za ops j = some i ∧ i < n ∧ Vs l i = none
  | [], _, j, h => by cases h
  | k :: r, h, j, hj => by
    rw [Zb, Bool.and_eq_true] at h
    rcases List.mem_cons.1 hj with rfl | hj
    · have h1 := h.1
      split at h1
      · rename_i i hi
        simp only [Bool.and_eq_true] at h1
        have h2 := h1.1.2
        split at h2
        · cases h2
        · rename_i h3
          exact ⟨i, hi, by have := h1.1.1; simpa using this, h3⟩
      · cases h1
    · exact wO h.2 j hj
theorem zj {n : Nat} {l : Kn} {ops : List Oper} : ∀ {P : List Nat}, Zb n l ops P = true → ∀ j ∈ P, ∀ j' ∈ P, j ≠ j' → ∀ i i', Za ops j = some i → Za ops j' = some i' → i ≠ i'
  | [], _, j, h, _, _, _, _, _, _, _ => by cases h
  | k :: r, h, j, hj, j', hj', hne, i, i', hi, hi' => by
    rw [Zb, Bool.and_eq_true] at h
    have key : ∀ x ∈ r, ∀ i i', Za ops k = some i → Za ops x = some i' → i ≠ i' := fun x hx i i' hi hi' => by
      have h1 := h.1
      rw [hi] at h1
      simp only [Bool.and_eq_true] at h1
      have h2 := List.all_eq_true.1 h1.2 x hx
      rw [hi'] at h2
      simp only [Bool.not_eq_true'] at h2
      intro e
      rw [e, Nat.beq_refl] at h2
      cases h2
    rcases List.mem_cons.1 hj with rfl | hjr
    · rcases List.mem_cons.1 hj' with rfl | hjs
      · exact absurd rfl hne
      · exact key j' hjs i i' hi hi'
    · rcases List.mem_cons.1 hj' with rfl | hjs
      · exact fun e => key j hjr i' i hi' hi e.symm
      · exact zj h.2 j hjr j' hjs hne i i' hi hi'
theorem jC {n : Nat} {l : Kn} {ops : List Oper} : ∀ {P : List Nat}, Zb n l ops P = true → P.Nodup
  | [], _ => List.nodup_nil
  | k :: r, h => by
    rw [Zb, Bool.and_eq_true] at h
    refine List.nodup_cons.2 ⟨fun hm => ?_, jC h.2⟩
    have h1 := h.1
    split at h1
    · rename_i i hi
      simp only [Bool.and_eq_true] at h1
      have h2 := List.all_eq_true.1 h1.2 k hm
      rw [hi] at h2
      simp at h2
    · cases h1
theorem Jn3 {tv : Kn} (h : (tv.map (·.1)).Nodup) {p q : Nat × Value} (hp : p ∈ tv) (hq : q ∈ tv) (e : q.1 = p.1) : q.2 = p.2 := by
  induction tv with
  | nil => cases hp
  | cons x xs ih =>
    rw [List.map_cons, List.nodup_cons] at h
    rcases List.mem_cons.1 hp with rfl | hpr
    · rcases List.mem_cons.1 hq with rfl | hqr
      · rfl
      · exact absurd (List.mem_map.2 ⟨q, hqr, e⟩) h.1
    · rcases List.mem_cons.1 hq with rfl | hqr
      · exact absurd (List.mem_map.2 ⟨p, hpr, e.symm⟩) h.1
      · exact ih h.2 hpr hqr
theorem wP {f g : Nat → Bool} (hfg : ∀ j, g j = true → f j = true) : ∀ P : List Nat, (P.filter g).length ≤ (P.filter f).length
  | [] => Nat.le_refl _
  | x :: xs => by
    have := wP hfg xs
    by_cases hg : g x = true
    · rw [List.filter_cons_of_pos hg, List.filter_cons_of_pos (hfg x hg)]; simpa using this
    · rw [List.filter_cons_of_neg hg]
      by_cases hf : f x = true
      · rw [List.filter_cons_of_pos hf]; simp; omega
      · rw [List.filter_cons_of_neg hf]; exact this
theorem wQ {f g : Nat → Bool} (hfg : ∀ j, g j = true → f j = true) {i : Nat} (h1 : f i = true) (h2 : g i = false) : ∀ {P : List Nat}, i ∈ P → (P.filter g).length < (P.filter f).length
  | [], h => by cases h
  | x :: xs, h => by
    by_cases hx : x = i
    · subst hx
      rw [List.filter_cons_of_neg (by rw [h2]; simp), List.filter_cons_of_pos h1]
      have := wP hfg xs
      simp; omega
    · have ih := wQ hfg h1 h2 (P := xs) (by rcases List.mem_cons.1 h with e | h; exact absurd e.symm hx; exact h)
      by_cases hg : g x = true
      · rw [List.filter_cons_of_pos hg, List.filter_cons_of_pos (hfg x hg)]; simpa using ih
      · rw [List.filter_cons_of_neg hg]
        by_cases hf : f x = true
        · rw [List.filter_cons_of_pos hf]; simp; omega
        · rw [List.filter_cons_of_neg hf]; exact ih
theorem Jhk {c : Cx} {d : List Deferred} {l : Kn} {L : Jr} {X : XP} {Q : Exit → Act → World → Prop} {id : Nat} {ops : List Oper} (tv : Kn) (k : Nat) {ok : Oper} {P : List Nat} {dk : Kn} (hm : c.P.follows .mixedOrders = true) (hP : tv.map (·.1) = P) (hB : Jtx ops P k = true)
    (hf : Zb c.n l ops P = true) (hr : BoomOk c d l L X ops tv tv) (hk : Wl ops k = some ok) (hdk : Jc8 ops tv k = dk)
    (hp : ∀ (next : Act → World → Prop) a w, Fr c.n d (dk ++ l) a → St c L X w → ok.uponIn (FW c.ro) 0 c.P a next Q ((execOp a.eval ok).run c.P w)) : HC c d l L X (.region id ops.toArray true) Q := fun a w hfr hs => by
  subst hdk
  simp only [Jtx, Bool.and_eq_true] at hB
  obtain ⟨⟨⟨⟨⟨b1, b2⟩, b3⟩, b4⟩, b5⟩, b6⟩ := hB
  have b2' : k < ops.length := by simpa using b2
  have b3' : k ∉ P := by simpa using b3
  have b4' : P.length < ops.length := by simpa using b4
  have toArr : ∀ {j : Nat} {o : Oper}, Wl ops j = some o → ops.toArray[j]? = some o := fun {j o} h => by rw [Vf] at h; simpa using h
  have op5 : ∀ j, j = k ∨ j ∈ P → ∃ o, Wl ops j = some o ∧ Kp o.op = true ∧ o.guard = none ∧ ∀ e ∈ o.after, Region.binds .any e = true → e.on ∈ P ∧ e.on < j := fun j hj => by
    have h1 := List.all_eq_true.1 b5 j (by rcases hj with rfl | hj; exact List.mem_cons_self; exact List.mem_cons_of_mem _ hj)
    split at h1
    rename_i o ho
    simp only [Bool.and_eq_true] at h1
    refine ⟨o, ho, h1.1.1, by simpa using h1.1.2, fun e he hb => ?_⟩
    have h2 := h1.2
    rw [Array.all_eq_true_iff_forall_mem] at h2
    have h3 := h2 e he
    rw [hb] at h3
    simpa using h3
    cases h1
  have op6 : ∀ j o, Wl ops j = some o → j ∉ P → j ≠ k → ∃ e ∈ o.after, Region.binds .any e = true ∧ e.on ∉ P := fun j o ho hj hjk => by
    have hjl : j < ops.length := by rw [Vf] at ho; exact (List.getElem?_eq_some_iff.1 ho).1
    have h1 := List.all_eq_true.1 b6 j (List.mem_range.2 hjl)
    rw [ho] at h1
    have e1 : P.contains j = false := by simpa using hj
    have e2 : Nat.beq j k = false := by rw [Bool.eq_false_iff]; exact fun h => hjk (Nat.eq_of_beq_eq_true h)
    rw [e1, e2] at h1
    simp only [Bool.false_or] at h1
    obtain ⟨q, hq, h2⟩ := Array.any_eq_true.1 h1
    have he := Array.getElem_mem hq
    generalize o.after[q] = e at he h2
    simp only [Bool.and_eq_true, Bool.not_eq_true'] at h2
    exact ⟨e, he, h2.1, by simpa using h2.2⟩
  -- what holds on the way
  let Inv : Array Bool → Act → Prop := fun listed a => listed.size = ops.length ∧ (∀ j, listed.getD j false = true → j ∈ P) ∧ Fr c.n d l a ∧ ∀ p ∈ tv, listed.getD p.1 false = true → ∀ i, Za ops p.1 = some i → a.tmps[i]? = some p.2
  have both : ∀ {listed : Array Bool} {j : Nat}, listed.size = ops.length → j < ops.length → listed.getD j true = listed.getD j false := fun {listed j} h1 h2 => by
    simp [Array.getD, h1, h2]
  have rdy : ∀ {listed : Array Bool} {a : Act}, Inv listed a → ∀ N j, j ≤ N → (j = k ∨ j ∈ P) → listed.getD j false = false → ∃ i, i ∈ Region.ready .any ops.toArray listed := fun {listed a} hi N => by
    induction N with
    | zero =>
      intro j hj hjP hun
      obtain ⟨o, ho, _, _, hdep⟩ := op5 j hjP
      have hjl : j < ops.length := by rw [Vf] at ho; exact (List.getElem?_eq_some_iff.1 ho).1
      exact ⟨j, mem_ready.2 ⟨by rw [both hi.1 hjl]; exact hun, o, toArr ho, fun e he hb => by have := (hdep e he hb).2; omega⟩⟩
    | succ N ih =>
      intro j hj hjP hun
      obtain ⟨o, ho, _, _, hdep⟩ := op5 j hjP
      have hjl : j < ops.length := by rw [Vf] at ho; exact (List.getElem?_eq_some_iff.1 ho).1
      by_cases hall : ∀ e ∈ o.after, Region.binds .any e = true → listed.getD e.on false = true
      exact ⟨j, mem_ready.2 ⟨by rw [both hi.1 hjl]; exact hun, o, toArr ho, hall⟩⟩
      obtain ⟨e, he⟩ := Classical.not_forall.1 hall
      obtain ⟨he, h2⟩ := Classical.not_imp.1 he
      obtain ⟨hb, h3⟩ := Classical.not_imp.1 h2
      obtain ⟨h4, h5⟩ := hdep e he hb
      exact ih e.on (by omega) (.inr h4) (by simpa using h3)
  have frd : ∀ {listed : Array Bool} {a : Act} {j : Nat} {o : Oper}, Inv listed a → Wl ops j = some o → (∀ e ∈ o.after, Region.binds .any e = true → listed.getD e.on false = true) → Fr c.n d (Jc8 ops tv j ++ l) a := fun {listed a j o} hi ho hall => by
    refine ⟨hi.2.2.1.size, hi.2.2.1.defers, fun i v hv => ?_⟩
    rcases Jn2 hv with h | h
    unfold Jc8 at h
    rw [ho] at h
    obtain ⟨e, he, h1, h2⟩ := ZP h
    rw [List.mem_filter] at he
    exact hi.2.2.2 (e.on, v) h2 (hall e (by simpa using he.1) he.2) i h1
    exact hi.2.2.1.slots i v h
  have main : ∀ (f : Nat) (listed : Array Bool) (a : Act) (w : World), Inv listed a → St c L X w → (P.filter fun j => !listed.getD j false).length ≤ f → wpAnyIn (FW c.ro) 0 c.P .any ops.toArray Q (f + 1) listed a w := by
    intro f
    induction f with
    | zero =>
      intro listed a w hi hs hcnt
      have hku : listed.getD k false = false := by
        cases h : listed.getD k false with
        | false => rfl
        | true => exact absurd (hi.2.1 k h) b3'
      refine ⟨fun h0 => ?_, fun i hir => ?_⟩
      obtain ⟨i, hir⟩ := rdy hi k k (Nat.le_refl _) (.inl rfl) hku
      rw [h0] at hir; cases hir
      obtain ⟨hun, o, ho, hall⟩ := mem_ready.1 hir
      have hil : i < ops.length := by have := (Array.getElem?_eq_some_iff.1 ho).1; simpa using this
      have ho' : Wl ops i = some o := by rw [Vf]; simpa using ho
      by_cases hik : i = k
      subst hik
      rw [hk] at ho'
      cases ho'
      obtain ⟨o2, g1, g2, g3, _⟩ := op5 i (.inl rfl)
      rw [hk] at g1; cases g1
      unfold wpOpIn
      simp only [ho]
      rw [if_pos (by unfold Region.wanted; rw [g3])]
      refine ⟨KR, ?_⟩
      rw [Oper.semAt_eq _ _ _ (Wn g2)]
      exact hp _ a w (frd hi hk hall) hs
      by_cases hiP : i ∈ P
      have h1 : listed.getD i false = false := by rw [← both hi.1 hil]; exact hun
      have : i ∈ P.filter fun j => !listed.getD j false := List.mem_filter.2 ⟨hiP, by rw [h1]; rfl⟩
      rw [List.length_eq_zero_iff.1 (Nat.le_zero.1 hcnt)] at this
      cases this
      obtain ⟨e, he, hb, hno⟩ := op6 i o ho' hiP hik
      exact absurd (hi.2.1 _ (hall e he hb)) hno
    | succ f ih =>
      intro listed a w hi hs hcnt
      have hku : listed.getD k false = false := by
        cases h : listed.getD k false with
        | false => rfl
        | true => exact absurd (hi.2.1 k h) b3'
      refine ⟨fun h0 => ?_, fun i hir => ?_⟩
      obtain ⟨i, hir⟩ := rdy hi k k (Nat.le_refl _) (.inl rfl) hku
      rw [h0] at hir; cases hir
      · obtain ⟨hun, o, ho, hall⟩ := mem_ready.1 hir
        have hil : i < ops.length := by have := (Array.getElem?_eq_some_iff.1 ho).1; simpa using this
        have ho' : Wl ops i = some o := by rw [Vf]; simpa using ho
        by_cases hik : i = k
        subst hik
        rw [hk] at ho'
        cases ho'
        obtain ⟨o2, g1, g2, g3, _⟩ := op5 i (.inl rfl)
        rw [hk] at g1; cases g1
        unfold wpOpIn
        simp only [ho]
        rw [if_pos (by unfold Region.wanted; rw [g3])]
        refine ⟨KR, ?_⟩
        rw [Oper.semAt_eq _ _ _ (Wn g2)]
        exact hp _ a w (frd hi hk hall) hs
        · by_cases hiP : i ∈ P
          · have h1 : listed.getD i false = false := by rw [← both hi.1 hil]; exact hun
            rw [← hP] at hiP
            obtain ⟨p, hpm, rfl⟩ := List.mem_map.1 hiP
            rw [hP] at hiP
            obtain ⟨o2, g1, hrun⟩ := hr.get p hpm
            rw [ho'] at g1; cases g1
            obtain ⟨o3, g2, g3, g4, _⟩ := op5 p.1 (.inr hiP)
            rw [ho'] at g2; cases g2
            obtain ⟨dst, f1, f2, f3⟩ := wO hf p.1 hiP
            have f1' : o.dst = some dst := by unfold Za at f1; rw [ho'] at f1; exact f1
            unfold wpOpIn
            simp only [ho]
            rw [if_pos (by unfold Region.wanted; rw [g4])]
            refine ⟨KR, ?_⟩
            rw [Oper.semAt_eq _ _ _ (Wn g3), hrun a w (frd hi ho' hall) hs, Oper.uponIn_value, f1']
            refine ih _ _ w ⟨by simp [hi.1], fun j hj => ?_, ?_, fun q hq hlq i' hi' => ?_⟩ hs ?_
            by_cases hjp : j = p.1
            rw [hjp]; exact hiP
            refine hi.2.1 j ?_
            have e1 : (listed.setIfInBounds p.1 true).getD j false = listed.getD j false := getD_set_ne false (fun e => hjp e.symm)
            rw [← e1]; exact hj
            refine ⟨by simp [Act.put, hi.2.2.1.size], by simp [Act.put, hi.2.2.1.defers], fun i2 v2 hv2 => ?_⟩
            have hne : dst ≠ i2 := fun e => by rw [e, hv2] at f3; cases f3
            simp only [Act.put, Array.getElem?_setIfInBounds, if_neg hne]
            exact hi.2.2.1.slots i2 v2 hv2
            · by_cases hqp : q.1 = p.1
              have e1 : i' = dst := by rw [hqp, f1] at hi'; exact (Option.some.inj hi').symm
              subst e1
              have e2 : q.2 = p.2 := by
                exact Jn3 (by rw [hP]; exact jC hf) hpm hq hqp
              simp only [Act.put, Array.getElem?_setIfInBounds, if_true, hi.2.2.1.size, f2, e2]
              · have e1 : (listed.setIfInBounds p.1 true).getD q.1 false = listed.getD q.1 false := getD_set_ne false (fun e => hqp e.symm)
                rw [e1] at hlq
                have hne : dst ≠ i' := zj hf p.1 hiP q.1 (by rw [← hP]; exact List.mem_map_of_mem (f := (·.1)) hq) (fun e => hqp e.symm) _ _ f1 hi'
                simp only [Act.put, Array.getElem?_setIfInBounds, if_neg hne]
                exact hi.2.2.2 q hq hlq i' hi'
            have hlt := wQ (f := fun j => !listed.getD j false) (g := fun j => !(listed.setIfInBounds p.1 true).getD j false) (fun j hj => by
              by_cases hjp : j = p.1
              subst hjp
              simp [Array.getD, hi.1, hil] at hj
              rw [getD_set_ne false (fun e => hjp e.symm)] at hj; exact hj) (i := p.1) (by rw [h1]; rfl) (by simp [Array.getD, hi.1, hil]) hiP
            omega
          obtain ⟨e, he, hb, hno⟩ := op6 i o ho' hiP hik
          exact absurd (hi.2.1 _ (hall e he hb)) hno
  refine wpIn_region_any hm ?_
  have hsz : ops.toArray.size = (ops.length - 1) + 1 := by simp; omega
  rw [hsz]
  refine main _ _ a _ ⟨by simp; omega, fun j hj => ?_, hfr, fun p _ hlp => ?_⟩ (show St c L X w.drew from hs.drew) ?_
  rw [getD_replicate_false] at hj; cases hj
  rw [getD_replicate_false] at hlp; cases hlp
  · have := List.length_filter_le (fun j => !(Array.replicate ((ops.length - 1) + 1) false).getD j false) P
    omega
end Go.SL
namespace Go.Proofs.YteceenlfegnigaaGreatDoor
set_option linter.all false
open Go.SL Go.RowKit Go.Shelf
abbrev zk (e : Int) : Value := .iface 113 (.agg #[.int .i64 e])
theorem VF (b : Bool) (e : Int) : PureX (α := Unit) Tryz.prog 94 [.bool b, .int .i64 e].toArray (b = true) (fun v => b = false ∧ v = zk e) (fun _ => .tuple #[]) (fun _ => []) [] := by
  refine XJ Tryz.func94 rfl rfl fun w => ?_; refine sR fun _ hK1 => LS 2 [] rfl rfl (nK hK1 ?_); refine Jc rfl (fun h2 => ?_) (fun h2 => ?_)
  try simp only [ZZ] at h2
  refine Ja (Ji rfl (LR rfl (JI (r := [_]) rfl rfl) ?_)); refine JZ rfl (Jnr rfl rfl ?_); exact Ql rfl rfl ⟨by assumption, rfl⟩
  · try simp only [ZZ] at h2
    refine Jf ?_; refine Qx rfl rfl .nil (fun w1 hs1 => ?_); exact .inl ⟨by assumption, (), rfl, hs1.weakL (List.nil_sublist _)⟩
theorem Jty {s : BS} (h : 4 ≤ s.length) : wb (s.take 4) = (W7 (s.take 4), 0) ∧ W7 (s.take 4) < 4294967296 := by
  have hl : (s.take 4).length = 4 := by rw [List.length_take]; omega
  have h2 := Jea (s.take 4)
  rw [hl] at h2; refine ⟨?_, h2⟩
  unfold wb
  rw [if_neg (by omega)]
theorem Jn4 {s : BS} (h : 4 ≤ s.length) : Pure Tryz.prog 186 [J2 s].toArray (.int .i64 ((W7 (s.take 4) : Nat) : Int)) := by
  obtain ⟨h1, h2⟩ := Jty h
  refine JC Tryz.func186 rfl rfl fun w => ?_; refine sR fun _ hK1 => Ji rfl (nK hK1 ?_); refine sR fun _ hK2 => ?_; refine Ji rfl (LR rfl (V8 (kl := none) (kh := some (.i64, 4)) (m := 0) (n := 4) rfl rfl rfl rfl rfl rfl (by omega) (by omega) (show _ = s.take 4 from by rw [List.drop_zero])) (JD rfl rfl rfl (enters_of Tryz.func246 (by kernel_rfl) rfl) (Jep (s.take 4)) ?_)); refine Jy (congrArg Jwz h1) ?_; refine LS 5 [] rfl rfl (nK hK2 ?_); refine sR fun _ hK3 => LS 2 [] rfl rfl ?_; refine Jy (show _ = Value.int .i64 ((W7 (s.take 4) : Nat)) from congrArg (Value.int .i64) (wrap_i64 (by omega) (by omega))) ?_; refine Ji rfl (nK hK3 ?_); refine Jb (pT rfl rfl rfl fun w1 hs1 => ?_); exact ⟨rfl, hs1.keep⟩
theorem Jfd (s : BS) : ∃ a b c d, XO s = [a, b, c, d] := by
  have := (xq s).1
  match hq : XO s, this with
  | [a, b, c, d], _ => exact ⟨a, b, c, d, rfl⟩
theorem Jr9 {s : BS} (h : s.length ≤ 32) : qP (ZC s).reverse = (XO s, 0) := by
  unfold qP XO
  rw [if_pos (by rw [List.length_reverse, WD h])]
theorem zm {s : BS} (h : s.length ≤ 32) : Pure Tryz.prog 144 [J2 s].toArray (Go.SL.wV (XO s)) := by
  have hu := Jr9 h
  have hp := WD h
  obtain ⟨a, b, c, d, hn⟩ := Jfd s
  rw [hn] at hu ⊢; refine JC Tryz.func144 rfl rfl fun w => ?_; refine sR fun _ hK1 => ?_; refine LN rfl fun r1 => ?_; refine nK hK1 (sR fun _ hK2 => ?_); refine LS 2 [] rfl rfl ?_; refine LR rfl (JT rfl rfl) ?_; refine JZ rfl ?_; refine Jy (show _ = Value.int .i64 ((32 - s.length : Nat)) from congrArg (Value.int .i64) (by rw [wrap_i64 (by omega) (by omega)]; omega)) ?_; refine JD rfl rfl rfl Juq (qb (n := 32 - s.length) (by omega)) ?_; rw [ZH]; refine LR rfl (V1 (a := s) (b := List.replicate (32 - s.length) 0) rfl rfl (by rw [List.length_replicate]; omega)) ?_; refine JD rfl rfl rfl Jli (Jcw (s := ZC s) (by omega)) ?_; refine JD rfl rfl rfl (enters_of Tryz.func184 (by kernel_rfl) rfl) (vU (ZC s).reverse) ?_; refine Jy (congrArg Jqh hu) ?_; refine LS 3 [] rfl rfl ?_; refine LN rfl fun r2 => ?_
  refine LT 0 rfl rfl (Ji rfl ?_); refine nK hK2 (sR fun _ hK3 => ?_); refine LR rfl (Jx (vs := [_, _, _, _]) rfl (kn 0 rfl) rfl rfl rfl rfl) ?_
  refine LT 1 rfl rfl (nK hK3 ?_); refine Jb ?_; refine Jv rfl rfl (.cons (J6 (vs := [_, _, _, _]) rfl (kn 1 rfl) rfl rfl) .nil) (fun w1 hs1 => ?_); exact ⟨rfl, hs1.keep⟩
theorem Jsa (s : BS) (i : Nat) : Qy (JM s (i + 1)) = Qy (JM s i) ++ [Value.bool (QW s i)] := by
  unfold Qy JM
  rw [List.range_succ, List.map_append, List.map_append]; rfl
theorem Jxa {b : UInt8} {i : Nat} : (b.toNat / 2 ^ i) &&& 1 = if b.toNat.testBit i then 1 else 0 := by
  rw [Nat.and_one_is_mod, Nat.testBit_eq_decide_div_mod_eq]
  by_cases h : b.toNat / 2 ^ i % 2 = 1
  · rw [h]; simp
  · rw [if_neg (by simpa using h)]; omega
theorem Jn5 {s : BS} {n : Nat} (hn : n ≤ 8 * s.length) (hl : s.length ≤ 100000) : PureT (α := { row : Vz // rowOk 1 n (Qy (JM s n)) row }) Tryz.prog 145 [J2 s, .int .i64 (n : Int)].toArray (fun x => JF n x.1) [] (fun x => JY 4 (Qy (JM s n)) x.1) [] := by
  refine JH Tryz.func145 rfl rfl fun w => ?_; refine sR fun _ hK1 => Ji rfl (nK hK1 ?_); refine sR fun _ hK2 => Ji rfl (nK hK2 ?_); refine sQ fun _ hK3 => sR fun _ hK4 => ?_; refine LS 2 [] rfl rfl (nK hK4 ?_); refine Ju (JG (σ := Nat × Vz) (fun q => q.1 ≤ n ∧ rowOk 1 q.1 (Qy (JM s q.1)) q.2) (fun q => [(0, J2 s), (5, JF q.1 q.2), (7, .int .i64 (n : Int)), (8, .int .i64 (q.1 : Int))]) (fun q => JY 4 (Qy (JM s q.1)) q.2) (fun _ _ _ => True) (fun q => n - q.1) (0, none) ⟨Nat.zero_le _, rfl, rfl⟩ (.cons rfl (.cons rfl (.cons rfl (.cons rfl .nil)))) (List.Sublist.refl _) (fun _ _ h => h) ?_); rintro ⟨i, row⟩ ⟨hi1, hrow⟩; simp only at hi1 hrow; refine sR fun _ hK5 => JZ rfl (nK hK5 ?_); refine sQ fun _ hK6 => ?_; refine Jc rfl (fun h7 => ?_) (fun h7 => ?_)
  · try simp only [ZZ] at h7
    refine Jf (hK6 ?_); refine sB fun _ hK8 => sR fun _ hK9 => ?_; refine LS 2 [] rfl rfl (nK hK9 ?_); refine Ja (LS 4 [] rfl rfl (Jy (show _ = Value.int .i64 ((i / 8 : Nat)) from congrArg (Value.int .i64) (QM (by omega) (by decide) (by omega))) ?_)); refine LR rfl (Wq (j := i / 8) rfl rfl rfl rfl (by omega) rfl) ?_; refine LS 2 [] rfl rfl ?_; refine Jy (show _ = Value.int .i64 ((i % 8 : Nat)) from congrArg (Value.int .i64) (W0 _ _)) ?_; refine LR rfl (vL (n := i % 8) (b := (((s.getD (i / 8) 0).toNat / 2 ^ (i % 8) : Nat) : Int)) rfl rfl rfl (show _ ≤ 8 from by omega) (by omega) (by rw [Int.natCast_ediv])) ?_; refine LR rfl (vh (op := .and) (m := (s.getD (i / 8) 0).toNat / 2 ^ (i % 8)) (n := 1) rfl rfl rfl (Nat.lt_of_le_of_lt (Nat.div_le_self _ _) (Vu _)) (by decide) (congrArg Int.ofNat Jxa)) ?_
    refine JZ rfl ?_; refine Jy (show _ = Value.bool (QW s i) from by unfold QW; cases (s.getD (i / 8) 0).toNat.testBit (i % 8) <;> rfl) ?_; refine Kh (vs := [_]) (zs := [_]) (r := [_]) rfl rfl rfl rfl rfl rfl rfl rfl rfl (by show (madeCells #[_] _).toList = _; rw [VJ]; exact rfl) rfl fun r1 => ?_; refine Km (L0 := [_]) (xs := Qy (JM s i)) (row := row) (n := i) (sz := 1) (b := 1) (news := [Value.bool (QW s i)]) (List.perm_append_comm (l₁ := [_])) rfl rfl rfl rfl (kn 0 rfl) rfl rfl rfl rfl rfl (by decide) rfl rfl rfl (by decide) hrow (by omega) (by omega) fun ra cap sp hra => ?_; refine Ji rfl (Jg ?_); refine Jj (hK8 ?_); refine Ja ?_
    refine JZ rfl ?_; refine Jy (show _ = Value.int .i64 ((i + 1 : Nat) : Int) from by rw [wrap_i64 (by omega) (by omega)]; congr 1 <;> omega) ?_; refine Ji rfl (Jg (J5 ?_)); refine j3 (L' := JY 4 (Qy (JM s i) ++ [Value.bool (QW s i)]) (some (ra, cap, sp))) (List.sublist_append_left (JY 4 (Qy (JM s i) ++ [Value.bool (QW s i)]) (some (ra, cap, sp))) _) ?_; rw [show Qy (JM s i) ++ [Value.bool (QW s i)] = Qy (JM s (i + 1)) from (Jsa s i).symm] at hra ⊢; exact J1 (i + 1, some (ra, cap, sp)) ⟨by simp only; omega, hra⟩ (by simp only; omega) (.cons rfl (.cons rfl (.cons rfl (.cons rfl .nil)))) (List.Sublist.refl _) (fun _ _ h => h)
  · try simp only [ZZ] at h7
    refine JE (Jl ?_); refine Jl (J0 (hK3 ?_)); refine sQ fun _ hK10 => ?_
    obtain rfl : i = n := by omega
    refine Ja (LS 2 [] rfl rfl ?_); refine nK hK10 (Jb ?_); refine pT rfl rfl rfl fun w1 hs1 => ?_; exact ⟨⟨row, hrow⟩, rfl, hs1⟩
section
variable {c : Cx} {l : Kn} {L : Jr} {X : XP} {d : List Deferred} {i : Nat} {t t2 : TypeId} {ps : String} {af : Array Edge} {gd : Option (Nat × Bool)} {ty : TypeId}
theorem Jn6 {x y : Operand} {a b : Nat} (hx : Ke l x = some (.int .i64 (a : Int))) (hy : Ke l y = some (.int .i64 (b : Int))) (h0 : 0 < b) : J7 c d l L X ⟨some i, .binOp .rem t x y t2, ty, ps, af, gd⟩ (.int .i64 ((a % b : Nat) : Int)) := fun a' w hf _ => by
  simp only [execOp]; rw [hf.eval hx, hf.eval hy]
  have e1 : ¬ ((b : Int) = 0) := by omega
  simp only [binOp, eqGuard, Op.intDiv, if_neg e1, Sem.run_bind]
  rfl
theorem Jab {x y : Operand} {a b : Nat} (hx : Ke l x = some (.int .i64 (a : Int))) (hy : Ke l y = some (.int .i64 (b : Int))) (h0 : 0 < b) (ha : a ≤ 9223372036854775807) : J7 c d l L X ⟨some i, .binOp .quo t x y t2, ty, ps, af, gd⟩ (.int .i64 ((a / b : Nat) : Int)) := fun a' w hf _ => by
  simp only [execOp]; rw [hf.eval hx, hf.eval hy]
  have e1 : ¬ ((b : Int) = 0) := by omega
  have e2 := QM (a := (a : Int)) (b := (b : Int)) (by omega) (by omega) (by omega)
  simp only [binOp, eqGuard, Op.intDiv, if_neg e1, Sem.run_bind, e2]
  rfl
end
structure VR (v : Vl) : Type where
  x : Vl
  L : Jr
  ok : x.In L
  er : WN x = v
def blT (n : Int) (s : List UInt8) : Vl × Int := if s.getLast? = none ∨ s.getLast? = some 0 then (v0L, 2) else if n < (WK s (8 * s.length) : Int) then (v0L, 5) else (ZM (JM s (WK s (8 * s.length))), 0)
theorem Jc9 {s : BS} (h : s ≠ []) : s.getLast? = some (s.getD (s.length - 1) 0) := by
  have hp : 0 < s.length := List.length_pos_iff.2 h
  rw [List.getLast?_eq_getElem?, List.getD_eq_getElem?_getD, List.getElem?_eq_getElem (by omega)]; rfl
theorem Jhl {n : Int} {s : BS} (h : s = []) : blT n s = (v0L, 2) := by unfold blT; rw [if_pos (.inl (by rw [h]; rfl))]
theorem Jxb {n : Int} {s : BS} (h : s.getD (s.length - 1) 0 = 0) : blT n s = (v0L, 2) := by
  by_cases h0 : s = []
  · exact Jhl h0
  · unfold blT; rw [if_pos (.inr (by rw [Jc9 h0, h]))]
theorem Jvi {s : BS} (h0 : s ≠ []) (h : s.getD (s.length - 1) 0 ≠ 0) : ¬ (s.getLast? = none ∨ s.getLast? = some 0) := by
  rw [Jc9 h0]
  rintro (h1 | h1)
  · cases h1
  · exact h (Option.some.inj h1)
theorem Jsb {x : UInt8} : (((x.toNat : Int) != 0) = false) ↔ x = 0 := by
  rw [Z6, ← UInt8.toNat_inj]; exact Int.natCast_eq_zero
theorem Jda (s : BS) {m n : Nat} (h : m ≤ n) : (Qy (JM s n)).take m = Qy (JM s m) := by
  unfold Qy JM
  rw [← List.map_take, ← List.map_take, List.take_range, Nat.min_eq_left h]
theorem ql (s : BS) (n : Nat) : (Qy (JM s n)).length = n := by unfold Qy; rw [List.length_map, Ko]
theorem Jhm (s : BS) {i n : Nat} (h : i < n) (sp : List Value) : Wl (Qy (JM s n) ++ sp) i = some (.bool (QW s i)) := by
  rw [Vf, List.getElem?_append_left (by rw [ql]; exact h)]
  unfold Qy
  rw [List.getElem?_map, Va s h]; rfl
theorem u0 : X5 0 := by unfold X5; omega
theorem i0 : jP 0 := by unfold jP; omega
theorem Jdb {s : BS} {r cap m n e : Nat} {sp : List Value} (h : m ≤ n) (hc : n ≤ cap) (h0 : n ≤ 800000) : Vl.In [(r, .cells (Qy (JM s n) ++ sp).toArray e (0, 0))] (.mk 0 0 0 0 (JM s m) (some (⟨r, 0, none⟩, cap)) [] none 0) := by
  refine .mk u0 u0 u0 u0 (by rw [Ko]; omega) ?_ (by decide) rfl i0 (fun x hx => nomatch hx); refine ⟨by rw [Ko]; omega, fun _ => ⟨rfl, _, e, (0, 0), List.mem_singleton_self _, ?_⟩⟩; simp only [List.toList_toArray, List.drop_zero]; rw [ql, List.take_append_of_le_length (by rw [ql]; exact h), Jda s h]
theorem Jhn (s : BS) (m r cap : Nat) : Vl.val (.mk 0 0 0 0 (JM s m) (some (⟨r, 0, none⟩, cap)) [] none 0) = .agg #[.int .u64 0, .int .u64 0, .int .u64 0, .int .u64 0, .slice (some ⟨r, 0, none⟩) m cap, .slice none 0 0, .int .i64 0] := by
  show Value.agg #[uV 0, uV 0, uV 0, uV 0, Value.slice (some ⟨r, 0, none⟩) (JM s m).length cap, Value.slice none 0 0, Value.int .i64 0] = _
  rw [Ko]; rfl
theorem Jvj {n : Int} {s : BS} {v : Value} (hno : ¬ (s.getLast? = none ∨ s.getLast? = some 0)) (hv : decide ((WK s (8 * s.length) : Int) ≤ n) = false ∧ v = zk 5) : (blT n s).2 ≠ 0 ∧ v = zk (blT n s).2 := by
  have h : n < (WK s (8 * s.length) : Int) := by have := hv.1; rw [Z2] at this; omega
  have e : (blT n s).2 = 5 := by unfold blT; rw [if_neg hno, if_pos h]
  rw [e]; exact ⟨by decide, hv.2⟩
theorem Jxc {n : Int} {s : BS} (hno : ¬ (s.getLast? = none ∨ s.getLast? = some 0)) (h : decide ((WK s (8 * s.length) : Int) ≤ n) = true) : blT n s = (ZM (JM s (WK s (8 * s.length))), 0) := by
  have h : ¬ n < (WK s (8 * s.length) : Int) := by rw [Z1] at h; omega
  unfold blT; rw [if_neg hno, if_neg h]
theorem Jjq {k n : Int} {p : Pl} {ins : List Ty} {s : BS} (hl : s.length ≤ 100000) (hn : jP n) : PureX (α := VR (blT n s).1) Tryz.prog 146 [Ty.val (.mk k n p ins), J2 s].toArray ((blT n s).2 = 0) (fun v => (blT n s).2 ≠ 0 ∧ v = zk (blT n s).2) (fun y => y.x.val) (fun y => y.L) [] := by
  have bad2 : s = [] ∨ s.getD (s.length - 1) 0 = 0 → (blT n s).2 = 2 := fun h => h.elim (fun h => by rw [Jhl h]) (fun h => by rw [Jxb h])
  have hbad2 : ∀ {v : Value} {b : Bool}, s = [] ∨ s.getD (s.length - 1) 0 = 0 → b = false ∧ v = zk 2 → (blT n s).2 ≠ 0 ∧ v = zk (blT n s).2 := fun h hv => by rw [bad2 h]; exact ⟨by decide, hv.2⟩
  have hT := Jn5 (s := s) (n := 8 * s.length) (Nat.le_refl _) hl
  refine XJ Tryz.func146 rfl rfl fun w => ?_; refine sR fun _ hK1 => ?_; refine LN rfl fun r1 => ?_; refine LN rfl fun r2 => ?_; refine nK hK1 (sR fun _ hK2 => ?_); refine Ji rfl (LR rfl (Zj rfl rfl) (Ji rfl ?_))
  refine JA 9 rfl (fun hb3 => ?_) (fun hb3 => ?_) <;> (try simp only [ZZ] at hb3) <;> first | (refine Ji rfl ?_) | (refine LK rfl ?_)
  all_goals refine LW 1 [] rfl rfl ?_
  all_goals first
    | (refine LR rfl (JT rfl rfl) ?_)
    | (refine LK rfl ?_)
  all_goals first
    | (have hpos : 0 < s.length := List.length_pos_iff.2 ‹s ≠ []›; refine JZ rfl ?_; refine Jy (show _ = Value.int .i64 ((s.length - 1 : Nat)) from congrArg (Value.int .i64) (by rw [wrap_i64 (by omega) (by omega)]; omega)) ?_)
    | (refine LK rfl ?_)
  all_goals first
    | (refine LR rfl (Wq (j := s.length - 1) rfl rfl rfl rfl (by omega) rfl) ?_)
    | (refine LK rfl ?_)
  all_goals refine LW 2 [] rfl rfl ?_
  all_goals refine KQ rfl rfl rfl ZB (VF (_) 2) (fun q hq => nomatch hq) (fun hok _ => ?_) (fun v hv => Ql rfl rfl (hbad2 (by first | exact .inl ‹_› | exact .inr (Jsb.1 hv.1)) hv))
  all_goals try exact Bool.noConfusion hok
  refine nK hK2 (sQ fun _ hK9 => ?_)
  have hne : s ≠ [] := ‹s ≠ []›
  have hpos : 0 < s.length := List.length_pos_iff.2 hne
  have hno := Jvi hne (fun e => by rw [e] at hok; cases hok)
  obtain ⟨q1, q2, q3⟩ := Jhf hno
  refine Ja (LS 2 [] rfl rfl (LR rfl (JT rfl rfl) ?_)); refine JZ rfl ?_; refine Jy (show _ = Value.int .i64 ((8 * s.length : Nat)) from congrArg (Value.int .i64) (by rw [wrap_i64 (by omega) (by omega)]; omega)) ?_; refine Qr rfl rfl rfl (enters_of Tryz.func145 (by kernel_rfl) rfl) hT (fun q hq => nomatch hq) fun x => ?_
  obtain ⟨row, hrow⟩ := x
  match row, hrow with | none, hrow => ?_ | some (ra, cap, sp), hrow => ?_
  all_goals first | exact absurd hrow.1 (by omega) | skip
  refine Ji rfl (nK hK9 ?_); refine sR fun _ hK10 => Ji rfl (LR rfl (KI rfl rfl) (JZ rfl ?_)); refine Jy (show _ = Value.int .i64 ((8 * s.length - 1 : Nat)) from congrArg (Value.int .i64) (by rw [wrap_i64 (by omega) (by omega)]; omega)) ?_; refine Ji rfl (nK hK10 ?_); refine sB fun _ hK11 => ?_; refine JG (σ := Nat) (fun i => WK s (8 * s.length) ≤ i ∧ i < 8 * s.length) (fun i => [(2, V9 r1), (4, V9 r2), (5, .slice (some ⟨ra, 0, none⟩) (8 * s.length) cap), (6, .int .i64 (i : Int))]) (fun i => [(ra, .cells (Qy (JM s (8 * s.length)) ++ sp).toArray 4 (0, 0)), WO r2 v0L, VK r1 (.mk k n p ins)]) (fun _ _ _ => True) (fun i => i) (8 * s.length - 1) ⟨by omega, by omega⟩ (.cons rfl (.cons rfl (.cons rfl (.cons rfl .nil)))) (List.Sublist.refl _) (fun _ _ h => h) ?_; rintro i ⟨hi1, hi2⟩; change HC _ _ _ ((ra, _) :: (r2, _) :: (r1, _) :: []) _ _ _; refine sQ fun _ hK12 => sR fun _ hK13 => ?_; refine LS 2 [] rfl rfl ?_; refine LR rfl (Ki (j := i) (m := 1) (off' := i) rfl rfl rfl rfl (by omega) (by omega) (by omega)) ?_; refine LR rfl (Jm rfl (kn 0 rfl) rfl (Jhm s (i := i) (by omega) sp)) ?_; refine JZ rfl (nK hK13 ?_); refine Jc rfl (fun h14 => ?_) (fun h14 => ?_)
  try simp only [ZZ] at h14
  refine Jf (hK12 ?_); refine Ju ?_
  have hlt : WK s (8 * s.length) ≠ i := fun e => by rw [e] at q2; rw [q2] at h14; cases h14
  refine Ja (LS 2 [] rfl rfl ?_); refine Jy (show _ = Value.int .i64 ((i - 1 : Nat)) from congrArg (Value.int .i64) (by rw [wrap_i64 (by omega) (by omega)]; omega)) ?_; refine Ji rfl (Jg ?_); refine Jj (J5 ?_); exact J1 (i - 1) ⟨by omega, by omega⟩ (by omega) (.cons rfl (.cons rfl (.cons rfl (.cons rfl .nil)))) (List.Sublist.refl _) (fun _ _ h => h)
  · try simp only [ZZ] at h14
    refine JE (Jl ?_); refine Jl (J0 (hK11 ?_)); refine sQ fun _ hK15 => ?_
    have hcap : 8 * s.length ≤ cap := by have := hrow.2; omega
    have hL : i = WK s (8 * s.length) := Decidable.byContradiction fun hne => by have := q3 i (by omega) hi2; rw [this] at h14; cases h14
    subst hL; refine Ja (Ji rfl ?_)
    refine LS 3 [2] rfl rfl ?_; refine KQ rfl rfl rfl ZB (VF (_) 5) (fun q hq => nomatch hq) (fun hok _ => ?_) (fun v hv => Ql rfl rfl (Jvj hno hv)); refine nK hK15 (sR fun _ hK16 => ?_); refine LS 2 [] rfl rfl ?_
    refine LR rfl (JR (kl := none) (kh := some (WK s (8 * s.length))) (km := none) (m := 0) (q := WK s (8 * s.length)) (z := cap) (off' := 0) (sz := 1) rfl rfl rfl trivial ⟨_, rfl⟩ trivial rfl rfl rfl (by omega) (by omega) (Nat.le_refl _) (fun e => nomatch e) (by split <;> omega)) ?_; refine LR rfl (JI (r := [_, _, _, _, _, _, _]) rfl rfl) ?_
    refine LT 1 rfl rfl (nK hK16 ?_); refine Jb ?_; refine Jv rfl rfl (.cons (J6 (vs := [_, _, _, _, _, _, _]) rfl (kn 1 rfl) rfl rfl) .nil) (fun w1 hs1 => ?_)
    have hbo := Jxc hno hok
    refine .inl ⟨by rw [hbo], ⟨.mk 0 0 0 0 (JM s (WK s (8 * s.length))) (some (⟨ra, 0, none⟩, cap)) [] none 0, [(ra, .cells (Qy (JM s (8 * s.length)) ++ sp).toArray 4 (0, 0))], Jdb (by omega) (by omega) (by omega), by rw [hbo, Qc, Yi]; rfl⟩, congrArg Ending.returned (Jhn s _ ra cap).symm, hs1.weakL ((List.cons_sublist_cons).2 (List.nil_sublist _))⟩
theorem Jn7 {k n : Int} {ins : List Ty} {s : BS} {B y : Nat} (h7 : k ≠ 7) (h3 : k ≠ 3) (hs : s ≠ []) (hF : JJ (JK k 0 ins 0) = true → B = s.length ∧ y = (JV (JK k 0 ins 0)).toNat) (hV : JJ (JK k 0 ins 0) = false → 4 ≤ s.length ∧ W7 (s.take 4) ≠ 0 ∧ B = W7 (s.take 4) ∧ y = 4) :
    JW k n ins s = if B % y ≠ 0 then (0, 2) else if n < ((B / y : Nat) : Int) then (0, 5) else (B / y, 0) := by
  unfold JW
  rw [if_neg h7, if_neg h3, if_neg hs]
  cases h : JJ (JK k 0 ins 0) with
  | true => obtain ⟨rfl, rfl⟩ := hF h; rw [if_pos rfl]
  | false =>
    obtain ⟨e1, e2, rfl, rfl⟩ := hV h
    rw [if_neg (by simp)]
    by_cases h4 : W7 (s.take 4) % 4 ≠ 0
    · rw [if_pos (.inr (.inl h4)), if_pos h4]
    · rw [if_neg (by rintro (h | h | h); omega; exact h4 h; exact e2 h), if_neg h4]
theorem Jvk {k n : Int} {ins : List Ty} {s : BS} (h7 : k ≠ 7) (h3 : k ≠ 3) (hs : s ≠ []) (hF : JJ (JK k 0 ins 0) = false) (h : s.length < 4 ∨ W7 (s.take 4) = 0) : (JW k n ins s).2 = 2 := by
  unfold JW
  rw [if_neg h7, if_neg h3, if_neg hs, hF, if_neg (by simp), if_pos (by rcases h with h | h; exact .inl h; exact .inr (.inr h))]
theorem Jn8 {k n : Int} {ins : List Ty} {s : BS} (h7 : k = 7) : JW k n ins s = (ins.length, 0) := by unfold JW; rw [if_pos h7]
theorem Jn9 {k n : Int} {ins : List Ty} {s : BS} (h7 : k ≠ 7) (h3 : k = 3) : JW k n ins s = (n.toNat, 0) := by unfold JW; rw [if_neg h7, if_pos h3]
theorem Joa {k n : Int} {ins : List Ty} {s : BS} (h7 : k ≠ 7) (h3 : k ≠ 3) (hs : s = []) : JW k n ins s = (0, 0) := by unfold JW; rw [if_neg h7, if_neg h3, if_pos hs]
theorem Ww {r : Int} {v : Value} {e : Int} {b : Bool} (h : r = e) (he : e ≠ 0) (hv : b = false ∧ v = zk e) : r ≠ 0 ∧ v = zk r := by rw [h]; exact ⟨he, hv.2⟩
theorem Jvl {R : Jr} {k n : Int} {p : Pl} {ins : List Ty} {s : BS} (ht : Ty.In R (.mk k n p ins)) (hc : V6 (.mk k n p ins) 0 = 0) (hk3 : k = 3 ∨ k = 4 ∨ k = 7) (hl : s.length ≤ 100000) :
    PureX (α := Unit) Tryz.prog 185 [Ty.val (.mk k n p ins), J2 s].toArray ((JW k n ins s).2 = 0) (fun v => (JW k n ins s).2 ≠ 0 ∧ v = zk (JW k n ins s).2) (fun _ => .int .i64 ((JW k n ins s).1 : Int)) (fun _ => []) R := by
  obtain ⟨hk8, ho, _, _⟩ := QQ hc
  have hsg : Seg R ins.length (zR ins) p := by cases ht; assumption
  have hin0 : VY k 0 0 < ins.length := by
    unfold Kk at ho
    unfold VY
    rcases hk3 with rfl | rfl | rfl <;> simp at ho ⊢ <;> omega
  obtain ⟨hx0, hxm⟩ := Qn hin0
  have hsz := vp (ht.sub _ hxm)
  have hfx := jA (t := JK k 0 ins 0)
  have hbl := vq (JK k 0 ins 0)
  have hbe := xO (JK k 0 ins 0)
  obtain ⟨y, hy⟩ : ∃ y : Nat, WE (JK k 0 ins 0) = (y : Int) := ⟨_, (Int.toNat_of_nonneg (by omega)).symm⟩
  rw [hy] at hsz hbl hbe
  have hnk : k = 3 → 0 ≤ n := fun e => by subst e; unfold Kk at ho; simp at ho; omega
  refine XJ Tryz.func185 rfl rfl fun w => ?_; refine sR fun _ hK1 => ?_; refine LN rfl fun r1 => ?_; refine Ji rfl (nK hK1 ?_); refine sB fun _ hK2 => sR fun _ hK3 => ?_
  refine LS 4 [0] rfl rfl (nK hK3 ?_); refine Jc rfl (fun h4 => ?_) (fun h4 => ?_)
  try simp only [ZZ] at h4
  refine sR fun _ hK5 => ?_
  refine LS 2 [0] rfl rfl ?_; refine LR rfl (J3 rfl hsg rfl) ?_; refine Ji rfl (nK hK5 ?_); refine Jb (Jn (Jd ?_)); refine pT rfl rfl rfl fun w1 hs1 => ?_; exact .inl ⟨by rw [Jn8 ‹k = 7›], (), by rw [Jn8 ‹k = 7›]; rfl, hs1.weakL (List.nil_sublist _)⟩
  · try simp only [ZZ] at h4
    refine sR fun _ hK6 => ?_
    refine LS 4 [0] rfl rfl (nK hK6 ?_); refine Jc rfl (fun h7 => ?_) (fun h7 => ?_)
    try simp only [ZZ] at h7
    refine sR fun _ hK8 => ?_
    refine LS 2 [0] rfl rfl ?_; refine Jy (show _ = Value.int .i64 ((n.toNat : Nat) : Int) from congrArg (Value.int .i64) (by have := hnk ‹_›; omega)) ?_; refine Ji rfl (nK hK8 ?_); refine Jb (Jn (Jd ?_)); refine pT rfl rfl rfl fun w1 hs1 => ?_; exact .inl ⟨by rw [Jn9 ‹k ≠ 7› ‹k = 3›], (), by rw [Jn9 ‹k ≠ 7› ‹k = 3›]; rfl, hs1.weakL (List.nil_sublist _)⟩
    · try simp only [ZZ] at h7
      refine sR fun _ hK9 => Ji rfl (LR rfl (QT rfl rfl) (Ji rfl ?_)); refine nK hK9 ?_; refine Jc rfl (fun h10 => ?_) (fun h10 => ?_)
      try simp only [ZZ] at h10
      refine sR fun _ hK11 => Ji rfl (nK hK11 ?_); refine Jb (Jn (Jd ?_)); refine pT rfl rfl rfl fun w1 hs1 => ?_; exact .inl ⟨by rw [Joa ‹k ≠ 7› ‹k ≠ 3› ‹s = []›], (), by rw [Joa ‹k ≠ 7› ‹k ≠ 3› ‹s = []›]; rfl, hs1.weakL (List.nil_sublist _)⟩
      · try simp only [ZZ] at h10
        refine Jf (Jj (hK2 ?_)); refine sQ fun _ hK12 => ?_
        have h7 : k ≠ 7 := ‹_›
        have h3 : k ≠ 3 := ‹_›
        have hne : s ≠ [] := ‹_›
        have hx00 : ins[0]? = some (JK k 0 ins 0) := by have := hx0; unfold VY at this; rw [if_neg h7] at this; split at this <;> exact this
        refine Ja (LS 2 [0] rfl rfl ?_)
        refine LR rfl (Jp (j := 0) rfl hsg rfl rfl rfl (by first | rfl | omega) (by omega)) ?_; refine LR rfl (KV (fun q hq => Or.inr hq) rfl hsg hx00 rfl rfl) ?_; refine Jh rfl rfl rfl Jf5 hsz (fun q hq => Or.inr hq) ?_; refine LS 5 [] rfl rfl (nK hK12 ?_); refine sR fun _ hK13 => Ji rfl (LR rfl (JT rfl rfl) (Ji rfl ?_)); refine nK hK13 (sQ fun _ hK14 => ?_); refine sR fun _ hK15 => LS 2 [] rfl rfl (nK hK15 ?_); refine Jc rfl (fun h16 => ?_) (fun h16 => ?_)
        · try simp only [ZZ] at h16
          refine sR fun _ hK17 => Ji rfl (LR rfl (JT rfl rfl) (LS 2 [] rfl rfl ?_))
          refine JA 39 rfl (fun hb18 => ?_) (fun hb18 => ?_) <;> (try simp only [ZZ] at hb18) <;> first | (refine Ji rfl ?_) | (refine LK rfl ?_)
          all_goals first
            | (refine JD rfl rfl rfl Jlo (Jn4 (s := s) (by omega)) ?_)
            | (refine LK rfl ?_)
          all_goals refine LW 2 [] rfl rfl ?_
          all_goals refine KQ rfl rfl rfl ZB (VF (_) 2) (fun q hq => nomatch hq) (fun hok _ => ?_) (fun v hv => Ql rfl rfl (Ww (Jvk ‹k ≠ 7› ‹k ≠ 3› hne ‹JJ (JK k 0 ins 0) = false› (by first | exact .inl (by omega) | exact .inr (Int.natCast_eq_zero.1 (Z6.1 hv.1)))) (by decide) hv))
          all_goals try exact Bool.noConfusion hok
          have hl0 := fun e => Z5.1 hok (Int.natCast_eq_zero.2 e)
          refine nK hK17 ?_; refine Ja (Ji rfl (JD rfl rfl rfl Jlo (Jn4 (s := s) (by omega)) ?_)); refine Ji rfl (nK hK14 ?_); refine sQ fun _ hK21 => ?_
          (have hif : JJ (JK k 0 ins 0) = false := ‹_›
           rw [hif, if_neg (by decide)] at hbe
           have hlt := (Jty (s := s) (by omega)).2
           have hmq := Jn7 (n := n) (ins := ins) (B := W7 (s.take 4)) (y := y) h7 h3 hne (fun e => by rw [hif] at e; cases e) (fun _ => ⟨by omega, hl0, rfl, by omega⟩)
           obtain ⟨B, hB⟩ : ∃ B, B = W7 (s.take 4) := ⟨_, rfl⟩
           have hBl : B ≤ 4294967295 := by omega
           rw [← hB] at hmq ⊢)
          refine Ja (LS 2 [] rfl rfl (LR rfl (Jn6 (a := B) (b := y) rfl rfl (by omega)) ?_)); refine JZ rfl ?_; refine KQ rfl rfl rfl ZB (VF (_) 2) (fun q hq => nomatch hq) (fun hok _ => ?_) (fun v hv => Ql rfl rfl (Ww (by rw [hmq, if_pos (fun e => absurd hv.1 (by rw [e]; decide))]) (by decide) hv))
          have hmod : ¬ B % y ≠ 0 := fun e => e (Int.natCast_eq_zero.1 (Z3.1 hok))
          refine nK hK21 (sQ fun _ hK22 => ?_)
          refine JS [] [(0, .pure), (1, .pure), (2, .pure), (3, .pure), (5, .pure)] 6 [0, 1, 2, 3, 4, 5] (by kernel_rfl) (by kernel_rfl) (by first | exact (fun _ h => absurd h List.not_mem_nil) | simp [SubS] | (intro p hp; simp [hp])) ?_; refine Jw (k := 0) rfl rfl rfl rfl rfl (fun _ hS => (Jo rfl)) ?_; refine Jw (k := 1) rfl rfl rfl rfl rfl (fun _ hS => (Jo rfl)) ?_; refine Jw (k := 2) rfl rfl rfl rfl rfl (fun _ _ => Jab (a := B) (b := y) rfl rfl (by omega) (by omega)) ?_
          refine Jw (k := 3) rfl rfl rfl rfl rfl (fun _ hS => (JL rfl rfl rfl)) ?_; refine KW (k := 4) rfl rfl rfl rfl rfl (Jm rfl (kn 0 rfl) rfl rfl) ?_; refine Jw (k := 5) rfl rfl rfl rfl rfl (fun _ hS => (J9 rfl rfl rfl)) ?_; refine KC ?_; refine KQ rfl rfl rfl ZB (VF (_) 5) (fun q hq => nomatch hq) (fun hok _ => ?_) (fun v hv => Ql rfl rfl (Ww (by rw [hmq, if_neg hmod, if_pos (by have := Z2.1 hv.1; omega)]) (by decide) hv)); rw [if_neg hmod, if_neg (by have := Z1.mp hok; omega)] at hmq; refine nK hK22 (sR fun _ hK23 => ?_); refine LS 2 [] rfl rfl ?_; refine LR rfl (Jab (a := B) (b := y) rfl rfl (by omega) (by omega)) ?_; refine Ji rfl (nK hK23 ?_); refine Jb (pT rfl rfl rfl fun w1 hs1 => ?_); exact .inl ⟨by rw [hmq], (), by rw [hmq]; rfl, hs1.weakL (List.nil_sublist _)⟩
        · try simp only [ZZ] at h16
          refine Jf (hK14 ?_); refine sQ fun _ hK24 => ?_
          (have hif : JJ (JK k 0 ins 0) = true := ‹_›
           rw [if_pos hif] at hbe
           have hmq := Jn7 (n := n) (ins := ins) (B := s.length) (y := y) h7 h3 hne (fun _ => ⟨rfl, by omega⟩) (fun e => by rw [hif] at e; cases e)
           obtain ⟨B, hB⟩ : ∃ B, B = s.length := ⟨_, rfl⟩
           have hBl : B ≤ 4294967295 := by omega
           rw [← hB] at hmq ⊢)
          refine Ja (LS 2 [] rfl rfl (LR rfl (Jn6 (a := B) (b := y) rfl rfl (by omega)) ?_)); refine JZ rfl ?_; refine KQ rfl rfl rfl ZB (VF (_) 2) (fun q hq => nomatch hq) (fun hok _ => ?_) (fun v hv => Ql rfl rfl (Ww (by rw [hmq, if_pos (fun e => absurd hv.1 (by rw [e]; decide))]) (by decide) hv))
          have hmod : ¬ B % y ≠ 0 := fun e => e (Int.natCast_eq_zero.1 (Z3.1 hok))
          refine nK hK24 (sQ fun _ hK25 => ?_)
          refine JS [] [(0, .pure), (1, .pure), (2, .pure), (3, .pure), (5, .pure)] 6 [0, 1, 2, 3, 4, 5] (by kernel_rfl) (by kernel_rfl) (by first | exact (fun _ h => absurd h List.not_mem_nil) | simp [SubS] | (intro p hp; simp [hp])) ?_; refine Jw (k := 0) rfl rfl rfl rfl rfl (fun _ hS => (Jo rfl)) ?_; refine Jw (k := 1) rfl rfl rfl rfl rfl (fun _ hS => (Jo rfl)) ?_; refine Jw (k := 2) rfl rfl rfl rfl rfl (fun _ _ => Jab (a := B) (b := y) rfl rfl (by omega) (by omega)) ?_
          refine Jw (k := 3) rfl rfl rfl rfl rfl (fun _ hS => (JL rfl rfl rfl)) ?_; refine KW (k := 4) rfl rfl rfl rfl rfl (Jm rfl (kn 0 rfl) rfl rfl) ?_; refine Jw (k := 5) rfl rfl rfl rfl rfl (fun _ hS => (J9 rfl rfl rfl)) ?_; refine KC ?_; refine KQ rfl rfl rfl ZB (VF (_) 5) (fun q hq => nomatch hq) (fun hok _ => ?_) (fun v hv => Ql rfl rfl (Ww (by rw [hmq, if_neg hmod, if_pos (by have := Z2.1 hv.1; omega)]) (by decide) hv)); rw [if_neg hmod, if_neg (by have := Z1.mp hok; omega)] at hmq; refine nK hK25 (sR fun _ hK26 => ?_); refine LS 2 [] rfl rfl ?_; refine LR rfl (Jab (a := B) (b := y) rfl rfl (by omega) (by omega)) ?_; refine Ji rfl (nK hK26 ?_); refine Jb (pT rfl rfl rfl fun w1 hs1 => ?_); exact .inl ⟨by rw [hmq], (), by rw [hmq]; rfl, hs1.weakL (List.nil_sublist _)⟩
end Go.Proofs.YteceenlfegnigaaGreatDoor
