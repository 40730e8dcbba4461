import Derived.Test.YtckoepmdmhdepaaGreatDoorZtSpansa
import Derived.Lib.AppendStr
import Derived.Lib.UnsafeStr
import Derived.Lib.Builder
import Derived.ProofKit
import Derived.OpenShut
import Derived.ShutString
import Derived.ChangeOld
import Derived.Below
import Derived.Carry
import Derived.ChangeArms
import Derived.Lib.Overlaps
import Derived.Lib.AppendZerosOnto
import Derived.Laws.StructEq
import Derived.RecoverIn
import Derived.Test.YtckoepmdmhdepaaGreatDoorProg
import Derived.Laws.Externs
import Derived.Shelf.Spec.BitsCarry
import Derived.Shelf.Strings.Builder1
import Derived.Shelf.Strings.Builder2
import Derived.Shelf.Strings.OnBuilder
import Derived.Shelf.Strings.Trim
import Derived.Shelf.Small.Utf8
import Derived.Shelf.Small.Strs
import Derived.Shelf.Small.Wraps
import Derived.Shelf.Strings.BuilderF
import Derived.Shelf.Strings.BuilderK
import Derived.Shelf.Strings.Builder2Cap
import Derived.Shelf.Strings.Search1
import Derived.Shelf.Strings.Prefix
import Derived.Shelf.Unicode.Decode
import Derived.Shelf.Strings.Runes
import Derived.Shelf.Strings.AsciiSet
import Derived.Shelf.Bits.Mul64
import Derived.Shelf.Strings.Repeat
import Derived.Shelf.Unicode.DecodeSlow
import Derived.Shelf.Unicode.DecodeAny
import Derived.Shelf.Strings.BuilderCap
import Derived.Shelf.Slices.Turned
import Derived.Shelf.Slices.Equal
import Derived.Ground.Names2Prog
import Derived.Shelf.Slices.SearchI
import Derived.Shelf.Slices.Empties2
set_option maxRecDepth 100000
namespace Go.SL
set_option linter.all false
open Go Go.RowKit Go.Shelf
section
variable {c : Cx} {l : KK} {L : Jy} {X : XP} {Q : Exit → Act → World → Prop} {d : List Deferred}
variable {ops : Array Oper} {rest : List Oper} {i : Nat} {v : Value} {t u : TypeId} {ps : String} {af : Array Edge} {gd : Option (Nat × Bool)} {ty : TypeId}
theorem Jnn (s : List UInt8) : (bs s).size = s.length := by simp [bs, ByteArray.size]
theorem Zn (s : List UInt8) : Lib.strCells (bs s) = s.map bV := rfl
theorem zi {x y : Operand} {e : TypeId} {s s2 : List UInt8} {L0 : Jy} {row : QH}
  (hp : L.Perm (Kk e (s.map bV) row ++ L0)) (hg : Kx l ops ⟨some i, .call ⟨.builtin .append, #[x, y], #[t, u]⟩, ty, ps, af, gd⟩ = some true) (hi : Nat.ble (i + 1) c.n = true)
  (hx : Kz l x = some (JO s.length row)) (hy : Kz l y = some (.string (bs s2))) (ht : KI c.P t = some e) (hu : jK c.P u = true) (hz : Qv c.P e = some (.int .u8 0)) (hs : Qd c.P e = some 1) (hb : qP c.P e = some 1)
  (ho : rowOk 1 s.length (s.map bV) row) (ho2 : s = [] → row = none) (hlen : s.length + s2.length ≤ 140737488355328)
  (h : ∀ row', rowOk 1 (s ++ s2).length ((s ++ s2).map bV) row' → (s ++ s2 = [] → row' = none) → HL c d ((i, JO (s ++ s2).length row') :: l) (Kk e ((s ++ s2).map bV) row' ++ L0) X ops rest Q) :
  HL c d l L X ops (⟨some i, .call ⟨.builtin .append, #[x, y], #[t, u]⟩, ty, ps, af, gd⟩ :: rest) Q := by
 obtain ⟨inf, hinf, hz', hs', hb'⟩ := Yi hz hs hb
 refine Kv hp ?_
 refine V7 (α := { r' : QH // rowOk 1 (s ++ s2).length ((s ++ s2).map bV) r' ∧ (s ++ s2 = [] → r' = none) }) (V := fun p => JO (s ++ s2).length p.1) (L' := fun p => Kk e ((s ++ s2).map bV) p.1 ++ L0) (X' := fun _ => X) hg rfl rfl hi (fun a w hf hst => ?_) (fun p => h p.1 p.2.1 p.2.2)
 have exec : ∀ r w', (Builtin.append_ #[t, u] ty #[JO s.length row, .string (bs s2)]).run c.P w = .ok r w' →
   (execOp a.eval ⟨some i, .call ⟨.builtin .append, #[x, y], #[t, u]⟩, ty, ps, af, gd⟩).run c.P w = .ok (.value r) w' := fun r w' hr => by
  have ex := hf.eval hx
  have ey := hf.eval hy
  simp [execOp, resolve, Sem.run_bind, ex, ey, Result.andThen, invoke, builtin, hr]
 have hsz := Jnn s2
 have hsl : (s ++ s2).length = s.length + s2.length := List.length_append
 have hml : ((s ++ s2).map bV).length = s.length + s2.length := by rw [List.length_map, hsl]
 have hz1 : (Value.int IntKind.u8 0).cells.size = 1 := rfl
 have zlen : ∀ n, (Builtin.zeroCells (Value.int IntKind.u8 0).cells n).toList.length = n := fun n => by rw [Array.length_toList, size_zeroCells, hz1, Nat.mul_one]
 cases row with
 | none =>
  obtain ⟨h1, h2⟩ := ho
  have hs0 : s = [] := List.eq_nil_of_length_eq_zero h1
  subst hs0
  cases s2 with
  | nil =>
   refine ⟨⟨none, ⟨rfl, rfl⟩, fun _ => rfl⟩, w, exec _ _ ?_, hst⟩
   have hf2 := Lib.run_firstCells_string (P := c.P) w 1 (bs [])
   have h0 : (bs []).size = 0 := rfl
   rw [h0] at hf2
   simp [Builtin.append_, JO, run_underlying (Kj ht), run_underlying (QJ hu), sizeOf, typeInfo, hinf, hs', Builtin.lenOf, h0, hf2]
  | cons b s2 =>
   have hr := run_append_nil_string (P := c.P) w t u ty e inf (.int .u8 0) (Kj ht) (QJ hu) hinf hz' (bs (b :: s2)) (by rw [hsz]; simp) (by rw [hsz]; simp at hlen ⊢; omega) (by rw [hsz, hb']; simp at hlen ⊢; omega)
   rw [hsz] at hr
   have hge := grownCap_ge w (b :: s2).length 0 e
   refine ⟨⟨some (w.heap.size, grownCap w (b :: s2).length 0 e, (Builtin.zeroCells (Value.int IntKind.u8 0).cells (grownCap w (b :: s2).length 0 e - (b :: s2).length)).toList), ⟨?_, ?_⟩, fun h0 => by simp at h0⟩, _, exec _ _ hr, ?_⟩
   ·simp
   ·rw [zlen]; simp only [List.nil_append]; omega
   ·have e1 : ((bs (b :: s2)).data.map (fun b => Value.int .u8 b.toNat) ++ Builtin.zeroCells (Value.int IntKind.u8 0).cells (grownCap w (b :: s2).length 0 e - (b :: s2).length)) = ((([] ++ (b :: s2)).map bV) ++ (Builtin.zeroCells (Value.int IntKind.u8 0).cells (grownCap w (b :: s2).length 0 e - (b :: s2).length)).toList).toArray := by
     apply Array.toList_inj.1; simp [bs, bV]
    rw [e1]
    exact hst.drew.alloc _
 | some q =>
  obtain ⟨r, cap, sp⟩ := q
  obtain ⟨h1, h2⟩ := ho
  have hget : w.heap[r]? = some (.cells (s.map bV ++ sp).toArray e (0, 0)) := hst.get (k := 0) rfl
  have hne : s ++ s2 ≠ [] := fun h0 => by have := ho2 (List.append_eq_nil_iff.1 h0).1; cases this
  by_cases hroom : s.length + s2.length ≤ cap
  ·have hr := Lib.run_append_room_string (P := c.P) w t u ty e inf (Kj ht) (QJ hu) hinf hs' r s.length cap _ hget (bs s2) (by rw [hsz]; exact hroom) (by rw [hsz]; simp only [List.size_toArray, List.length_append, List.length_map]; omega)
   rw [hsz, Zn] at hr
   have e1 : ((s.map bV ++ sp).toArray.toList.take s.length ++ s2.map bV ++ (s.map bV ++ sp).toArray.toList.drop (s.length + s2.length)) = (s ++ s2).map bV ++ sp.drop s2.length := by
    simp only [List.toList_toArray]
    rw [List.take_left' (by simp), List.map_append, ← List.drop_drop, List.drop_left' (by simp)]
   rw [e1] at hr
   have hV : JO (s ++ s2).length (some (r, cap, sp.drop s2.length)) = .slice (some ⟨r, 0, none⟩) (s.length + s2.length) cap := by rw [JO, hsl]
   refine ⟨⟨some (r, cap, sp.drop s2.length), ⟨?_, ?_⟩, fun h0 => absurd h0 hne⟩, _, exec _ _ (hr.trans (congrArg (fun v => Result.ok v _) hV.symm)), ?_⟩
   ·rw [hml, hsl]; omega
   ·rw [List.length_drop, hsl]; omega
   ·exact hst.set (k := 0) rfl (Keep.setRow r _) (setRow_heap _ _ _ _ _ _ hget)
  ·have holds : ∀ (j : Nat) (x : Value), (s.map bV)[j]? = some x → w.cell? ((⟨r, 0, none⟩ : Addr).add j) = some x := WP hget (n := s.length) (by simp)
   have hr := Lib.run_append_grow_string (P := c.P) w t u ty e inf (.int .u8 0) (Kj ht) (QJ hu) hinf hz' ⟨r, 0, none⟩ s.length cap (s.map bV) (by rw [hs']; simp) holds (bs s2) (by rw [hsz]; omega) (by rw [hsz]; omega) (by rw [hsz, hb']; exact growslice_fits (by omega) (by omega))
   rw [hsz, Zn] at hr
   have hge := grownCap_ge w (s.length + s2.length) cap e
   refine ⟨⟨some (w.heap.size, grownCap w (s.length + s2.length) cap e, (Builtin.zeroCells (Value.int IntKind.u8 0).cells (grownCap w (s.length + s2.length) cap e - (s.length + s2.length))).toList), ⟨?_, ?_⟩, fun h0 => absurd h0 hne⟩, _, exec _ _ (hr.trans (congrArg (fun v => Result.ok v _) (show _ = JO (s ++ s2).length (some (w.heap.size, grownCap w (s.length + s2.length) cap e, (Builtin.zeroCells (Value.int IntKind.u8 0).cells (grownCap w (s.length + s2.length) cap e - (s.length + s2.length))).toList)) from by rw [JO, hsl]))), ?_⟩
   ·rw [hml, hsl]; omega
   ·rw [zlen, hsl]; omega
   ·have e1 : ((s.map bV).toArray ++ (s2.map bV).toArray ++ Builtin.zeroCells (Value.int IntKind.u8 0).cells (grownCap w (s.length + s2.length) cap e - (s.length + s2.length))) = ((s ++ s2).map bV ++ (Builtin.zeroCells (Value.int IntKind.u8 0).cells (grownCap w (s.length + s2.length) cap e - (s.length + s2.length))).toList).toArray := by
     apply Array.toList_inj.1; simp
    rw [e1]
    exact (hst.drew.weakL (List.sublist_cons_self _ _)).alloc _
theorem Keep.freeze {w : World} (r n : Nat) : Keep [r] w (w.freeze ⟨r, 0, none⟩ n) := by
 unfold World.freeze
 split
 ·exact Keep.refl _ _
 ·exact ⟨rfl, rfl, rfl, by simp, fun k _ hn => by
   simp only [Array.getElem?_modify]
   rw [if_neg (by intro e; exact hn (by simp [e]))]⟩
theorem wp {w : World} {r n : Nat} {cs : Array Value} {e : TypeId} {fr : Nat × Nat} (h : w.heap[r]? = some (.cells cs e fr)) : ∃ fr', (w.freeze ⟨r, 0, none⟩ n).heap[r]? = some (.cells cs e fr') := by
 unfold World.freeze
 split
 ·exact ⟨fr, h⟩
 ·obtain ⟨lo, hi⟩ := fr
  obtain ⟨hlt, he⟩ := Array.getElem?_eq_some_iff.1 h
  refine ⟨if lo == hi then (0, 0 + n) else (min lo 0, max hi (0 + n)), ?_⟩
  show (w.heap.modify r _)[r]? = _
  rw [Array.getElem?_eq_getElem (by rw [Array.size_modify]; exact hlt), Array.getElem_modify_self, he]
def wq : QH → Value
 | none => .pointer none
 | some (r, _, _) => .pointer (some ⟨r, 0, none⟩)
theorem vf {x : Operand} {row : QH} {n : Nat} (hx : Kz l x = some (JO n row)) (hc : ∀ r cap sp, row = some (r, cap, sp) → cap ≠ 0) :
  JP c d l L X ⟨some i, .call ⟨.builtin .unsafeSliceData, #[x], #[t]⟩, ty, ps, af, gd⟩ (wq row) := fun a w hf _ => by
 have ex := hf.eval hx
 cases row with
 | none =>
  have hr := Lib.run_unsafeSliceData_nil (P := c.P) w #[t] ty 0 0
  simp only [JO] at ex
  simp [execOp, resolve, Sem.run_bind, ex, Result.andThen, invoke, builtin, hr, wq]
 | some q =>
  obtain ⟨r, cap, sp⟩ := q
  have hr := Lib.run_unsafeSliceData_row (P := c.P) w #[t] ty ⟨r, 0, none⟩ n cap (hc r cap sp rfl)
  simp only [JO] at ex
  simp [execOp, resolve, Sem.run_bind, ex, Result.andThen, invoke, builtin, hr, wq]
def Zo (P : Program) (t : TypeId) : Option TypeId := match P.underlying t with | some (.pointer e) => some e | _ => none
theorem X7 {P : Program} {t e : TypeId} (h : Zo P t = some e) : P.underlying t = some (.pointer e) := by
 unfold Zo at h; split at h <;> simp_all
theorem ZA {x y : Operand} {e pt it : TypeId} {s : List UInt8} {L0 : Jy} {row : QH}
  (hp : L.Perm (Kk e (s.map bV) row ++ L0)) (hg : Kx l ops ⟨some i, .call ⟨.builtin .unsafeString, #[x, y], #[pt, it]⟩, ty, ps, af, gd⟩ = some true) (hi : Nat.ble (i + 1) c.n = true)
  (hx : Kz l x = some (wq row)) (hy : Kz l y = some (.int .i64 (s.length : Int))) (ht : Zo c.P pt = some e) (hc : c.P.cellsOf e = 1)
  (ho : rowOk 1 s.length (s.map bV) row) (ho2 : s = [] → row = none) (hlen : s.length ≤ 9223372036854775807)
  (h : HL c d ((i, .string (bs s)) :: l) L0 X ops rest Q) : HL c d l L X ops (⟨some i, .call ⟨.builtin .unsafeString, #[x, y], #[pt, it]⟩, ty, ps, af, gd⟩ :: rest) Q := by
 refine Kv hp ?_
 refine V7 (α := Unit) (V := fun _ => .string (bs s)) (L' := fun _ => L0) (X' := fun _ => X) hg rfl rfl hi (fun a w hf hst => ?_) (fun _ => h)
 have exec : ∀ r w', (Builtin.unsafeString_ #[pt, it] ty #[wq row, .int .i64 s.length]).run c.P w = .ok r w' →
   (execOp a.eval ⟨some i, .call ⟨.builtin .unsafeString, #[x, y], #[pt, it]⟩, ty, ps, af, gd⟩).run c.P w = .ok (.value r) w' := fun r w' hr => by
  have ex := hf.eval hx
  have ey := hf.eval hy
  simp [execOp, resolve, Sem.run_bind, ex, ey, Result.andThen, invoke, builtin, hr]
 cases row with
 | none =>
  obtain ⟨h1, _⟩ := ho
  have hs0 : s = [] := List.eq_nil_of_length_eq_zero h1
  subst hs0
  exact ⟨(), w, exec _ _ (Lib.run_unsafeString_none (P := c.P) w pt it ty none), hst⟩
 | some q =>
  obtain ⟨r, cap, sp⟩ := q
  obtain ⟨h1, h2⟩ := ho
  have hget : w.heap[r]? = some (.cells (s.map bV ++ sp).toArray e (0, 0)) := hst.get (k := 0) rfl
  have hne : s ≠ [] := fun h0 => by have := ho2 h0; cases this
  have hcell : ∀ (j : Nat) (x : UInt8), s[j]? = some x → w.cell? ((⟨r, 0, none⟩ : Addr).add j) = some (.int .u8 x.toNat) := fun j x hx => by
   rw [Yj, Ve hget]
   rw [Nat.zero_add, ← Array.getElem?_toList]
   simp only [List.toList_toArray]
   rw [List.getElem?_append_left (by rw [List.length_map]; exact (List.getElem?_eq_some_iff.1 hx).1), List.getElem?_map, hx]; rfl
  have hr := Lib.run_unsafeString_row (P := c.P) w pt it ty e (X7 ht) hc r (s.map bV ++ sp).length (by simp [World.shape?, hget]) s hne (by simp) hlen hcell
  obtain ⟨fr', hfr⟩ := wp (n := s.length) hget
  exact ⟨(), _, exec _ _ hr, (hst.set (k := 0) rfl (Keep.freeze r s.length) hfr).weakL (List.sublist_cons_self _ _)⟩
end
section
variable {c : Cx} {l : KK} {L : Jy} {X : XP} {d : List Deferred}
variable {i : Nat} {v : Value} {t u : TypeId} {ps : String} {af : Array Edge} {gd : Option (Nat × Bool)} {ty t2 : TypeId}
def Jhx (P : Program) (t : TypeId) : Bool := match P.underlying t with | some .unsafePointer => true | _ => false
theorem xQ {P : Program} {t : TypeId} (h : Jhx P t = true) : P.underlying t = some .unsafePointer := by
 unfold Jhx at h; split at h <;> simp_all
theorem Yp {P : Program} {t : TypeId} {sz : Nat} (h : Qd P t = some sz) : ∃ inf, P.info? t = some inf ∧ inf.size = sz := by
 unfold Qd at h
 cases hq : P.info? t with
 | none => simp [hq] at h
 | some inf => simp only [hq, Option.some.injEq] at h; exact ⟨inf, rfl, h⟩
theorem zj {x : Operand} {r sz e : Nat} {src dst tt : TypeId} {cs : Array Value} {fr : Nat × Nat} (hx : Kz l x = some (.pointer (some ⟨r, 0, none⟩))) (hk : known c L r (.cells cs e fr)) (hs : Zo c.P src = some tt) (hd : Jhx c.P dst = true) (ht : Qd c.P tt = some sz) (h0 : 0 < sz) (hc : 0 < cs.size) :
  JP c d l L X ⟨some i, .convert src dst x, ty, ps, af, gd⟩ (.pointer (some ⟨r, 0, none⟩)) := fun a w hf hst => by
 obtain ⟨inf, hinf, hsz⟩ := Yp ht
 have h := hst.known hk
 simp only [execOp]
 rw [hf.eval hx]
 have := Lib.run_to_unsafe (P := c.P) w (e := e) (cells := cs.size) ⟨r, 0, none⟩ (X7 hs) (xQ hd) hinf (by omega) (by simp [World.shape?, h]) hc
 simp only [Sem.run_bind, this]; rfl
theorem vg {x : Operand} {r sz e : Nat} {src dst tt : TypeId} {cs : Array Value} {fr : Nat × Nat} (hx : Kz l x = some (.pointer (some ⟨r, 0, none⟩))) (hk : known c L r (.cells cs e fr)) (hs : Jhx c.P src = true) (hd : Zo c.P dst = some tt) (ht : Qd c.P tt = some sz) (hl : liesAt c.P c.P.depth e (cs.size / c.P.cellsOf e) 0 tt 1 = true) :
  JP c d l L X ⟨some i, .convert src dst x, ty, ps, af, gd⟩ (.pointer (some ⟨r, 0, none⟩)) := fun a w hf hst => by
 obtain ⟨inf, hinf, hsz⟩ := Yp ht
 have h := hst.known hk
 simp only [execOp]
 rw [hf.eval hx]
 have := Lib.run_from_unsafe (P := c.P) w (e := e) (cells := cs.size) ⟨r, 0, none⟩ (xQ hs) (X7 hd) hinf (by simp [World.shape?, h]) hl
 simp only [Sem.run_bind, this]; rfl
theorem zk {x f : Operand} {v : Value} {g : FuncId} {fn : Func} {at_ : Array TypeId} (hf : Kz l f = some (.func (.func g) #[] #[])) (hx : Kz l x = some v)
  (hF : c.P.funcs[g]? = some fn) (hn1 : (fn.name == "runtime.NumGoroutine") = false) (hb : fn.body.isNone = true) (hn2 : Extern.findNext fn = none) (he : Extern.find fn = some Extern.AbiNoEscape.same) :
  JP c d l L X ⟨some i, .call ⟨.value f, #[x], at_⟩, ty, ps, af, gd⟩ v := fun a w hfr hst => by
 have ef := hfr.eval hf
 have ex := hfr.eval hx
 have hcf : (callFunc g #[v]).run c.P w = .ok (.value v) w := by
  rw [run_callFunc_extern hF hn1 hb hn2 he, Lib.run_noEscape]; rfl
 simp [execOp, resolve, Sem.run_bind, ef, ex, Deferred.ofValue, Result.andThen, invoke, hcf]
theorem Jdx {x y : Operand} {q : Addr} {sz : Nat} {tt : TypeId} (hx : Kz l x = some (.pointer (some q))) (hy : Kz l y = some (.pointer (some q))) (ht : Zo c.P t = some tt) (hs : Qd c.P tt = some sz) :
  JP c d l L X ⟨some i, .binOp .neq t x y t2, ty, ps, af, gd⟩ (.bool false) := fun a w hf _ => by
 obtain ⟨inf, hinf, hsz⟩ := Yp hs
 simp only [execOp]
 rw [hf.eval hx, hf.eval hy]
 have := Lib.run_neq_ptr_same (P := c.P) w q (X7 ht) hinf
 simp [eqGuard, Sem.run_bind, this, Result.andThen]
theorem Jdy {x y : Operand} {tt : TypeId} {sz : Nat} (hx : Kz l x = some (.pointer none)) (hy : Kz l y = some (.pointer none)) (ht : Zo c.P t = some tt) (hs : Qd c.P tt = some sz) :
  JP c d l L X ⟨some i, .binOp .eql t x y t2, ty, ps, af, gd⟩ (.bool true) := fun a w hf _ => by
 obtain ⟨inf, hinf, hsz⟩ := Yp hs
 have h : ∀ d : Nat, (Op.equalIn (d + 1) t (.pointer none) (.pointer none)).run c.P w = .ok true w := fun d => by
  simp [Op.equalIn, run_underlying (X7 ht), sizeOf, typeInfo, hinf]
 simp only [execOp]
 rw [hf.eval hx, hf.eval hy]
 simp only [binOp]
 simp [eqGuard, Op.equal, Op.maxDepth, h 9999, Sem.run_bind, Result.andThen]
theorem Jdz {x y : Operand} {q : Addr} {tt : TypeId} {sz : Nat} (hx : Kz l x = some (.pointer (some q))) (hy : Kz l y = some (.pointer none)) (ht : Zo c.P t = some tt) (hs : Qd c.P tt = some sz) :
  JP c d l L X ⟨some i, .binOp .eql t x y t2, ty, ps, af, gd⟩ (.bool false) := fun a w hf _ => by
 obtain ⟨inf, hinf, hsz⟩ := Yp hs
 have h : ∀ d : Nat, (Op.equalIn (d + 1) t (.pointer (some q)) (.pointer none)).run c.P w = .ok false w := fun d => by
  simp [Op.equalIn, run_underlying (X7 ht), sizeOf, typeInfo, hinf]
 simp only [execOp]
 rw [hf.eval hx, hf.eval hy]
 simp only [binOp]
 simp [eqGuard, Op.equal, Op.maxDepth, h 9999, Sem.run_bind, Result.andThen]
end
open Go Go.ChangeShapes Go.WideShapes Go.RowKit
section
variable {H : Type} {enc : TypeId × Value → H} {P : Program} {w : World} {base : Nat} {sp : Nat → Bool} {held : Bool}
theorem drop_one : ∀ (cs : List Value), (List.range cs.length).map (fun i => (cs.drop (i * 1)).take 1) = cs.map fun c => [c] := fun cs => by
 apply List.ext_getElem
 ·simp
 ·intro i h1 h2
  simp only [List.length_map, List.length_range] at h1
  simp only [List.getElem_map, List.getElem_range, Nat.mul_one]
  rw [List.drop_eq_getElem_cons h1]; rfl
theorem WU {α β γ : Type} (f : α → β) (g : β → Option γ) : ∀ l : List α, (l.map f).mapM g = l.mapM fun a => g (f a)
 | [] => rfl
 | a :: l => by simp [List.mapM_cons, WU f g l]
theorem Jd0 {fuel t e n : Nat} {cs : List Value} {x : DataW H × List MemPlace} (ht : P.underlying t = some (.array n e)) (hc : P.cellsOf t = n) (he : P.cellsOf e = 1) :
  DataW.trod enc P w base sp held (fuel + 1) t cs = some x ↔ cs.length = n ∧ ∃ xs, (cs.map fun c => [c]).mapM (DataW.trod enc P w base sp held fuel e) = some xs ∧ x = (.agg (xs.map (·.1)), xs.flatMap (·.2)) := by
 simp only [DataW.trod, ht, hc, he]
 constructor
 ·intro h
  split at h
  ·rename_i hl
   refine ⟨hl, ?_⟩
   rw [← WU (fun i => (cs.drop (i * 1)).take 1), ← hl, drop_one, Option.map_eq_some_iff] at h
   obtain ⟨xs, h1, h2⟩ := h
   exact ⟨xs, h1, h2.symm⟩
  ·cases h
 ·rintro ⟨hl, xs, h1, rfl⟩
  rw [if_pos hl, ← WU (fun i => (cs.drop (i * 1)).take 1), ← hl, drop_one, h1]; rfl
theorem qk {α : Type} {V : α → Value} {D : α → DataW H} {ok : α → Prop} {g : List Value → Option (DataW H × List MemPlace)} (hg : ∀ c x, g [c] = some x → ∃ z, c = V z ∧ x = (D z, []) ∧ ok z) : ∀ (cs : List Value) (xs : List (DataW H × List MemPlace)), (cs.map fun c => [c]).mapM g = some xs →
  ∃ zs : List α, cs = zs.map V ∧ xs = zs.map (fun z => (D z, [])) ∧ ∀ z ∈ zs, ok z
 | [], xs, h => by simp at h; exact ⟨[], rfl, by simp [h], by simp⟩
 | c :: cs, xs, h => by
  simp only [List.map_cons, List.mapM_cons] at h
  cases h1 : g [c] with
  | none => simp [h1] at h
  | some x =>
   cases h2 : (cs.map fun c => [c]).mapM g with
   | none => simp [h1, h2] at h
   | some ys =>
    simp [h1, h2] at h
    subst h
    obtain ⟨z, e1, e2, e3⟩ := hg c x h1
    obtain ⟨zs, f1, f2, f3⟩ := qk hg cs ys h2
    exact ⟨z :: zs, by simp [e1, f1], by simp [e2, f2], by simpa using ⟨e3, f3⟩⟩
theorem Jln {z : Int} (h : (Lit.int .u64 z).wf = true) : 0 ≤ z ∧ z < 18446744073709551616 := by
 have h1 : (0 : Int) ≤ z ∧ z ≤ 18446744073709551615 := by simpa [Lit.wf, IntKind.min, IntKind.max, IntKind.signed, IntKind.bits] using h
 omega
theorem Jbv {n : Nat} (h : n < 18446744073709551616) : (Lit.int .u64 (n : Int)).wf = true := by
 have : (0 : Int) ≤ n ∧ (n : Int) ≤ 18446744073709551615 := by omega
 simpa [Lit.wf, IntKind.min, IntKind.max, IntKind.signed, IntKind.bits] using this
theorem open_u64 {r : Reach} {b0 : Nat} {t : TypeId} {v : Value} {d : DataW H} {ps : List MemPlace} (ht : P.underlying t = some (.int .u64)) (hval : Value.okWide P w r b0 t v) (hd : DataW.Trod enc P w base sp held t v d ps) :
  ∃ n : Nat, v = uV n ∧ d = .lit (.int .u64 (n : Int)) ∧ ps = [] ∧ n < 18446744073709551616 := by
 obtain ⟨z, rfl, rfl, rfl, hw⟩ := Go.ChangeShapes.open_int ht hval hd
 have := Jln hw
 exact ⟨z.toNat, by unfold uV; congr 1; omega, by congr 2; omega, rfl, by omega⟩
theorem shut_u64 {t : TypeId} {n : Nat} (ht : P.underlying t = some (.int .u64)) (h : n < 18446744073709551616) : DataW.Trod enc P w base sp held t (uV n) (.lit (.int .u64 (n : Int))) [] :=
 Go.ChangeShapes.shut_int ht (Jbv h)
end
open Go Go.RowKit Go.Shelf Go.ChangeShapes Go.WideShapes
open Go.Proofs (Enters enters_of)
abbrev Pl : Type := Option (Addr × Nat)
def plA : Pl → Option Addr
 | none => none
 | some (a, _) => some a
def plC : Pl → Nat
 | none => 0
 | some (_, cap) => cap
def Ky (n : Nat) (p : Pl) : Value := .slice (plA p) n (plC p)
def plB : Pl → Nat
 | none => 0
 | some (a, _) => a.block
def Wj : Pl → Nat
 | none => 0
 | some (a, _) => a.off
def Seg (R : Jy) (n : Nat) (cs : List Value) : Pl → Prop
 | none => n = 0
 | some (a, cap) => n ≤ cap ∧ (0 < n → a.spot = none ∧ ∃ all e fr, (a.block, Obj.cells all e fr) ∈ R ∧ (all.toList.drop a.off).take cs.length = cs)
theorem Seg.nil {R : Jy} : Seg R 0 [] none := rfl
theorem Seg.mono {R R' : Jy} {n : Nat} {cs : List Value} {p : Pl} (h : Seg R n cs p) (hs : ∀ q ∈ R, q ∈ R') : Seg R' n cs p := by
 cases p with
 | none => exact h
 | some q => obtain ⟨a, cap⟩ := q; exact ⟨h.1, fun h0 => by obtain ⟨h1, all, e, fr, h2, h3⟩ := h.2 h0; exact ⟨h1, all, e, fr, hs _ h2, h3⟩⟩
theorem wt {α : Type} {all cs : List α} {o j : Nat} {v : α} (h : (all.drop o).take cs.length = cs) (hv : cs[j]? = some v) : all[o + j]? = some v := by
 rw [← h, List.getElem?_take] at hv
 split at hv
 ·rwa [List.getElem?_drop] at hv
 ·cases hv
theorem jf {α : Type} {all cs vs : List α} {o j m : Nat} (h : (all.drop o).take cs.length = cs) (hv : (cs.drop j).take m = vs) (hm : vs.length = m) : (all.drop (o + j)).take m = vs := by
 have h1 : j + m ≤ cs.length ∨ m = 0 := by
  have := congrArg List.length hv
  rw [List.length_take, List.length_drop, hm] at this
  omega
 rcases h1 with h1 | h1
 ·rw [← hv, ← h, List.drop_take, List.drop_drop, List.take_take, Nat.min_eq_left (by omega)]
 ·subst h1; rw [List.take_zero] at hv ⊢; exact hv
theorem vh {α : Type} {f : α → List Value} {m : Nat} (hf : ∀ x, (f x).length = m) : ∀ {l : List α} {j : Nat} {x : α}, l[j]? = some x → ((l.flatMap f).drop (j * m)).take m = f x
 | [], _, _, h => by simp at h
 | y :: l, 0, x, h => by
  obtain rfl : y = x := by simpa using h
  rw [Nat.zero_mul, List.drop_zero, List.flatMap_cons, List.take_left' (hf y)]
 | y :: l, j + 1, x, h => by
  have e : (j + 1) * m = (f y).length + j * m := by rw [hf, Nat.succ_mul, Nat.add_comm]
  rw [e, List.flatMap_cons, ← List.drop_drop, List.drop_left' rfl]
  exact vh hf (by simpa using h)
theorem ZL {α : Type} {f : α → List Value} {m : Nat} (hf : ∀ x, (f x).length = m) : ∀ l : List α, (l.flatMap f).length = l.length * m
 | [] => by simp
 | y :: l => by rw [List.flatMap_cons, List.length_append, hf, ZL hf l, List.length_cons, Nat.succ_mul, Nat.add_comm]
section
variable {c : Cx} {l : KK} {L : Jy} {X : XP} {Q : Exit → Act → World → Prop} {d : List Deferred}
variable {ops : Array Oper} {rest : List Oper} {i : Nat} {v : Value} {t : TypeId} {ps : String} {af : Array Edge} {gd : Option (Nat × Bool)} {ty : TypeId}
theorem JJ {x : Operand} {p : Pl} {n : Nat} {R : Jy} {cs : List Value} {e : TypeId} (hx : Kz l x = some (Ky n p)) (hs : Seg R n cs p) (ht : KI c.P t = some e) :
  JP c d l L X ⟨some i, .call ⟨.builtin .len, #[x], #[t]⟩, ty, ps, af, gd⟩ (.int .i64 n) := by
 cases p with
 | none => have h : n = 0 := hs; subst h; exact KD hx ht
 | some q => obtain ⟨a, cap⟩ := q; exact KD hx ht
theorem JB {x y : Operand} {p : Pl} {R : Jy} {cs : List Value} {n e m j : Nat} {k : IntKind} {z : Int} (hx : Kz l x = some (Ky n p)) (hs : Seg R n cs p) (hy : Kz l y = some (.int k z)) (ha : KI c.P t = some e) (hm : Qd c.P e = some m) (hz : z = (j : Int)) (hj : j < n) :
  JP c d l L X ⟨some i, .indexAddr t x y, ty, ps, af, gd⟩ (.pointer (some ⟨plB p, Wj p + j * m, none⟩)) := by
 cases p with
 | none => have h : n = 0 := hs; omega
 | some q =>
  obtain ⟨⟨b, o, s⟩, cap⟩ := q
  have h1 : s = none := (hs.2 (by omega)).1
  subst h1
  exact QE hx hy ha hm hz hj rfl
theorem wu {x : Operand} {p : Pl} {R : Jy} {cs : List Value} {n j : Nat} (hR : ∀ q ∈ R, known c L q.1 q.2) (hx : Kz l x = some (.pointer (some ⟨plB p, Wj p + j, none⟩))) (hs : Seg R n cs p) (hn : 0 < n) (ht : VD c.P t = some false) (hv : cs[j]? = some v) :
  JP c d l L X ⟨some i, .load t x, ty, ps, af, gd⟩ v := by
 cases p with
 | none => have h : n = 0 := hs; omega
 | some q =>
  obtain ⟨⟨b, o, s⟩, cap⟩ := q
  obtain ⟨_, all, e, fr, h1, h2⟩ := hs.2 hn
  exact Jc hx (hR _ h1) ht (by rw [WN]; exact wt h2 hv)
theorem Jbw {x : Operand} {p : Pl} {R : Jy} {cs vs : List Value} {n j m : Nat} (hR : ∀ q ∈ R, known c L q.1 q.2) (hx : Kz l x = some (.pointer (some ⟨plB p, Wj p + j, none⟩))) (hs : Seg R n cs p) (hn : 0 < n) (ht : VD c.P t = some true) (hm : Qd c.P t = some m) (hv : (cs.drop j).take m = vs) (hl : vs.length = m) :
  JP c d l L X ⟨some i, .load t x, ty, ps, af, gd⟩ (.agg vs.toArray) := by
 cases p with
 | none => have h : n = 0 := hs; omega
 | some q =>
  obtain ⟨⟨b, o, s⟩, cap⟩ := q
  obtain ⟨_, all, e, fr, h1, h2⟩ := hs.2 hn
  exact JT hx (hR _ h1) ht hm (jf h2 hv hl) hl
end
theorem Qo (z : Array Value) (n : Nat) : (madeCells z n).toList = (List.range n).map (fun i => z.toList.getD (i % z.size) default) := by
 unfold madeCells
 simp
 intro a _
 rw [getElem!_def]
 cases z[a % z.size]? <;> rfl
def I64 (z : Int) : Prop := -9223372036854775808 ≤ z ∧ z ≤ 9223372036854775807
inductive Ty : Type
  | mk (k n : Int) (p : Pl) (ins : List Ty)
def Ty.k : Ty → Int
 | .mk k _ _ _ => k
def Ty.n : Ty → Int
 | .mk _ n _ _ => n
def Ty.p : Ty → Pl
 | .mk _ _ p _ => p
def Ty.ins : Ty → List Ty
 | .mk _ _ _ ins => ins
def Ty.cells : Ty → List Value
 | .mk k n p ins => [.int .i64 k, .int .i64 n, Ky ins.length p]
def Ty.val (t : Ty) : Value := .agg t.cells.toArray
def Joz (l : List Ty) : List Value := l.flatMap Ty.cells
theorem Ty.one (t : Ty) : t.cells.all QX = true := by cases t; rfl
theorem Ty.len (t : Ty) : t.cells.length = 3 := by cases t; rfl
inductive Ty.In (R : Jy) : Ty → Prop
  | mk {k n : Int} {p : Pl} {ins : List Ty} (hk : I64 k) (hn : I64 n) (hl : ins.length ≤ 9223372036854775807) (hs : Seg R ins.length (Joz ins) p) (hi : ∀ x ∈ ins, Ty.In R x) : Ty.In R (.mk k n p ins)
theorem Ty.In.mono {R R' : Jy} (hs : ∀ q ∈ R, q ∈ R') {t : Ty} (h : Ty.In R t) : Ty.In R' t := by
 induction h with
 | mk hk hn hl hg hi ih => exact .mk hk hn hl (hg.mono hs) ih
theorem Ty.In.sub {R : Jy} {k n : Int} {p : Pl} {ins : List Ty} (h : Ty.In R (.mk k n p ins)) : ∀ x ∈ ins, Ty.In R x := by
 cases h; assumption
inductive Vl : Type
  | mk (a b c d : Nat) (bits : List Bool) (pb : Pl) (items : List Vl) (pi : Pl) (pick : Int)
def Vl.num : Vl → List Nat
 | .mk a b c d _ _ _ _ _ => [a, b, c, d]
def Vl.bits : Vl → List Bool
 | .mk _ _ _ _ l _ _ _ _ => l
def Vl.items : Vl → List Vl
 | .mk _ _ _ _ _ _ l _ _ => l
def Vl.pick : Vl → Int
 | .mk _ _ _ _ _ _ _ _ k => k
def Vl.cells : Vl → List Value
 | .mk a b c d bits pb items pi pick => [uV a, uV b, uV c, uV d, Ky bits.length pb, Ky items.length pi, .int .i64 pick]
def Vl.val (t : Vl) : Value := .agg t.cells.toArray
def Jo0 (l : List Vl) : List Value := l.flatMap Vl.cells
def Jno (l : List Bool) : List Value := l.map .bool
theorem Vl.one (t : Vl) : t.cells.all QX = true := by cases t; rfl
theorem Vl.len (t : Vl) : t.cells.length = 7 := by cases t; rfl
def VG (n : Nat) : Prop := n < 18446744073709551616
inductive Vl.In (R : Jy) : Vl → Prop
  | mk {a b c d : Nat} {bits : List Bool} {pb : Pl} {items : List Vl} {pi : Pl} {pick : Int} (ha : VG a) (hb : VG b) (hc : VG c) (hd : VG d) (hlb : bits.length ≤ 9223372036854775807) (hsb : Seg R bits.length (Jno bits) pb)
      (hl : items.length ≤ 9223372036854775807) (hs : Seg R items.length (Jo0 items) pi) (hp : I64 pick) (hi : ∀ x ∈ items, Vl.In R x) : Vl.In R (.mk a b c d bits pb items pi pick)
theorem Vl.In.mono {R R' : Jy} (hs : ∀ q ∈ R, q ∈ R') {t : Vl} (h : Vl.In R t) : Vl.In R' t := by
 induction h with
 | mk ha hb hc hd hlb hsb hl hg hp hi ih => exact .mk ha hb hc hd hlb (hsb.mono hs) hl (hg.mono hs) hp ih
theorem Vl.In.sub {R : Jy} {a b c d : Nat} {bits : List Bool} {pb : Pl} {items : List Vl} {pi : Pl} {pick : Int} (h : Vl.In R (.mk a b c d bits pb items pi pick)) : ∀ x ∈ items, Vl.In R x := by
 cases h; assumption
section
variable {c : Cx} {l : KK} {L : Jy} {X : XP} {d : List Deferred} {i : Nat} {t : TypeId} {ps : String} {af : Array Edge} {gd : Option (Nat × Bool)} {ty : TypeId}
theorem xR {α : Type} {l : List α} {j : Nat} {y : α} (h : l[j]? = some y) : 0 < l.length := by
 have := (List.getElem?_eq_some_iff.1 h).1; omega
theorem Qy {x : Operand} {p : Pl} {R : Jy} {cs : List Value} {n j : Nat} {v : Value} (hR : ∀ q ∈ R, known c L q.1 q.2) (hx : Kz l x = some (.pointer (some ⟨plB p, Wj p + j * 1, none⟩))) (hs : Seg R n cs p) (hn : j < n) (ht : VD c.P t = some false) (hv : cs[j]? = some v) :
  JP c d l L X ⟨some i, .load t x, ty, ps, af, gd⟩ v :=
 wu hR (by rw [Nat.mul_one] at hx; exact hx) hs (by omega) ht hv
end
section
variable {c : Cx} {l : KK} {L : Jy} {X : XP} {d : List Deferred} {i : Nat} {v : Value} {ps : String} {af : Array Edge} {gd : Option (Nat × Bool)} {ty : TypeId}
theorem jg {ops : Array Oper} {rest : List Oper} {T : Act → Prop} {f : Operand} {args : Array Operand} {at_ : Array TypeId} {g : FuncId} {vs : List Value} {Rl : Jy}
  (hg : Kx l ops ⟨some i, .call ⟨.value f, args, at_⟩, ty, ps, af, gd⟩ = some true) (hi : Nat.ble (i + 1) c.n = true) (hca : Qe l f args = some (g, vs)) (eg : Enters c.P g)
  (hp : PureR c.P g vs.toArray v Rl) (hk : ∀ p ∈ Rl, known c L p.1 p.2) (h : HD c d ((i, v) :: l) L X ops rest T) : HD c d l L X ops (⟨some i, .call ⟨.value f, args, at_⟩, ty, ps, af, gd⟩ :: rest) T := fun a hf => by
 refine ⟨fun _ _ _ _ => trivial, ?_⟩
 rw [if_pos (JW hf hg)]
 refine ⟨v, fun w hs => ?_, h _ (hf.put (Nat.le_of_ble_eq_true hi))⟩
 unfold Oper.quietAtIn
 rw [Vq hf hca c.P w _ rfl eg]
 refine ⟨rfl, fun hdep => (by cases hdep), ?_⟩
 have hc := callsIn_wide (n := 0) |>.2 (hp.run w fun p hp => hs.known (hk p hp))
 refine CallsIn.mono (show CallsIn (FW c.ro) 0 c.P g vs.toArray w _ from hc) ?_
 rintro e w' ⟨rfl, hk⟩
 exact ⟨rfl, hs.more hk⟩
end
theorem QA {α : Type} {l : List α} {j : Nat} (h : j < l.length) : ∃ y, l[j]? = some y ∧ y ∈ l := ⟨l[j], List.getElem?_eq_getElem h, List.getElem_mem h⟩
def jh (w : World) : Jy := w.heap.toList.zipIdx.map fun p => (p.2, p.1)
theorem has_allB (w : World) : YI (jh w) w := by
 intro p hp
 obtain ⟨q, hq, rfl⟩ := List.mem_map.1 hp
 have := List.mem_zipIdx_iff_getElem?.1 hq
 rw [Array.getElem?_toList] at this
 exact this
theorem Jd1 {w : World} {r : Nat} {o : Obj} (h : w.heap[r]? = some o) : (r, o) ∈ jh w :=
 List.mem_map.2 ⟨(o, r), List.mem_zipIdx_iff_getElem?.2 (by rw [Array.getElem?_toList]; exact h), rfl⟩
mutual
def typN : Ty → Int → Int → Int
 | .mk _ _ _ ins, most, deep => if deep < 0 then most + 1 else typL ins most deep 1
def typL : List Ty → Int → Int → Int → Int
 | [], _, _, n => n
 | x :: xs, most, deep, n => if n ≤ most then typL xs most deep (n + typN x (most - n) (deep - 1)) else n
end
structure PureMR (P : Program) (f : FuncId) (args : Array Value) (v : Value) (r : Nat) (o o' : Obj) (Rl : Jy) : Prop where
  run : ∀ w, w.heap[r]? = some o → YI Rl w → Calls P f args w fun e w' => e = .returned v ∧ Keep [r] w w' ∧ w'.heap[r]? = some o'
section
variable {c : Cx} {l : KK} {L : Jy} {X : XP} {Q : Exit → Act → World → Prop} {d : List Deferred}
variable {ops : Array Oper} {rest : List Oper} {i : Nat} {v : Value} {t : TypeId} {ps : String} {af : Array Edge} {gd : Option (Nat × Bool)} {ty t2 : TypeId}
theorem St.apart {w : World} (hs : St c L X w) {k r : Nat} {o : Obj} (hk : L[k]? = some (r, o)) : ∀ p ∈ c.R, p.1 ≠ r := by
 rintro p hp rfl
 have h1 := (hs.own _ (List.mem_of_getElem? hk)).1
 obtain ⟨h2, _, h3⟩ := hs.ext p hp
 rcases h1 with h1 | h1
 ·exact h2 h1
 ·have := J6 h3
  exact absurd this (Nat.not_lt.2 h1)
theorem XR (hg : Kx l ops ⟨some i, .makeMap t none, ty, ps, af, gd⟩ = some true) (hi : Nat.ble (i + 1) c.n = true)
  (h : ∀ r, HL c d ((i, .map (some r)) :: l) ((r, .map #[] 0) :: L) X ops rest Q) : HL c d l L X ops (⟨some i, .makeMap t none, ty, ps, af, gd⟩ :: rest) Q :=
 V7 (α := Nat) (V := fun r => .map (some r)) (L' := fun r => (r, .map #[] 0) :: L) (X' := fun _ => X) hg rfl rfl hi (fun a w _ hs => ⟨w.heap.size, w.alloc (.map #[] 0), by simp only [execOp, Sem.run_bind, Option.map]; rfl, hs.alloc _⟩) h
theorem Qz {m x y : Operand} {kt et r clock q : Nat} {es : Array MapEntry} {key val : Value} {dom : Value → Prop} {eq : Value → Value → Bool} {L' : Jy} (K : KeyL c.P kt dom eq) (hg : Kx l ops ⟨none, .insert t m x y, ty, ps, af, gd⟩ = some true)
  (hm : Kz l m = some (.map (some r))) (hx : Kz l x = some key) (hy : Kz l y = some val) (hq : L[q]? = some (r, .map es clock)) (ht : ZW c.P t = some (kt, et)) (hk : dom key) (he : ∀ e ∈ es.toList, dom e.key) (hn : Qp eq key (es.toList.map WQ) = none)
  (hL : L.set q (r, .map (es.push { key := key, val := val, born := clock }) (clock + 1)) = L') (h : HL c d l L' X ops rest Q) : HL c d l L X ops (⟨none, .insert t m x y, ty, ps, af, gd⟩ :: rest) Q :=
 qM hg rfl rfl (fun a w hf hs => ⟨_, by
  simp only [execOp, Sem.run_bind]
  rw [hf.eval hm, hf.eval hx, hf.eval hy, ZX K ht (hs.get hq) hk he hn]; rfl, hL ▸ hs.set hq (Keep.putObj r _) (World.putObj_heap_same (J6 (hs.get hq)))⟩) h
end
def isI (v : Value) : Prop := ∃ n, v = .int .i64 n
def Jkn (x y : Value) : Bool := YL x y
theorem ji {P : Program} {t : TypeId} (ht : P.underlying t = some (.int .i64)) (b : Bool) (n : Nat) (x : Int) (w : World) : (Instr.checkKey b (n + 1) t (.int .i64 x)).run P w = .ok () w := by
 simp [Instr.checkKey, Sem.run_bind, KO ht, Result.andThen]
theorem Ww {P : Program} {t : TypeId} (ht : P.underlying t = some (.int .i64)) : KeyL P t isI Jkn where
 now := ⟨_, ht, fun a b ⟨a1, ha⟩ ⟨b1, hb⟩ => by subst ha hb; exact .inr (by simp [Instr.sameNow, Jkn, YL])⟩
 equal := by
  rintro _ _ w ⟨a, rfl⟩ ⟨b, rfl⟩
  exact qU (by simp [Vt, ht]) (by simp [Vt, ht]) 9999 w
 check := by
  rintro _ b w ⟨x, rfl⟩
  exact ji ht b 9999 x w
structure GE where
  α : Type
  V : α → Value
  LL : α → Jy
  x0 : α
inductive Kb
  | quiet
  | pure
  | grow (e : GE)
  | turn
  | dep (ts : List Nat) (e : List Value → GE)
abbrev Ye := Nat → Kb
def Kb.isGrow : Kb → Bool
 | .grow _ => true
 | .dep _ _ => true
 | _ => false
def Wa (a : Act) (ts : List Nat) : List Value := ts.map fun t => a.eval (.tmp t)
def Kb.ge : Kb → Act → Option GE
 | .grow e, _ => some e
 | .dep ts e, a => some (e (Wa a ts))
 | _, _ => none
def zl (ops : Array Oper) (tb : Ye) (m : Nat) : Prop :=
 ∀ j, j < m → ∀ o, ops[j]? = some o → ∀ ts e, tb j = .dep ts e → ∀ t ∈ ts, t ∈ o.looksAt ops
theorem Jbx {ops : Array Oper} {o : Oper} {a : Act} {dst : Option Tmp} {v : Value} {ts : List Nat} (h : ∀ d, dst = some d → d ∉ o.looksAt ops) (ht : ∀ t ∈ ts, t ∈ o.looksAt ops) : Wa (a.put dst v) ts = Wa a ts :=
 List.map_congr_left fun t hm => Act.eval_put fun d hd e => by cases e; exact h t hd (ht t hm)
theorem jj {ops : Array Oper} {tb : Ye} {m j : Nat} {o : Oper} {a : Act} {dst : Option Tmp} {v : Value} (hd : zl ops tb m) (hj : j < m) (ho : ops[j]? = some o) (h : ∀ d, dst = some d → d ∉ o.looksAt ops) : (tb j).ge (a.put dst v) = (tb j).ge a := by
 cases ht : tb j with
 | dep ts e => show some (e (Wa (a.put dst v) ts)) = some (e (Wa a ts)); rw [Jbx h (hd j hj o ho ts e ht)]
 | _ => rfl
theorem ql {k : Kb} (a : Act) (h : k.isGrow = true) : ∃ e, k.ge a = some e := by
 cases k with
 | grow e => exact ⟨e, rfl⟩
 | dep ts e => exact ⟨_, rfl⟩
 | _ => cases h
def Kb.isTurn : Kb → Bool
 | .turn => true
 | _ => false
def Kb.isQuiet : Kb → Bool
 | .quiet => true
 | _ => false
section
variable {c : Cx} {X : XP} {S : Jy} {ops : Array Oper} {md : Region.Mode}
def Jd2 (LL : Jy) (w w' : World) : Prop := Keep [] w w' ∧ (∀ p ∈ LL, w.heap.size ≤ p.1 ∧ w'.heap[p.1]? = some p.2) ∧ LL.Pairwise fun p q => p.1 ≠ q.1
def YG (c : Cx) (X : XP) (S : Jy) (ops : Array Oper) (o : Oper) (e : GE) (a : Act) : Prop :=
 Region.wanted o (yielded ops a.tmps) = true ∧ ∀ E, SubS S E → ∀ w, St c E X w → actAt c o a w fun u w' => ∃ x, u = e.V x ∧ Jd2 (e.LL x) w w'
theorem YG.same {o : Oper} {e : GE} {a a' : Act} (hy : YG c X S ops o e a) (he : execOp a'.eval o = execOp a.eval o) (hw : Region.wanted o (yielded ops a'.tmps) = Region.wanted o (yielded ops a.tmps)) : YG c X S ops o e a' :=
 ⟨hw.trans hy.1, fun E hE w hs => (hy.2 E hE w hs).same he⟩
def YT (c : Cx) (E : Jy) (X : XP) (ops : Array Oper) (o : Oper) {α : Type} (V : α → Value) (G : α → Jy) (a : Act) : Prop :=
 Region.wanted o (yielded ops a.tmps) = true ∧ ∀ w, St c E X w → actAt c o a w fun u w' => ∃ x, u = V x ∧ St c (G x) X w'
def stB (c : Cx) (X : XP) (S : Jy) (ops : Array Oper) (tb : Ye) (i : Nat) (K : Jy → Act → Prop) (E : Jy) (a : Act) : Prop :=
 ∃ o, ops[i]? = some o ∧ match tb i with
  | .quiet => ∃ v, YQ c E X ops o v a ∧ K E (a.put o.dst v)
  | .pure => ∃ v, YP c X S ops o v a ∧ K E (a.put o.dst v)
  | .grow e => (YG c X S ops o e a ∧ ∀ x, K (e.LL x ++ E) (a.put o.dst (e.V x))) ∨ (Region.wanted o (yielded ops a.tmps) = false ∧ K E (a.put o.dst undef))
  | .turn => (∃ (α : Type) (V : α → Value) (G : α → Jy), YT c E X ops o V G a ∧ ∀ x, SubS S (G x) ∧ K (G x) (a.put o.dst (V x))) ∨ (Region.wanted o (yielded ops a.tmps) = false ∧ K E (a.put o.dst undef))
  | .dep ts e => (YG c X S ops o (e (Wa a ts)) a ∧ ∀ x, K ((e (Wa a ts)).LL x ++ E) (a.put o.dst ((e (Wa a ts)).V x))) ∨ (Region.wanted o (yielded ops a.tmps) = false ∧ K E (a.put o.dst undef))
theorem YU {tb : Ye} {i : Nat} {K : Jy → Act → Prop} {E : Jy} {a : Act} {e : GE} (h : (tb i).ge a = some e) :
  stB c X S ops tb i K E a ↔ ∃ o, ops[i]? = some o ∧ ((YG c X S ops o e a ∧ ∀ x, K (e.LL x ++ E) (a.put o.dst (e.V x))) ∨ (Region.wanted o (yielded ops a.tmps) = false ∧ K E (a.put o.dst undef))) := by
 unfold stB
 cases ht : tb i with
 | grow e' => rw [ht] at h; cases h; exact Iff.rfl
 | dep ts e' => rw [ht] at h; cases h; exact Iff.rfl
 | _ => rw [ht] at h; cases h
def VL (c : Cx) (X : XP) (S : Jy) (ops : Array Oper) (md : Region.Mode) (tb : Ye) (m : Nat) (T : Jy → Array Bool → Act → Prop) : Nat → Array Bool → Jy → Act → Prop
 | 0, listed, E, a => T E listed a
 | f + 1, listed, E, a => Region.ready md ops listed ≠ [] ∧ ∀ i ∈ Region.ready md ops listed, i < m ∧ stB c X S ops tb i (fun E' a' => VL c X S ops md tb m T f (listed.setIfInBounds i true) E' a') E a
theorem SubS.grow {E LL : Jy} (h : SubS S E) : SubS S (LL ++ E) := fun p hp => List.mem_append_right _ (h p hp)
theorem YQ.perm {E E' : Jy} {o : Oper} {v : Value} {a : Act} (hy : YQ c E X ops o v a) (hp : E.Perm E') : YQ c E' X ops o v a := by
 rcases hy with ⟨h1, h2⟩ | h
 ·exact .inl ⟨h1, fun w hs => h2 w (hs.perm hp.symm)⟩
 ·exact .inr h
theorem Vj {tb : Ye} {m : Nat} {T : Jy → Array Bool → Act → Prop} (hTp : ∀ E E' listed a, E.Perm E' → T E listed a → T E' listed a) :
  ∀ (f : Nat) (listed : Array Bool) (E E' : Jy) (a : Act), E.Perm E' → VL c X S ops md tb m T f listed E a → VL c X S ops md tb m T f listed E' a
 | 0, listed, E, E', a, hp, h => hTp _ _ _ _ hp h
 | f + 1, listed, E, E', a, hp, h => by
  refine ⟨h.1, fun i hi => ⟨(h.2 i hi).1, ?_⟩⟩
  obtain ⟨o, ho, hm⟩ := (h.2 i hi).2
  refine ⟨o, ho, ?_⟩
  cases ha : tb i with
  | quiet => rw [ha] at hm; obtain ⟨v, h1, h2⟩ := hm; exact ⟨v, h1.perm hp, Vj hTp f _ _ _ _ hp h2⟩
  | pure => rw [ha] at hm; obtain ⟨v, h1, h2⟩ := hm; exact ⟨v, h1, Vj hTp f _ _ _ _ hp h2⟩
  | grow e =>
   rw [ha] at hm
   rcases hm with ⟨h1, h2⟩ | ⟨h1, h2⟩
   ·exact .inl ⟨h1, fun x => Vj hTp f _ _ _ _ (hp.append_left _) (h2 x)⟩
   ·exact .inr ⟨h1, Vj hTp f _ _ _ _ hp h2⟩
  | turn =>
   rw [ha] at hm
   rcases hm with ⟨α, V, G, ⟨h1, h2⟩, h3⟩ | ⟨h1, h2⟩
   ·exact .inl ⟨α, V, G, ⟨h1, fun w hs => h2 w (hs.perm hp.symm)⟩, h3⟩
   ·exact .inr ⟨h1, Vj hTp f _ _ _ _ hp h2⟩
  | dep ts e =>
   rw [ha] at hm
   rcases hm with ⟨h1, h2⟩ | ⟨h1, h2⟩
   ·exact .inl ⟨h1, fun x => Vj hTp f _ _ _ _ (hp.append_left _) (h2 x)⟩
   ·exact .inr ⟨h1, Vj hTp f _ _ _ _ hp h2⟩
theorem Jlo {tb : Ye} {i : Nat} {K : Jy → Act → Prop} {K' : Act → World → Prop} {Q' : Exit → Act → World → Prop} {E : Jy} {a : Act} {w : World} (hnd : ∀ (j : Nat) (o : Oper), ops[j]? = some o → Kq o.op = true)
  (hs : St c E X w) (hE : SubS S E) (h : ∀ E a w', SubS S E → St c E X w' → K E a → K' a w') (hh : stB c X S ops tb i K E a) : wpOpIn (FW c.ro) 0 c.P ops Q' i K' a w := by
 obtain ⟨o, ho, hm⟩ := hh
 have no : Region.wanted o (yielded ops a.tmps) = false → K E (a.put o.dst undef) → wpOpIn (FW c.ro) 0 c.P ops Q' i K' a w := fun hw hk => by
  unfold wpOpIn
  simp only [ho]
  rw [if_neg (by rw [hw]; simp)]
  exact ⟨KF, h E _ w hE hs hk⟩
 have yes : ∀ v, YQ c E X ops o v a → K E (a.put o.dst v) → wpOpIn (FW c.ro) 0 c.P ops Q' i K' a w := fun v hy hk => by
  rcases hy with ⟨hw, hq⟩ | ⟨hw, rfl⟩
  ·exact YO ho (hnd i o ho) hw (hq w hs) fun u w' ⟨e, hk'⟩ => h E _ w' hE (hs.more hk') (e ▸ hk)
  ·exact no hw hk
 cases ha : tb i with
 | quiet => rw [ha] at hm; obtain ⟨v, h1, h2⟩ := hm; exact yes v h1 h2
 | pure => rw [ha] at hm; obtain ⟨v, h1, h2⟩ := hm; exact yes v (h1.quiet hE) h2
 | grow e =>
  rw [ha] at hm
  rcases hm with ⟨⟨hw, hr⟩, h2⟩ | ⟨hw, h2⟩
  ·exact YO ho (hnd i o ho) hw (hr E hE w hs) fun u w' ⟨x, e', hk, hf, hd⟩ => h _ _ w' hE.grow (hs.freshs hk hf hd) (e' ▸ (h2 x))
  ·exact no hw h2
 | turn =>
  rw [ha] at hm
  rcases hm with ⟨α, V, G, ⟨hw, hr⟩, h2⟩ | ⟨hw, h2⟩
  ·exact YO ho (hnd i o ho) hw (hr w hs) fun u w' ⟨x, e', hs'⟩ => h _ _ w' (h2 x).1 hs' (e' ▸ (h2 x).2)
  ·exact no hw h2
 | dep ts e =>
  rw [ha] at hm
  rcases hm with ⟨⟨hw, hr⟩, h2⟩ | ⟨hw, h2⟩
  ·exact YO ho (hnd i o ho) hw (hr E hE w hs) fun u w' ⟨x, e', hk, hf, hd⟩ => h _ _ w' hE.grow (hs.freshs hk hf hd) (e' ▸ (h2 x))
  ·exact no hw h2
theorem vi {tb : Ye} {m g : Nat} {T : Jy → Array Bool → Act → Prop} {Q' : Exit → Act → World → Prop} (hnd : ∀ (j : Nat) (o : Oper), ops[j]? = some o → Kq o.op = true)
  (hT : ∀ E listed a w, SubS S E → St c E X w → T E listed a → wpAnyIn (FW c.ro) 0 c.P md ops Q' g listed a w) :
  ∀ (f : Nat) (listed : Array Bool) (E : Jy) (a : Act) (w : World), SubS S E → St c E X w → VL c X S ops md tb m T f listed E a → wpAnyIn (FW c.ro) 0 c.P md ops Q' (f + g) listed a w
 | 0, listed, E, a, w, hE, hw, h => by rw [Nat.zero_add]; exact hT _ _ _ _ hE hw h
 | f + 1, listed, E, a, w, hE, hw, h => by
  rw [show f + 1 + g = (f + g) + 1 from by omega]
  exact ⟨fun h0 => absurd h0 h.1, fun i hi => Jlo hnd hw hE (fun E' a' w' hE' hw' h' => vi hnd hT f _ E' a' w' hE' hw' h') (h.2 i hi).2⟩
def vj (md : Region.Mode) (ops : Array Oper) (tb : Ye) (m i : Nat) : Prop :=
 tb i = .quiet → ∀ j, j < m → tb j = .turn → ∀ listed, i ∈ Region.ready md ops listed → j ∈ Region.ready md ops listed → False
def okG (md : Region.Mode) (ops : Array Oper) (tb : Ye) (i : Nat) : Nat → Array Bool → Bool
 | 0, listed => (Region.ready md ops listed).all fun j => j == i
 | f + 1, listed => (Region.ready md ops listed).all fun j => j == i || ((tb j).isGrow && okG md ops tb i f (listed.setIfInBounds j true))
theorem jk {tb : Ye} {m i : Nat} {oi : Oper} {v : Value} {T : Jy → Array Bool → Act → Prop} (hi : ops[i]? = some oi) (hai : tb i = .quiet ∨ tb i = .pure) (hsel : ∀ (j : Nat) (o : Oper) cs b, ops[j]? = some o → o.op ≠ .select cs b)
  (hbd : vj md ops tb m i) (hdep : zl ops tb m)
  (hlt : ∀ listed, HeadInv md ops m listed → listed.getD i true = false → ∀ j ∈ Region.ready md ops listed, j < m)
  (hT : ∀ E listed a, T E listed a → ∀ j ∈ Region.ready md ops listed, m ≤ j) :
  ∀ (f : Nat) (listed : Array Bool) (E : Jy) (a : Act), HeadInv md ops m listed →
   (∀ j oj, ops[j]? = some oj → j ≠ i → listed.getD j true = false → (∀ e ∈ oj.after, Region.binds md e = true → e.on ≠ i) → oi.apart ops oj = true) →
   SubS S E → i ∈ Region.ready md ops listed → (YQ c E X ops oi v a ∧ (tb i = .pure → YP c X S ops oi v a)) →
   VL c X S ops md tb m T f (listed.setIfInBounds i true) E (a.put oi.dst v) → VL c X S ops md tb m T (f + 1) listed E a := by
 have self : ∀ {K : Jy → Act → Prop} {E : Jy} {a : Act}, (YQ c E X ops oi v a ∧ (tb i = .pure → YP c X S ops oi v a)) → K E (a.put oi.dst v) → stB c X S ops tb i K E a := by
  intro K E a hy H
  refine ⟨oi, hi, ?_⟩
  rcases hai with h | h <;> rw [h]
  ·exact ⟨v, hy.1, H⟩
  ·exact ⟨v, hy.2 h, H⟩
 intro f
 induction f with
 | zero =>
  intro listed E a inv _ hSE hr hy H
  refine ⟨fun h => (by rw [h] at hr; cases hr), fun j hj => ⟨hlt _ inv (mem_ready.1 hr).1 j hj, ?_⟩⟩
  by_cases hji : j = i
  ·subst hji; exact self hy H
  ·have h1 := hT _ _ _ H j (ready_mono hj hji)
   have h2 := hlt _ inv (mem_ready.1 hr).1 j hj
   omega
 | succ f ih =>
  intro listed E a inv hfree hSE hr hy H
  refine ⟨fun h => (by rw [h] at hr; cases hr), fun j hj => ?_⟩
  have hjm := hlt _ inv (mem_ready.1 hr).1 j hj
  refine ⟨hjm, ?_⟩
  by_cases hji : j = i
  ·subst hji; exact self hy H
  ·obtain ⟨oj, hoj, hm⟩ := (H.2 j (ready_mono hj hji)).2
   obtain ⟨hjun, oj', hoj', hall⟩ := mem_ready.1 hj
   rw [hoj] at hoj'
   cases hoj'
   have hnot : ∀ e ∈ oj.after, Region.binds md e = true → e.on ≠ i := fun e he hb heq => by
    have h2 := hall e he hb
    rw [heq, getD_both (mem_ready.1 hr).1] at h2
    cases h2
   obtain ⟨h1, h2, h3⟩ := Oper.apart_spec (hfree j oj hoj hji hjun hnot)
   have hfree' : ∀ k ok, ops[k]? = some ok → k ≠ i → (listed.setIfInBounds j true).getD k true = false →
     (∀ e ∈ ok.after, Region.binds md e = true → e.on ≠ i) → oi.apart ops ok = true := fun k ok hk hki hun hno => by
    refine hfree k ok hk hki ?_ hno
    by_cases hjk : j = k
    ·subst hjk; exact hjun
    ·rw [getD_set_ne true hjk] at hun; exact hun
   have back1 := fun u => (execOp_put oj (fun cs b => hsel j oj cs b hoj) a oi.dst u h1)
   have back2 := fun u => (wanted_put oj a oi.dst u h1)
   have forth1 := fun u => (execOp_put oi (fun cs b => hsel i oi cs b hi) a oj.dst u h3)
   have forth2 := fun u => (wanted_put oi a oj.dst u h3)
   have go : ∀ E' u, SubS S E' → (E.Sublist E' ∨ tb i = .pure) → VL c X S ops md tb m T f ((listed.setIfInBounds i true).setIfInBounds j true) E' ((a.put oi.dst v).put oj.dst u) →
     VL c X S ops md tb m T (f + 1) (listed.setIfInBounds j true) E' (a.put oj.dst u) := fun E' u hSE' hsub hK => by
    refine ih (listed.setIfInBounds j true) E' (a.put oj.dst u) (inv.set hj hjm) hfree' hSE' (ready_mono hr (Ne.symm hji)) ⟨?_, fun hp => (hy.2 hp).same (forth1 u) (forth2 u)⟩ ?_
    ·rcases hsub with hsub | hp
     ·exact (hy.1.weak hsub).same (forth1 u) (forth2 u)
     ·exact ((hy.2 hp).same (forth1 u) (forth2 u)).quiet hSE'
    ·rw [Array.setIfInBounds_comm _ _ hji, ← Act.put_comm a v u h2]
     exact hK
   refine ⟨oj, hoj, ?_⟩
   cases ha : tb j with
   | quiet => rw [ha] at hm; obtain ⟨u, g1, g2⟩ := hm; exact ⟨u, g1.same (back1 v).symm (back2 v).symm, go E u hSE (.inl (List.Sublist.refl _)) g2⟩
   | pure => rw [ha] at hm; obtain ⟨u, g1, g2⟩ := hm; exact ⟨u, g1.same (back1 v).symm (back2 v).symm, go E u hSE (.inl (List.Sublist.refl _)) g2⟩
   | grow e =>
    rw [ha] at hm
    rcases hm with ⟨g1, g2⟩ | ⟨g1, g2⟩
    ·exact .inl ⟨g1.same (back1 v).symm (back2 v).symm, fun x => go _ _ hSE.grow (.inl (List.sublist_append_right _ _)) (g2 x)⟩
    ·exact .inr ⟨(back2 v).symm.trans g1, go E undef hSE (.inl (List.Sublist.refl _)) g2⟩
   | turn =>
    rw [ha] at hm
    rcases hm with ⟨α, V, G, ⟨g0, g1⟩, g2⟩ | ⟨g1, g2⟩
    ·refine .inl ⟨α, V, G, ⟨(back2 v).symm.trans g0, fun w hs => (g1 w hs).same (back1 v).symm⟩, fun x => ⟨(g2 x).1, go _ _ (g2 x).1 ?_ (g2 x).2⟩⟩
     rcases hai with hq | hp
     ·exact (hbd hq j hjm ha listed hr hj).elim
     ·exact .inr hp
    ·exact .inr ⟨(back2 v).symm.trans g1, go E undef hSE (.inl (List.Sublist.refl _)) g2⟩
   | dep ts e =>
    obtain ⟨o', ho', hm'⟩ := (YU (e := e (Wa a ts)) ((jj hdep hjm hoj h1).trans (by rw [ha]; rfl))).1 (H.2 j (ready_mono hj hji)).2
    rw [hoj] at ho'
    cases ho'
    rcases hm' with ⟨g1, g2⟩ | ⟨g1, g2⟩
    ·exact .inl ⟨g1.same (back1 v).symm (back2 v).symm, fun x => go _ _ hSE.grow (.inl (List.sublist_append_right _ _)) (g2 x)⟩
    ·exact .inr ⟨(back2 v).symm.trans g1, go E undef hSE (.inl (List.Sublist.refl _)) g2⟩
theorem Yq {tb : Ye} {m i : Nat} {oi : Oper} {T : Jy → Array Bool → Act → Prop} (hi : ops[i]? = some oi) (hai : (tb i).isGrow = true) (hdep : zl ops tb m) (hsel : ∀ (j : Nat) (o : Oper) cs b, ops[j]? = some o → o.op ≠ .select cs b)
  (hlt : ∀ listed, HeadInv md ops m listed → listed.getD i true = false → ∀ j ∈ Region.ready md ops listed, j < m)
  (hT : ∀ E listed a, T E listed a → ∀ j ∈ Region.ready md ops listed, m ≤ j) :
  ∀ (f : Nat) (listed : Array Bool) (E : Jy) (a : Act), HeadInv md ops m listed →
   (∀ j oj, ops[j]? = some oj → j ≠ i → listed.getD j true = false → (∀ e ∈ oj.after, Region.binds md e = true → e.on ≠ i) → oi.apart ops oj = true) →
   SubS S E → i ∈ Region.ready md ops listed → Region.wanted oi (yielded ops a.tmps) = false →
   VL c X S ops md tb m T f (listed.setIfInBounds i true) E (a.put oi.dst undef) → VL c X S ops md tb m T (f + 1) listed E a := by
 have self : ∀ {K : Jy → Act → Prop} {E : Jy} {a : Act}, Region.wanted oi (yielded ops a.tmps) = false → K E (a.put oi.dst undef) → stB c X S ops tb i K E a := by
  intro K E a hy H
  obtain ⟨e, he⟩ := ql a hai
  exact (YU he).2 ⟨oi, hi, .inr ⟨hy, H⟩⟩
 intro f
 induction f with
 | zero =>
  intro listed E a inv _ hSE hr hy H
  refine ⟨fun h => (by rw [h] at hr; cases hr), fun j hj => ⟨hlt _ inv (mem_ready.1 hr).1 j hj, ?_⟩⟩
  by_cases hji : j = i
  ·subst hji; exact self hy H
  ·have h1 := hT _ _ _ H j (ready_mono hj hji)
   have h2 := hlt _ inv (mem_ready.1 hr).1 j hj
   omega
 | succ f ih =>
  intro listed E a inv hfree hSE hr hy H
  refine ⟨fun h => (by rw [h] at hr; cases hr), fun j hj => ?_⟩
  have hjm := hlt _ inv (mem_ready.1 hr).1 j hj
  refine ⟨hjm, ?_⟩
  by_cases hji : j = i
  ·subst hji; exact self hy H
  ·obtain ⟨oj, hoj, hm⟩ := (H.2 j (ready_mono hj hji)).2
   obtain ⟨hjun, oj', hoj', hall⟩ := mem_ready.1 hj
   rw [hoj] at hoj'
   cases hoj'
   have hnot : ∀ e ∈ oj.after, Region.binds md e = true → e.on ≠ i := fun e he hb heq => by
    have h2 := hall e he hb
    rw [heq, getD_both (mem_ready.1 hr).1] at h2
    cases h2
   obtain ⟨h1, h2, h3⟩ := Oper.apart_spec (hfree j oj hoj hji hjun hnot)
   have hfree' : ∀ k ok, ops[k]? = some ok → k ≠ i → (listed.setIfInBounds j true).getD k true = false →
     (∀ e ∈ ok.after, Region.binds md e = true → e.on ≠ i) → oi.apart ops ok = true := fun k ok hk hki hun hno => by
    refine hfree k ok hk hki ?_ hno
    by_cases hjk : j = k
    ·subst hjk; exact hjun
    ·rw [getD_set_ne true hjk] at hun; exact hun
   have back1 := fun u => (execOp_put oj (fun cs b => hsel j oj cs b hoj) a oi.dst u h1)
   have back2 := fun u => (wanted_put oj a oi.dst u h1)
   have forth1 := fun u => (execOp_put oi (fun cs b => hsel i oi cs b hi) a oj.dst u h3)
   have forth2 := fun u => (wanted_put oi a oj.dst u h3)
   have go : ∀ E' u, SubS S E' → VL c X S ops md tb m T f ((listed.setIfInBounds i true).setIfInBounds j true) E' ((a.put oi.dst undef).put oj.dst u) →
     VL c X S ops md tb m T (f + 1) (listed.setIfInBounds j true) E' (a.put oj.dst u) := fun E' u hSE' hK => by
    refine ih (listed.setIfInBounds j true) E' (a.put oj.dst u) (inv.set hj hjm) hfree' hSE' (ready_mono hr (Ne.symm hji)) ((forth2 u).trans hy) ?_
    rw [Array.setIfInBounds_comm _ _ hji, ← Act.put_comm a undef u h2]
    exact hK
   refine ⟨oj, hoj, ?_⟩
   cases ha : tb j with
   | quiet => rw [ha] at hm; obtain ⟨u, g1, g2⟩ := hm; exact ⟨u, g1.same (back1 undef).symm (back2 undef).symm, go E u hSE g2⟩
   | pure => rw [ha] at hm; obtain ⟨u, g1, g2⟩ := hm; exact ⟨u, g1.same (back1 undef).symm (back2 undef).symm, go E u hSE g2⟩
   | grow e =>
    rw [ha] at hm
    rcases hm with ⟨g1, g2⟩ | ⟨g1, g2⟩
    ·exact .inl ⟨g1.same (back1 undef).symm (back2 undef).symm, fun x => go _ _ hSE.grow (g2 x)⟩
    ·exact .inr ⟨(back2 undef).symm.trans g1, go E undef hSE g2⟩
   | turn =>
    rw [ha] at hm
    rcases hm with ⟨α, V, G, ⟨g0, g1⟩, g2⟩ | ⟨g1, g2⟩
    ·exact .inl ⟨α, V, G, ⟨(back2 undef).symm.trans g0, fun w hs => (g1 w hs).same (back1 undef).symm⟩, fun x => ⟨(g2 x).1, go _ _ (g2 x).1 (g2 x).2⟩⟩
    ·exact .inr ⟨(back2 undef).symm.trans g1, go E undef hSE g2⟩
   | dep ts e =>
    obtain ⟨o', ho', hm'⟩ := (YU (e := e (Wa a ts)) ((jj hdep hjm hoj h1).trans (by rw [ha]; rfl))).1 (H.2 j (ready_mono hj hji)).2
    rw [hoj] at ho'
    cases ho'
    rcases hm' with ⟨g1, g2⟩ | ⟨g1, g2⟩
    ·exact .inl ⟨g1.same (back1 undef).symm (back2 undef).symm, fun x => go _ _ hSE.grow (g2 x)⟩
    ·exact .inr ⟨(back2 undef).symm.trans g1, go E undef hSE g2⟩
theorem X8 {tb : Ye} {m i : Nat} {oi : Oper} {ei : GE} {T : Jy → Array Bool → Act → Prop} (hi : ops[i]? = some oi) (him : i < m) (hdep : zl ops tb m) (hsel : ∀ (j : Nat) (o : Oper) cs b, ops[j]? = some o → o.op ≠ .select cs b)
  (hTp : ∀ E E' listed a, E.Perm E' → T E listed a → T E' listed a)
  (hlt : ∀ listed, HeadInv md ops m listed → listed.getD i true = false → ∀ j ∈ Region.ready md ops listed, j < m)
  (hT : ∀ E listed a, T E listed a → ∀ j ∈ Region.ready md ops listed, m ≤ j) :
  ∀ (f : Nat) (listed : Array Bool) (E : Jy) (a : Act), HeadInv md ops m listed →
   (∀ j oj, ops[j]? = some oj → j ≠ i → listed.getD j true = false → (∀ e ∈ oj.after, Region.binds md e = true → e.on ≠ i) → oi.apart ops oj = true) →
   SubS S E → (tb i).ge a = some ei → i ∈ Region.ready md ops listed → okG md ops tb i f listed = true → YG c X S ops oi ei a →
   (∀ x, VL c X S ops md tb m T f (listed.setIfInBounds i true) (ei.LL x ++ E) (a.put oi.dst (ei.V x))) → VL c X S ops md tb m T (f + 1) listed E a := by
 have self : ∀ {K : Jy → Act → Prop} {E : Jy} {a : Act}, (tb i).ge a = some ei → YG c X S ops oi ei a → (∀ x, K (ei.LL x ++ E) (a.put oi.dst (ei.V x))) → stB c X S ops tb i K E a := by
  intro K E a hai hy H
  exact (YU hai).2 ⟨oi, hi, .inl ⟨hy, H⟩⟩
 intro f
 induction f with
 | zero =>
  intro listed E a inv _ hSE hai hr hok hy H
  refine ⟨fun h => (by rw [h] at hr; cases hr), fun j hj => ⟨hlt _ inv (mem_ready.1 hr).1 j hj, ?_⟩⟩
  by_cases hji : j = i
  ·subst hji; exact self hai hy H
  ·have h1 := hT _ _ _ (H ei.x0) j (ready_mono hj hji)
   have h2 := hlt _ inv (mem_ready.1 hr).1 j hj
   omega
 | succ f ih =>
  intro listed E a inv hfree hSE hai hr hok hy H
  refine ⟨fun h => (by rw [h] at hr; cases hr), fun j hj => ?_⟩
  have hjm := hlt _ inv (mem_ready.1 hr).1 j hj
  refine ⟨hjm, ?_⟩
  by_cases hji : j = i
  ·subst hji; exact self hai hy H
  ·unfold okG at hok
   have hokj := List.all_eq_true.1 hok j hj
   simp only [Bool.or_eq_true, beq_iff_eq, hji, false_or, Bool.and_eq_true] at hokj
   obtain ⟨hgj, hok'⟩ := hokj
   obtain ⟨ej, ha⟩ := ql a hgj
   obtain ⟨hjun, oj, hoj, hall⟩ := mem_ready.1 hj
   have hnot : ∀ e ∈ oj.after, Region.binds md e = true → e.on ≠ i := fun e he hb heq => by
    have h2 := hall e he hb
    rw [heq, getD_both (mem_ready.1 hr).1] at h2
    cases h2
   obtain ⟨h1, h2, h3⟩ := Oper.apart_spec (hfree j oj hoj hji hjun hnot)
   have hfree' : ∀ k ok, ops[k]? = some ok → k ≠ i → (listed.setIfInBounds j true).getD k true = false →
     (∀ e ∈ ok.after, Region.binds md e = true → e.on ≠ i) → oi.apart ops ok = true := fun k ok hk hki hun hno => by
    refine hfree k ok hk hki ?_ hno
    by_cases hjk : j = k
    ·subst hjk; exact hjun
    ·rw [getD_set_ne true hjk] at hun; exact hun
   have back1 := fun u => (execOp_put oj (fun cs b => hsel j oj cs b hoj) a oi.dst u h1)
   have back2 := fun u => (wanted_put oj a oi.dst u h1)
   have forth1 := fun u => (execOp_put oi (fun cs b => hsel i oi cs b hi) a oj.dst u h3)
   have forth2 := fun u => (wanted_put oi a oj.dst u h3)
   have hstep : ∀ x, (YG c X S ops oj ej (a.put oi.dst (ei.V x)) ∧ ∀ y, VL c X S ops md tb m T f ((listed.setIfInBounds i true).setIfInBounds j true) (ej.LL y ++ (ei.LL x ++ E)) ((a.put oi.dst (ei.V x)).put oj.dst (ej.V y))) ∨
     (Region.wanted oj (yielded ops (a.put oi.dst (ei.V x)).tmps) = false ∧ VL c X S ops md tb m T f ((listed.setIfInBounds i true).setIfInBounds j true) (ei.LL x ++ E) ((a.put oi.dst (ei.V x)).put oj.dst undef)) := fun x => by
    obtain ⟨o', ho', hm⟩ := (YU ((jj hdep hjm hoj h1).trans ha)).1 ((H x).2 j (ready_mono hj hji)).2
    rw [hoj] at ho'
    cases ho'
    exact hm
   refine (YU ha).2 ⟨oj, hoj, ?_⟩
   cases hw : Region.wanted oj (yielded ops a.tmps) with
   | true =>
    have hpos : ∀ x, YG c X S ops oj ej (a.put oi.dst (ei.V x)) ∧ ∀ y, VL c X S ops md tb m T f ((listed.setIfInBounds i true).setIfInBounds j true) (ej.LL y ++ (ei.LL x ++ E)) ((a.put oi.dst (ei.V x)).put oj.dst (ej.V y)) := fun x => by
     rcases hstep x with h | h
     ·exact h
     ·have := (back2 (ei.V x)).symm.trans h.1; rw [hw] at this; cases this
    refine .inl ⟨(hpos ei.x0).1.same (back1 _).symm (back2 _).symm, fun y => ?_⟩
    refine ih (listed.setIfInBounds j true) (ej.LL y ++ E) (a.put oj.dst (ej.V y)) (inv.set hj hjm) hfree' hSE.grow ((jj hdep him hi h3).trans hai) (ready_mono hr (Ne.symm hji)) hok' (hy.same (forth1 _) (forth2 _)) fun x => ?_
    rw [Array.setIfInBounds_comm _ _ hji, ← Act.put_comm a _ _ h2]
    refine Vj hTp f _ _ _ _ ?_ ((hpos x).2 y)
    rw [← List.append_assoc, ← List.append_assoc]
    exact List.Perm.append_right _ List.perm_append_comm
   | false =>
    have hneg : ∀ x, VL c X S ops md tb m T f ((listed.setIfInBounds i true).setIfInBounds j true) (ei.LL x ++ E) ((a.put oi.dst (ei.V x)).put oj.dst undef) := fun x => by
     rcases hstep x with h | h
     ·have := (back2 (ei.V x)).symm.trans h.1.1; rw [hw] at this; cases this
     ·exact h.2
    refine .inr ⟨rfl, ?_⟩
    refine ih (listed.setIfInBounds j true) E (a.put oj.dst undef) (inv.set hj hjm) hfree' hSE ((jj hdep him hi h3).trans hai) (ready_mono hr (Ne.symm hji)) hok' (hy.same (forth1 _) (forth2 _)) fun x => ?_
    rw [Array.setIfInBounds_comm _ _ hji, ← Act.put_comm a _ _ h2]
    exact hneg x
def vk (c : Cx) (X : XP) (S : Jy) (ops : Array Oper) (tb : Ye) (T : Jy → Act → Prop) : List Nat → Jy → Act → Prop
 | [], E, a => T E a
 | k :: rest, E, a => stB c X S ops tb k (fun E' a' => vk c X S ops tb T rest E' a') E a
def Jd3 (md : Region.Mode) (ops : Array Oper) (tb : Ye) (m g : Nat) : List Nat → Array Bool → Bool
  | [], listed => Region.seqB md ops g m listed
  | k :: r, listed => Nat.blt k m && (match (tb k).isTurn with
      | true => decide (Region.ready md ops listed = [k])
      | false => (Region.ready md ops listed).contains k && Region.free md ops listed k && (!(tb k).isGrow || okG md ops tb k r.length listed)) && Jd3 md ops tb m g r (listed.setIfInBounds k true)
theorem wv {tb : Ye} {m g : Nat} {T : Jy → Act → Prop} (hsel : Region.noSelect ops = true) (hTp : ∀ E E' a, E.Perm E' → T E a → T E' a) (hbd : ∀ i, i < m → vj md ops tb m i) (hdep : zl ops tb m) (hlt : ∀ i, i < m → ∀ listed, HeadInv md ops m listed → listed.getD i true = false → ∀ j ∈ Region.ready md ops listed, j < m)
  (hseq : ∀ listed, Region.seqB md ops g m listed = true → ∀ j ∈ Region.ready md ops listed, m ≤ j) :
  ∀ (l : List Nat) (listed : Array Bool) (E : Jy) (a : Act), HeadInv md ops m listed → SubS S E →
  Jd3 md ops tb m g l listed = true → vk c X S ops tb T l E a →
  VL c X S ops md tb m (fun E' listed' a' => Region.seqB md ops g m listed' = true ∧ T E' a') l.length listed E a
 | [], listed, E, a, _, _, hB, h => ⟨by simpa [Jd3] using hB, h⟩
 | k :: l, listed, E, a, inv, hSE, hB, h => by
  simp only [Jd3, Bool.and_eq_true] at hB
  obtain ⟨⟨hkm, hr⟩, hB'⟩ := hB
  have hkm : k < m := by
   have : k + 1 ≤ m := Nat.le_of_ble_eq_true hkm
   omega
  have hr' : k ∈ Region.ready md ops listed := by
   cases ht : (tb k).isTurn with
   | true => rw [ht] at hr; simp only [decide_eq_true_eq] at hr; rw [hr]; exact List.mem_cons_self
   | false => rw [ht] at hr; simp only [Bool.and_eq_true] at hr; simpa using hr.1.1
  have next : ∀ E' a', SubS S E' → vk c X S ops tb T l E' a' → VL c X S ops md tb m (fun E' listed' a' => Region.seqB md ops g m listed' = true ∧ T E' a') l.length (listed.setIfInBounds k true) E' a' := fun E' a' hSE' hw =>
   wv hsel hTp hbd hdep hlt hseq l _ E' a' (inv.set hr' hkm) hSE' hB' hw
  obtain ⟨o, h0, hm⟩ := h
  have quiet : (tb k).isTurn = false → ∀ v, (tb k = .quiet ∨ tb k = .pure) → (YQ c E X ops o v a ∧ (tb k = .pure → YP c X S ops o v a)) → vk c X S ops tb T l E (a.put o.dst v) →
    VL c X S ops md tb m (fun E' listed' a' => Region.seqB md ops g m listed' = true ∧ T E' a') (l.length + 1) listed E a := fun hnt v hai hy hw => by
   rw [hnt] at hr
   simp only [Bool.and_eq_true] at hr
   exact jk h0 hai (Region.noSelect_spec hsel) (hbd k hkm) hdep (hlt k hkm) (fun E' listed' a' hL => hseq _ hL.1) l.length listed E a inv (Region.free_spec h0 hr.1.2) hSE hr' hy (next _ _ hSE hw)
  cases ha : tb k with
  | quiet => rw [ha] at hm; obtain ⟨v, hy, hw⟩ := hm; exact quiet (by rw [ha]; rfl) v (.inl ha) ⟨hy, fun e => by rw [ha] at e; cases e⟩ hw
  | pure => rw [ha] at hm; obtain ⟨v, hy, hw⟩ := hm; exact quiet (by rw [ha]; rfl) v (.inr ha) ⟨hy.quiet hSE, fun _ => hy⟩ hw
  | grow e =>
   rw [ha] at hm hr
   simp only [Kb.isTurn, Kb.isGrow, Bool.not_true, Bool.false_or, Bool.and_eq_true] at hr
   rcases hm with ⟨h1, h2⟩ | ⟨h1, h2⟩
   ·exact X8 h0 hkm hdep (Region.noSelect_spec hsel) (fun E E' listed a hp hT => ⟨hT.1, hTp _ _ _ hp hT.2⟩) (hlt k hkm) (fun E' listed' a' hL => hseq _ hL.1) l.length listed E a inv (Region.free_spec h0 hr.1.2) hSE (by rw [ha]; rfl) hr' hr.2 h1 fun x => next _ _ hSE.grow (h2 x)
   ·exact Yq h0 (by rw [ha]; rfl) hdep (Region.noSelect_spec hsel) (hlt k hkm) (fun E' listed' a' hL => hseq _ hL.1) l.length listed E a inv (Region.free_spec h0 hr.1.2) hSE hr' h1 (next _ _ hSE h2)
  | dep ts e =>
   rw [ha] at hm hr
   simp only [Kb.isTurn, Kb.isGrow, Bool.not_true, Bool.false_or, Bool.and_eq_true] at hr
   rcases hm with ⟨h1, h2⟩ | ⟨h1, h2⟩
   ·exact X8 h0 hkm hdep (Region.noSelect_spec hsel) (fun E E' listed a hp hT => ⟨hT.1, hTp _ _ _ hp hT.2⟩) (hlt k hkm) (fun E' listed' a' hL => hseq _ hL.1) l.length listed E a inv (Region.free_spec h0 hr.1.2) hSE (by rw [ha]; rfl) hr' hr.2 h1 fun x => next _ _ hSE.grow (h2 x)
   ·exact Yq h0 (by rw [ha]; rfl) hdep (Region.noSelect_spec hsel) (hlt k hkm) (fun E' listed' a' hL => hseq _ hL.1) l.length listed E a inv (Region.free_spec h0 hr.1.2) hSE hr' h1 (next _ _ hSE h2)
  | turn =>
   rw [ha] at hm hr
   simp only [Kb.isTurn, decide_eq_true_eq] at hr
   refine ⟨fun e => (by rw [e] at hr'; cases hr'), fun i hi => ?_⟩
   rw [hr] at hi
   have hik : i = k := by simpa using hi
   subst hik
   refine ⟨hkm, o, h0, ?_⟩
   rw [ha]
   rcases hm with ⟨α, V, G, h1, h2⟩ | ⟨h1, h2⟩
   ·exact .inl ⟨α, V, G, h1, fun x => ⟨(h2 x).1, next _ _ (h2 x).1 (h2 x).2⟩⟩
   ·exact .inr ⟨h1, next _ _ hSE h2⟩
def jl : List (Nat × Kb) → Ye
 | [], _ => .quiet
 | (j, p) :: r, k => match Nat.beq k j with | true => p | false => jl r k
def vl (md : Region.Mode) (ops : Array Oper) (tb : Ye) (m : Nat) : Bool :=
 (List.range m).all fun j => if (tb j).isTurn then (List.range m).all fun i => !(tb i).isQuiet || onB md ops j i || onB md ops i j else true
theorem Yr {tb : Ye} {m : Nat} (h : vl md ops tb m = true) {i : Nat} (hi : i < m) : vj md ops tb m i := fun hq j hj he listed hir hjr => by
 have h1 := List.all_eq_true.1 h j (List.mem_range.2 hj)
 rw [he] at h1
 simp only [Kb.isTurn, if_true] at h1
 have h2 := List.all_eq_true.1 h1 i (List.mem_range.2 hi)
 rw [hq] at h2
 simp only [Kb.isQuiet, Bool.not_true, Bool.false_or, Bool.or_eq_true] at h2
 rcases h2 with h2 | h2
 ·exact qW h2 hjr hir
 ·exact qW h2 hir hjr
end
section
variable {c : Cx} {l : KK} {L E : Jy} {X : XP} {Q : Exit → Act → World → Prop} {d : List Deferred}
variable {ops : Array Oper} {rest : List Nat} {i k : Nat} {v : Value} {o : Oper} {tb : Ye} {S : Jy} {T : Jy → Act → Prop}
def HB (c : Cx) (d : List Deferred) (l : KK) (E : Jy) (X : XP) (S : Jy) (ops : Array Oper) (tb : Ye) (rest : List Nat) (T : Jy → Act → Prop) : Prop :=
 ∀ a, Fr c.n d l a → vk c X S ops tb T rest E a
def Jlp (ops : Array Oper) (tb : Ye) (m : Nat) : Bool :=
 (List.range m).all fun j => match tb j with
  | .dep ts _ => match ops[j]? with
   | some o => ts.all fun t => (o.looksAt ops).contains t
   | none => true
  | _ => true
theorem qm {m : Nat} (h : Jlp ops tb m = true) : zl ops tb m := fun j hj o ho ts e ht t hm => by
 have h1 := List.all_eq_true.1 h j (List.mem_range.2 hj)
 rw [ht] at h1
 simp only [ho] at h1
 simpa using List.all_eq_true.1 h1 t hm
def Jd4 (ops : List Oper) (tb : Ye) (m : Nat) (order : List Nat) : Bool :=
 (ops.all fun o => Kq o.op) && Region.noSelect ops.toArray && Nat.ble m ops.length && Nat.beq order.length m &&
 (Nat.beq m ops.length || (Region.sinkB .any ops.toArray m && Region.chainB .any ops.toArray m)) && vl .any ops.toArray tb m && Jlp ops.toArray tb m &&
 Jd3 .any ops.toArray tb m (ops.length - m) order (Array.replicate ops.length false)
theorem Km {id : Nat} {ops : List Oper} (S : Jy) (tab : List (Nat × Kb)) (m : Nat) (order : List Nat) (hm : c.P.follows .mixedOrders = true) (hB : Jd4 ops (jl tab) m order = true) (hSL : SubS S L)
  (h : HB c d l L X S ops.toArray (jl tab) order (fun E a' => ∀ w, St c E X w → wpListIn (FW c.ro) 0 c.P ops.toArray Q (ops.drop m) a' w)) : HC c d l L X (.region id ops.toArray true) Q := fun a w hf hs => by
 simp only [Jd4, Bool.and_eq_true, Bool.or_eq_true] at hB
 obtain ⟨⟨⟨⟨⟨⟨⟨h1, hsel⟩, hle⟩, hol⟩, hsc⟩, hcr⟩, hdp⟩, hlex⟩ := hB
 have hle' := Nat.le_of_ble_eq_true hle
 have hol' := Nat.eq_of_beq_eq_true hol
 have hnd : ∀ (j : Nat) (o : Oper), ops.toArray[j]? = some o → Kq o.op = true := fun j o ho => List.all_eq_true.1 h1 o (List.mem_of_getElem? (by simpa using ho))
 have hdl : (ops.drop m).length = ops.length - m := by simp
 have hlt : ∀ i, i < m → ∀ listed, HeadInv .any ops.toArray m listed → listed.getD i true = false → ∀ j ∈ Region.ready .any ops.toArray listed, j < m := by
  intro i hi listed inv hun j hj
  rcases Nat.lt_or_ge j m with hjm | hjm
  exact hjm
  have hjs : j < ops.length := by obtain ⟨_, oj, hoj, _⟩ := mem_ready.1 hj; simpa using (Array.getElem?_eq_some_iff.1 hoj).1
  rcases hsc with h0 | ⟨h2, h3⟩
  have := Nat.eq_of_beq_eq_true h0; omega
  exact absurd hj (tail_waits h2 h3 (by simpa using (show m < ops.length by omega)) inv _ i rfl hi hun j hjm)
 have inv0 : HeadInv .any ops.toArray m (Array.replicate ops.length false) :=
  ⟨by simp, fun j oj _ hl => (by rw [getD_replicate_false] at hl; cases hl), fun t _ ht => getD_in (by simpa using ht) (getD_replicate_false _ _)⟩
 have H := wv (c := c) (X := X) (md := .any) (g := ops.length - m) hsel (fun E E' a hp hT w hs => hT w (hs.perm hp.symm)) (fun i hi => Yr hcr hi) (qm hdp) hlt (fun listed hq => seqB_ready hq) order _ L a inv0 hSL hlex (h a hf)
 refine wpIn_region_any hm ?_
 have := vi (Q' := Q) (g := ops.length - m) hnd (fun E' listed a' w' _ hw' hL => by
  have := VK (ro := c.ro) (P := c.P) (md := .any) (Q' := Q) (ops.drop m) m listed a' w' (fun j => by simp [List.getElem?_drop]) (by rw [hdl]; exact hL.1) (hL.2 w' hw')
  rwa [hdl] at this) _ _ _ _ _ hSL (show St c L X w.drew from hs.drew) H
 rw [hol', show m + (ops.length - m) = ops.toArray.size from by simp; omega] at this
 simpa using this
theorem Qc {tail : List Oper} (h : HL c d l E X ops tail Q) : HB c d l E X S ops tb [] (fun E' a' => ∀ w, St c E' X w → wpListIn (FW c.ro) 0 c.P ops Q tail a' w) :=
 fun a hf w hs => h a w hf hs
theorem Q5 (hk : WM ops.toList k = some o) (hg : Kx l ops o = some true) (hd : o.dst = some i) (hi : Nat.ble (i + 1) c.n = true) (hA : tb k = .quiet) (hr : JP c d l E X o v) (h : HB c d ((i, v) :: l) E X S ops tb rest T) : HB c d l E X S ops tb (k :: rest) T := fun a hf => by
 refine ⟨o, QI hk, ?_⟩
 rw [hA]
 refine ⟨v, .inl ⟨JW hf hg, fun w hs => X5 (hr a w hf hs) ⟨rfl, Keep.refl _ _⟩⟩, ?_⟩
 rw [hd]; exact h _ (hf.put (Nat.le_of_ble_eq_true hi))
theorem JH (hk : WM ops.toList k = some o) (hg : Kx l ops o = some true) (hd : o.dst = some i) (hi : Nat.ble (i + 1) c.n = true) (hA : tb k = .pure) (hr : ∀ E', SubS S E' → JP c d l E' X o v) (h : HB c d ((i, v) :: l) E X S ops tb rest T) : HB c d l E X S ops tb (k :: rest) T := fun a hf => by
 refine ⟨o, QI hk, ?_⟩
 rw [hA]
 refine ⟨v, .inl ⟨JW hf hg, fun E' hE' w hs => X5 (hr E' hE' a w hf hs) ⟨rfl, Keep.refl _ _⟩⟩, ?_⟩
 rw [hd]; exact h _ (hf.put (Nat.le_of_ble_eq_true hi))
theorem Jd5 {v' : Value} (e : v = v') (h : HB c d ((i, v') :: l) E X S ops tb rest T) : HB c d ((i, v) :: l) E X S ops tb rest T := e ▸ h
theorem Kf {f : Operand} {args : Array Operand} {at_ : Array TypeId} {g : FuncId} {vs : List Value} {ty : TypeId} {ps : String} {af : Array Edge} {gd : Option (Nat × Bool)}
  (hk : WM ops.toList k = some ⟨some i, .call ⟨.value f, args, at_⟩, ty, ps, af, gd⟩) (hg : Kx l ops ⟨some i, .call ⟨.value f, args, at_⟩, ty, ps, af, gd⟩ = some true) (hi : Nat.ble (i + 1) c.n = true) (hA : tb k = .pure) (hca : Qe l f args = some (g, vs)) (eg : Enters c.P g)
  (hp : Pure c.P g vs.toArray v) (h : HB c d ((i, v) :: l) E X S ops tb rest T) : HB c d l E X S ops tb (k :: rest) T := fun a hf => by
 refine ⟨_, QI hk, ?_⟩
 rw [hA]
 exact ⟨v, .inl ⟨JW hf hg, fun _ _ w _ => Ym hf hca eg ((hp.run w).mono fun _ _ ⟨he, hk⟩ => ⟨v, he, rfl, hk⟩)⟩, h _ (hf.put (Nat.le_of_ble_eq_true hi))⟩
def QK (V : Nat → Value) (ob : Obj) : GE := ⟨Nat, V, fun r => [(r, ob)], 0⟩
def QY {α : Type} (x0 : α) (V : α → Value) (LL : α → Jy) : GE := ⟨α, V, LL, x0⟩
theorem vm {e : GE} (hk : WM ops.toList k = some o) (hg : Kx l ops o = some true) (hd : o.dst = some i) (hi : Nat.ble (i + 1) c.n = true) (hA : tb k = .grow e) (hr : ∀ E', SubS S E' → ∀ a w, Fr c.n d l a → St c E' X w → actAt c o a w fun u w' => ∃ x, u = e.V x ∧ Jd2 (e.LL x) w w')
  (h : ∀ x, HB c d ((i, e.V x) :: l) (e.LL x ++ E) X S ops tb rest T) : HB c d l E X S ops tb (k :: rest) T := fun a hf => by
 refine ⟨o, QI hk, ?_⟩
 rw [hA]
 refine .inl ⟨⟨JW hf hg, fun E' hE' w hs => hr E' hE' a w hf hs⟩, fun x => ?_⟩
 rw [hd]; exact h x _ (hf.put (Nat.le_of_ble_eq_true hi))
def WV (l : KK) : List Nat → Option (List Value)
 | [] => some []
 | t :: ts => match QN l t, WV l ts with
  | some v, some r => some (v :: r)
  | _, _ => none
theorem Ys {n : Nat} {a : Act} (hf : Fr n d l a) : ∀ {ts : List Nat} {vs : List Value}, WV l ts = some vs → Wa a ts = vs
 | [], vs, h => by cases h; rfl
 | t :: ts, vs, h => by
  unfold WV at h
  cases h1 : QN l t with
  | none => rw [h1] at h; cases h
  | some v =>
   cases h2 : WV l ts with
   | none => rw [h1, h2] at h; cases h
   | some r =>
    rw [h1, h2] at h
    cases h
    show a.eval (.tmp t) :: Wa a ts = v :: r
    rw [Ys hf h2, hf.eval (x := .tmp t) (v := v) h1]
theorem Jlq {ts : List Nat} {e : List Value → GE} {vs : List Value} {e0 : GE} (hk : WM ops.toList k = some o) (hg : Kx l ops o = some true) (hd : o.dst = some i) (hi : Nat.ble (i + 1) c.n = true) (hA : tb k = .dep ts e) (hv : WV l ts = some vs) (he : e vs = e0) (hr : ∀ E', SubS S E' → ∀ a w, Fr c.n d l a → St c E' X w → actAt c o a w fun u w' => ∃ x, u = e0.V x ∧ Jd2 (e0.LL x) w w')
  (h : ∀ x, HB c d ((i, e0.V x) :: l) (e0.LL x ++ E) X S ops tb rest T) : HB c d l E X S ops tb (k :: rest) T := fun a hf => by
 refine ⟨o, QI hk, ?_⟩
 rw [hA]
 subst he
 show (YG c X S ops o (e (Wa a ts)) a ∧ ∀ x, vk c X S ops tb T rest ((e (Wa a ts)).LL x ++ E) (a.put o.dst ((e (Wa a ts)).V x))) ∨ _
 rw [Ys hf hv]
 refine .inl ⟨⟨JW hf hg, fun E' hE' w hs => hr E' hE' a w hf hs⟩, fun x => ?_⟩
 rw [hd]; exact h x _ (hf.put (Nat.le_of_ble_eq_true hi))
theorem Jd6 {V : Nat → Value} {ob : Obj} (hk : WM ops.toList k = some o) (hg : Kx l ops o = some true) (hd : o.dst = some i) (hi : Nat.ble (i + 1) c.n = true) (hA : tb k = .grow (QK V ob)) (hr : ∀ a w, Fr c.n d l a → (execOp a.eval o).run c.P w = .ok (.value (V w.heap.size)) (w.alloc ob))
  (h : ∀ r, HB c d ((i, V r) :: l) ((r, ob) :: E) X S ops tb rest T) : HB c d l E X S ops tb (k :: rest) T :=
 vm (e := QK V ob) hk hg hd hi hA (fun E' _ a w hf hs => X5 (hr a w hf) ⟨w.heap.size, rfl, Keep.alloc ob, fun p hp => by rw [List.mem_singleton.1 hp]; exact ⟨Nat.le_refl _, (MapKept.heap_alloc w _).1⟩, List.pairwise_singleton _ _⟩) h
theorem Jhy {ts : List Nat} {e : List Value → GE} {vs : List Value} {V : Nat → Value} {ob : Obj} (hk : WM ops.toList k = some o) (hg : Kx l ops o = some true) (hd : o.dst = some i) (hi : Nat.ble (i + 1) c.n = true) (hA : tb k = .dep ts e) (hv : WV l ts = some vs) (he : e vs = QK V ob) (hr : ∀ a w, Fr c.n d l a → (execOp a.eval o).run c.P w = .ok (.value (V w.heap.size)) (w.alloc ob))
  (h : ∀ r, HB c d ((i, V r) :: l) ((r, ob) :: E) X S ops tb rest T) : HB c d l E X S ops tb (k :: rest) T :=
 Jlq (e0 := QK V ob) hk hg hd hi hA hv he (fun E' _ a w hf hs => X5 (hr a w hf) ⟨w.heap.size, rfl, Keep.alloc ob, fun p hp => by rw [List.mem_singleton.1 hp]; exact ⟨Nat.le_refl _, (MapKept.heap_alloc w _).1⟩, List.pairwise_singleton _ _⟩) h
theorem Ku {ts : List Nat} {ev : List Value → GE} {dv : List Value} {t ty : TypeId} {ps : String} {af : Array Edge} {gd : Option (Nat × Bool)} {n e sz : Nat} {pa : List (Nat × Operand)} {vs : KK} {r zs : List Value} {z : Value} (hk : WM ops.toList k = some ⟨some i, .buildSlice t n pa.toArray, ty, ps, af, gd⟩) (hg : Kx l ops ⟨some i, .buildSlice t n pa.toArray, ty, ps, af, gd⟩ = some true) (hi : Nat.ble (i + 1) c.n = true)
  (hA : tb k = .dep ts ev) (hv : WV l ts = some dv) (he : ev dv = QK (ZI n) (.cells r.toArray e (0, 0)))
  (hp : Wk l pa = some vs) (ht : KI c.P t = some e) (hz : Qv c.P e = some z) (hs : Qd c.P e = some sz) (hzs : z.cells.size = sz) (hb : Nat.ble (n * sz) 16777216 = true) (h0 : Nat.ble 1 (n * sz) = true)
  (hmk : (madeCells z.cells (n * sz)).toList = zs) (hf : XK (fun i => some (i * sz, sz)) zs (Q7 vs) = some r)
  (h : ∀ q, HB c d ((i, .slice (some ⟨q, 0, none⟩) n n) :: l) ((q, .cells r.toArray e (0, 0)) :: E) X S ops tb rest T) : HB c d l E X S ops tb (k :: rest) T :=
 Jhy (V := ZI n) hk hg rfl hi hA hv he (fun a w hfr => by
  have h1 := Vs hfr hp
  have h2 : (pa.toArray.map fun (p : Nat × Operand) => (p.1, a.eval p.2)) = vs.toArray := by
   apply Array.toList_inj.1; rw [Array.toList_map]; simpa using h1
  rw [QD] at hf
  subst hmk
  have h3 := VU ht hz hs hzs (Nat.le_of_ble_eq_true hb) (Nat.le_of_ble_eq_true h0) hf w
  rw [← h2] at h3
  simp only [execOp, Sem.run_bind]
  have h4 : (Instr.buildSlice t n (pa.toArray.map fun (i, x) => (i, a.eval x))).run c.P w = .ok (.slice (some ⟨w.heap.size, 0, none⟩) n n) (w.alloc (.cells r.toArray e)) := h3
  rw [h4]; rfl) h
def XL (n e : Nat) (vs : List Value) : GE := QK (ZI n) (.cells (vs.flatMap fun v => v.cells.toList).toArray e (0, 0))
theorem Q4 {z : Value} {cs : Array Value} {t ty : TypeId} {ps : String} {af : Array Edge} {gd : Option (Nat × Bool)} (hk : WM ops.toList k = some ⟨some i, .alloc t, ty, ps, af, gd⟩) (hg : Kx l ops ⟨some i, .alloc t, ty, ps, af, gd⟩ = some true) (hi : Nat.ble (i + 1) c.n = true) (hA : tb k = .grow (QK XG (.cells cs t (0, 0)))) (hz : Qv c.P t = some z) (hc : z.cells = cs)
  (h : ∀ r, HB c d ((i, .pointer (some ⟨r, 0, none⟩)) :: l) ((r, .cells cs t (0, 0)) :: E) X S ops tb rest T) : HB c d l E X S ops tb (k :: rest) T :=
 Jd6 (V := XG) hk hg rfl hi hA (fun a w hf => by simp [execOp, Instr.alloc, Sem.run_bind, VS hz, Result.andThen, newVar, newRow, hc, XG]) h
theorem VQ {α : Type} {x0 : α} {V : α → Value} {LL : α → Jy} {f : Operand} {args : Array Operand} {at_ : Array TypeId} {g : FuncId} {vs : List Value} {ty : TypeId} {ps : String} {af : Array Edge} {gd : Option (Nat × Bool)}
  (hk : WM ops.toList k = some ⟨some i, .call ⟨.value f, args, at_⟩, ty, ps, af, gd⟩) (hg : Kx l ops ⟨some i, .call ⟨.value f, args, at_⟩, ty, ps, af, gd⟩ = some true) (hi : Nat.ble (i + 1) c.n = true) (hA : tb k = .grow (QY x0 V LL)) (hca : Qe l f args = some (g, vs)) (eg : Enters c.P g)
  (hp : PureE c.P g vs.toArray V LL) (h : ∀ x, HB c d ((i, V x) :: l) (LL x ++ E) X S ops tb rest T) : HB c d l E X S ops tb (k :: rest) T :=
 vm (e := QY x0 V LL) hk hg rfl hi hA (fun E' _ a w hf hs => Ym hf hca eg ((hp.run w).mono fun _ _ ⟨x, he, hk, h1, h2⟩ => ⟨V x, he, x, rfl, hk, h1, h2⟩)) h
theorem jm {E' : Jy} (hk : WM ops.toList k = some o) (hg : Kx l ops o = some true) (hd : o.dst = none) (hA : tb k = .turn) (hr : ∀ a w, Fr c.n d l a → St c E X w → ∃ w', (execOp a.eval o).run c.P w = .ok .skip w' ∧ St c E' X w') (hS : SubS S E')
  (h : HB c d l E' X S ops tb rest T) : HB c d l E X S ops tb (k :: rest) T := fun a hf => by
 refine ⟨o, QI hk, ?_⟩
 rw [hA]
 refine .inl ⟨Unit, fun _ => undef, fun _ => E', ⟨JW hf hg, fun w hs => ?_⟩, fun _ => ⟨hS, ?_⟩⟩
 ·obtain ⟨w', h1, h2⟩ := hr a w hf hs
  exact wi h1 ⟨(), rfl, h2⟩
 ·rw [hd]; exact h _ hf
theorem Kl {t ty : TypeId} {ps : String} {af : Array Edge} {gd : Option (Nat × Bool)} {x y : Operand} {q r n : Nat} {cs : Array Value} {ys : List Value} {e : TypeId} {E' : Jy} (hko : WM ops.toList k = some ⟨none, .store t x y, ty, ps, af, gd⟩) (hg : Kx l ops ⟨none, .store t x y, ty, ps, af, gd⟩ = some true) (hA : tb k = .turn)
  (hx : Kz l x = some (.pointer (some ⟨r, 0, none⟩))) (hk : E[q]? = some (r, .cells cs e (0, 0))) (hy : Kz l y = some (.agg ys.toArray)) (ht : Qd c.P t = some n) (hn : ys.length = n) (hcz : cs.size = n) (ho : ys.all QX = true) (hL : E.set q (r, .cells ys.toArray e (0, 0)) = E') (hS : SubS S E')
  (h : HB c d l E' X S ops tb rest T) : HB c d l E X S ops tb (k :: rest) T :=
 jm hko hg rfl hA (fun a w hf hst => ⟨w.setRow r ys.toArray, by
  have hcs : (cs.toList.take 0 ++ ys.toArray.toList ++ cs.toList.drop (0 + n)).toArray = ys.toArray := by
   apply Array.toList_inj.1
   simp [← hcz]
  simp only [execOp]; rw [hf.eval hx, hf.eval hy]
  have h1 := run_storeCells_at (P := c.P) r 0 e ys.toArray.toList 0 cs w (hst.get hk) (by simp [hn]; omega) (fun u hu => by rw [VJ]; exact List.all_eq_true.1 ho u (by simpa using hu))
  simp only [Nat.add_zero, Array.length_toList, List.size_toArray, hn] at h1
  rw [hcs] at h1
  simp [Instr.storeAt, Instr.sureAddr, Sem.run_bind, Result.andThen, storeVar, QG ht, Value.cells, hn, h1], by
  subst hL
  exact hst.set hk (Keep.setRow r ys.toArray) (setRow_heap _ _ _ _ _ _ (hst.get hk))⟩) hS h
theorem WB {t ty : TypeId} {ps : String} {af : Array Edge} {gd : Option (Nat × Bool)} {x y : Operand} {q r off : Nat} {cs cs' : Array Value} {e : TypeId} {E' : Jy} (hko : WM ops.toList k = some ⟨none, .store t x y, ty, ps, af, gd⟩) (hg : Kx l ops ⟨none, .store t x y, ty, ps, af, gd⟩ = some true) (hA : tb k = .turn)
  (hx : Kz l x = some (.pointer (some ⟨r, off, none⟩))) (hk : E[q]? = some (r, .cells cs e (0, 0))) (hy : Kz l y = some v) (ht : Qd c.P t = some 1) (ho : QX v = true) (hc : (cs[off]?).isSome = true)
  (hcs : cs.setIfInBounds off v = cs') (hL : E.set q (r, .cells cs' e (0, 0)) = E') (hS : SubS S E')
  (h : HB c d l E' X S ops tb rest T) : HB c d l E X S ops tb (k :: rest) T :=
 jm hko hg rfl hA (fun a w hf hs => ⟨w.setCell ⟨r, off, none⟩ v, by
  simp only [execOp]; rw [hf.eval hx, hf.eval hy]
  obtain ⟨old, hold⟩ := Option.isSome_iff_exists.1 hc
  have h1 := run_store c.P w ⟨r, off, none⟩ v .plain (by rw [VJ]; exact ho)
  rw [Ve (hs.get hk), hold, YH (hs.get hk) (Jlf off)] at h1
  have hcell : v.cells = #[v] := by cases v <;> first | rfl | cases ho
  simp [Instr.storeAt, Instr.sureAddr, Sem.run_bind, Result.andThen, storeVar, QG ht, hcell, storeCells, Addr.add, h1], by
  subst hL; subst hcs
  exact hs.set hk (Keep.setCell r off v) (Vp v (hs.get hk))⟩) hS h
end
abbrev BS : Type := List UInt8
theorem jn : ∀ a : BS, Op.bytesLess a a = false
 | [] => rfl
 | x :: a => by simp [Op.bytesLess, jn a]
theorem Xo : ∀ {a b c : BS}, Op.bytesLess a b = true → Op.bytesLess b c = true → Op.bytesLess a c = true
 | _, [], _, h, _ => by simp [Op.bytesLess] at h
 | _, _ :: _, [], _, h => by simp [Op.bytesLess] at h
 | [], y :: b, z :: c, _, _ => rfl
 | x :: a, y :: b, z :: c, h, h2 => by
  simp only [Op.bytesLess, Bool.or_eq_true, decide_eq_true_eq, Bool.and_eq_true, beq_iff_eq] at h h2 ⊢
  rcases h with h | ⟨rfl, h⟩
  ·rcases h2 with h2 | ⟨rfl, h2⟩
   ·exact .inl (UInt8.lt_trans h h2)
   ·exact .inl h
  ·rcases h2 with h2 | ⟨rfl, h2⟩
   ·exact .inl h2
   ·exact .inr ⟨rfl, Xo h h2⟩
theorem Jd7 : ∀ a b : BS, a = b ∨ Op.bytesLess a b = true ∨ Op.bytesLess b a = true
 | [], [] => .inl rfl
 | [], _ :: _ => .inr (.inl rfl)
 | _ :: _, [] => .inr (.inr rfl)
 | x :: a, y :: b => by
  simp only [Op.bytesLess, Bool.or_eq_true, decide_eq_true_eq, Bool.and_eq_true, beq_iff_eq]
  by_cases h1 : x < y
  ·exact .inr (.inl (.inl h1))
  by_cases h2 : y < x
  ·exact .inr (.inr (.inl h2))
  have e : x = y := UInt8.le_antisymm (UInt8.not_lt.1 h2) (UInt8.not_lt.1 h1)
  subst e
  rcases Jd7 a b with rfl | h | h
  ·exact .inl rfl
  ·exact .inr (.inl (.inr ⟨rfl, h⟩))
  ·exact .inr (.inr (.inr ⟨rfl, h⟩))
theorem Jko {a b : BS} (h : Op.bytesLess a b = true) : a ≠ b := by rintro rfl; rw [jn] at h; cases h
theorem Jlr {a b : BS} (h : Op.bytesLess a b = false) (hn : a ≠ b) : Op.bytesLess b a = true := by
 rcases Jd7 a b with h1 | h1 | h1
 ·exact absurd h1 hn
 ·rw [h] at h1; cases h1
 ·exact h1
section
variable {α : Type} (kf : α → BS)
def YV : List α → Bool
 | [] => true
 | [_] => true
 | x :: y :: l => Op.bytesLess (kf x) (kf y) && YV (y :: l)
abbrev QR (l : List α) : Prop := l.Pairwise fun x y => Op.bytesLess (kf x) (kf y) = true
theorem YW : ∀ l : List α, YV kf l = true ↔ QR kf l
 | [] => by simp [YV]
 | [_] => by simp [YV]
 | x :: y :: l => by
  rw [YV, Bool.and_eq_true, YW (y :: l)]
  refine Iff.trans ?_ List.pairwise_cons.symm
  constructor
  ·rintro ⟨h1, h2⟩
   refine ⟨fun z hz => ?_, h2⟩
   rcases List.mem_cons.1 hz with rfl | hz
   ·exact h1
   ·exact Xo h1 ((List.pairwise_cons.1 h2).1 z hz)
  ·rintro ⟨h1, h2⟩
   exact ⟨h1 y List.mem_cons_self, h2⟩
def Wb (k : BS) (l : List α) : Option α := l.find? fun x => kf x == k
def jo (x : α) : List α → List α
 | [] => [x]
 | y :: ys => if Op.bytesLess (kf y) (kf x) then y :: jo x ys else if kf y = kf x then x :: ys else x :: y :: ys
def Jby (k : BS) (l : List α) : List α := l.filter fun y => !(kf y == k)
variable {kf}
theorem QB {k : BS} {y : α} {l : List α} : Wb kf k (y :: l) = if kf y = k then some y else Wb kf k l := by
 unfold Wb
 rw [List.find?_cons]
 by_cases h : kf y = k
 ·simp [h]
 ·rw [if_neg h, show (kf y == k) = false from by simpa using h]
theorem qn {k : BS} {y : α} {l : List α} (h : Wb kf k l = some y) : kf y = k ∧ y ∈ l := ⟨by have := List.find?_some h; simpa using this, List.mem_of_find?_eq_some h⟩
theorem qo {y : α} : ∀ {l : List α}, QR kf l → y ∈ l → Wb kf (kf y) l = some y
 | z :: l, hs, hm => by
  rw [QB]
  obtain ⟨h1, h2⟩ := List.pairwise_cons.1 hs
  rcases List.mem_cons.1 hm with rfl | hm
  ·rw [if_pos rfl]
  ·rw [if_neg (Jko (h1 y hm)), qo h2 hm]
theorem vn {x y : α} : ∀ {l : List α}, y ∈ jo kf x l → y = x ∨ y ∈ l
 | [], h => by simpa [jo] using h
 | z :: l, h => by
  unfold jo at h
  split at h
  ·rcases List.mem_cons.1 h with rfl | h
   ·exact .inr List.mem_cons_self
   ·exact (vn h).elim .inl fun h => .inr (List.mem_cons_of_mem _ h)
  ·split at h
   ·rcases List.mem_cons.1 h with rfl | h
    ·exact .inl rfl
    ·exact .inr (List.mem_cons_of_mem _ h)
   ·exact List.mem_cons.1 h
theorem jp {x : α} : ∀ {l : List α}, QR kf l → QR kf (jo kf x l)
 | [], _ => by simp [jo]
 | z :: l, h => by
  obtain ⟨h1, h2⟩ := List.pairwise_cons.1 h
  unfold jo
  split
  ·rename_i hz
   refine List.pairwise_cons.2 ⟨fun y hy => ?_, jp h2⟩
   rcases vn hy with rfl | hy
   ·exact hz
   ·exact h1 y hy
  ·rename_i hz
   split
   ·rename_i he
    exact List.pairwise_cons.2 ⟨fun y hy => he ▸ h1 y hy, h2⟩
   ·rename_i he
    have hx := Jlr (by simpa using hz) he
    refine List.pairwise_cons.2 ⟨fun y hy => ?_, h⟩
    rcases List.mem_cons.1 hy with rfl | hy
    ·exact hx
    ·exact Xo hx (h1 y hy)
theorem ww {x : α} {k : BS} : ∀ {l : List α}, QR kf l → Wb kf k (jo kf x l) = if kf x = k then some x else Wb kf k l
 | [], _ => by unfold jo; rw [QB]
 | z :: l, h => by
  obtain ⟨h1, h2⟩ := List.pairwise_cons.1 h
  unfold jo
  split
  ·rename_i hz
   rw [QB, QB, ww h2]
   by_cases hk : kf z = k
   ·subst hk
    rw [if_pos rfl, if_neg (fun e => Jko hz e.symm), if_pos rfl]
   ·rw [if_neg hk, if_neg hk]
  ·split
   ·rename_i he
    rw [QB, QB, he]
    split <;> rfl
   ·rw [QB]
theorem zm {k : BS} {l : List α} (h : QR kf l) : QR kf (Jby kf k l) := h.filter _
theorem wx {k j : BS} : ∀ {l : List α}, Wb kf j (Jby kf k l) = if k = j then none else Wb kf j l
 | [] => by simp [Jby, Wb]
 | z :: l => by
  have ih := wx (k := k) (j := j) (l := l)
  unfold Jby at ih ⊢
  rw [List.filter_cons, QB]
  by_cases hz : kf z = k
  ·subst hz
   rw [if_neg (by simp), ih]
   split
   ·rfl
   ·rfl
  ·rw [if_pos (by simpa using hz), QB, ih]
   by_cases hj : kf z = j
   ·subst hj
    rw [if_pos rfl, if_pos rfl, if_neg (fun e => hz e.symm)]
   ·rw [if_neg hj, if_neg hj]
theorem Jhz {k : BS} {l : List α} {y : α} (h : y ∈ Jby kf k l) : y ∈ l := (List.mem_filter.1 h).1
end
def Wd : BS := List.replicate 32 0
structure W4 : Type where
  a : Nat
  b : Nat
  c : Nat
  d : Nat
deriving DecidableEq
def W4.l (w : W4) : List Nat := [w.a, w.b, w.c, w.d]
def w40 : W4 := ⟨0, 0, 0, 0⟩
def W4.of (l : List Nat) : W4 := ⟨l.getD 0 0, l.getD 1 0, l.getD 2 0, l.getD 3 0⟩
theorem W4.of_l {l : List Nat} (h : l.length = 4) : (W4.of l).l = l := by
 match l, h with
 | [a, b, c, d], _ => rfl
theorem W4.l_inj {x y : W4} (h : x.l = y.l) : x = y := by
 cases x; cases y; simp [W4.l] at h; simp [h]
structure AcE : Type where
  addr : BS
  nonce : Nat
  bal : W4
  code : BS
  slots : List (BS × BS)
deriving DecidableEq
def ac0 : AcE := ⟨[], 0, w40, [], []⟩
def Jh0 (x : BS × BS) : Bool := decide (x.1.length ≠ 32) || decide (x.2.length ≠ 32)
def vo (x : BS × BS) : Bool := decide (x.2 = Wd)
def jM (a : AcE) : Int := if a.addr.length ≠ 20 ∨ a.slots.any Jh0 = true then 2 else if YV Prod.fst a.slots = false then 11 else if a.code.length > 512 ∨ a.slots.length > 16 then 5 else if a.slots.any vo = true then 8 else 0
def xS (last : Option BS) (a : AcE) : Int := if jM a ≠ 2 ∧ (∃ b, last = some b ∧ Op.bytesLess b a.addr = false) then 11 else jM a
instance (last : Option BS) (a : AcE) : Decidable (∃ b, last = some b ∧ Op.bytesLess b a.addr = false) := match last with
  | none => .isFalse (by simp)
  | some b => if h : Op.bytesLess b a.addr = false then .isTrue ⟨b, rfl, h⟩ else .isFalse (by simpa using h)
def goS : Option BS → List AcE → Int
 | _, [] => 0
 | last, a :: l => if xS last a ≠ 0 then xS last a else goS (some a.addr) l
def zn (s : List AcE) : Int := if s.length > 32 then 5 else goS none s
def VH (s : List AcE) (k : BS) : Option AcE := Wb AcE.addr k s
def QL (a : AcE) (k : BS) : BS := match Wb Prod.fst k a.slots with
 | some x => x.2
 | none => Wd
def Wn (l : List (BS × BS)) (k v : BS) : List (BS × BS) := if v = Wd then Jby Prod.fst k l else jo Prod.fst (k, v) l
def Jd8 (a : AcE) (k v : BS) : AcE × Int := if jM a ≠ 0 then (a, jM a) else if k.length ≠ 32 ∨ v.length ≠ 32 then (a, 2) else if (Wn a.slots k v).length > 16 then (a, 5) else ({ a with slots := Wn a.slots k v }, 0)
theorem Yt {a : AcE} (h : jM a = 0) : a.addr.length = 20 ∧ (∀ x ∈ a.slots, x.1.length = 32 ∧ x.2.length = 32 ∧ x.2 ≠ Wd) ∧ QR Prod.fst a.slots ∧ a.code.length ≤ 512 ∧ a.slots.length ≤ 16 := by
 unfold jM at h
 split at h
 ·cases h
 rename_i h1
 split at h
 ·cases h
 rename_i h2
 split at h
 ·cases h
 rename_i h3
 split at h
 ·cases h
 rename_i h4
 simp only [not_or, Decidable.not_not] at h1 h3
 refine ⟨h1.1, fun x hx => ?_, (YW _ _).1 (by simpa using h2), by omega, by omega⟩
 have a1 := h1.2
 simp only [Bool.not_eq_true, List.any_eq_false] at a1 h4
 have := a1 x hx
 have h5 := h4 x hx
 unfold Jh0 at this
 unfold vo at h5
 simp at this h5
 exact ⟨this.1, this.2, h5⟩
theorem Jh1 {a : AcE} (h1 : a.addr.length = 20) (h2 : ∀ x ∈ a.slots, x.1.length = 32 ∧ x.2.length = 32 ∧ x.2 ≠ Wd) (h3 : QR Prod.fst a.slots) (h4 : a.code.length ≤ 512) (h5 : a.slots.length ≤ 16) : jM a = 0 := by
 unfold jM
 have e1 : ¬ a.slots.any Jh0 = true := by
  simp only [Bool.not_eq_true, List.any_eq_false]
  intro x hx
  obtain ⟨a1, a2, _⟩ := h2 x hx
  simp [Jh0, a1, a2]
 have e2 : ¬ a.slots.any vo = true := by
  simp only [Bool.not_eq_true, List.any_eq_false]
  intro x hx
  obtain ⟨_, _, a3⟩ := h2 x hx
  simp [vo, a3]
 have e3 := (YW Prod.fst a.slots).2 h3
 rw [if_neg (fun h => h.elim (fun h => h h1) e1), if_neg (by rw [e3]; simp), if_neg (by omega), if_neg e2]
theorem xT {last : Option BS} {a : AcE} : xS last a = 0 ↔ jM a = 0 ∧ ∀ b, last = some b → Op.bytesLess b a.addr = true := by
 unfold xS
 split
 ·rename_i h
  obtain ⟨h1, b, h2, h3⟩ := h
  constructor
  ·intro h; cases h
  ·rintro ⟨_, h⟩; rw [h b h2] at h3; cases h3
 ·rename_i h
  constructor
  ·intro h0
   refine ⟨h0, fun b hb => ?_⟩
   cases h4 : Op.bytesLess b a.addr
   ·exact absurd ⟨by omega, b, hb, h4⟩ h
   ·rfl
  ·exact fun h => h.1
theorem Jkp : ∀ {last : Option BS} {s : List AcE}, goS last s = 0 ↔ (∀ a ∈ s, jM a = 0) ∧ QR AcE.addr s ∧ (∀ b, last = some b → ∀ a ∈ s, Op.bytesLess b a.addr = true)
 | last, [] => by simp [goS]
 | last, a :: l => by
  rw [goS]
  split
  ·rename_i h
   constructor
   ·intro h0; exact absurd h0 h
   ·rintro ⟨h1, h2, h3⟩
    exact absurd (xT.2 ⟨h1 a List.mem_cons_self, fun b hb => h3 b hb a List.mem_cons_self⟩) h
  ·rename_i h
   have h := xT.1 (Decidable.not_not.1 h)
   rw [Jkp]
   constructor
   ·rintro ⟨h1, h2, h3⟩
    refine ⟨fun x hx => ?_, List.pairwise_cons.2 ⟨fun x hx => h3 _ rfl x hx, h2⟩, fun b hb x hx => ?_⟩
    ·rcases List.mem_cons.1 hx with rfl | hx
     ·exact h.1
     ·exact h1 x hx
    ·rcases List.mem_cons.1 hx with rfl | hx
     ·exact h.2 b hb
     ·exact Xo (h.2 b hb) (h3 _ rfl x hx)
   ·rintro ⟨h1, h2, h3⟩
    obtain ⟨h4, h5⟩ := List.pairwise_cons.1 h2
    exact ⟨fun x hx => h1 x (List.mem_cons_of_mem _ hx), h5, fun b hb x hx => by cases hb; exact h4 x hx⟩
theorem Jls {s : List AcE} : zn s = 0 ↔ s.length ≤ 32 ∧ (∀ a ∈ s, jM a = 0) ∧ QR AcE.addr s := by
 unfold zn
 split
 ·constructor
  ·intro h; cases h
  ·rintro ⟨h, _⟩; omega
 ·rw [Jkp]
  constructor
  ·rintro ⟨h1, h2, _⟩; exact ⟨by omega, h1, h2⟩
  ·rintro ⟨_, h1, h2⟩; exact ⟨h1, h2, by simp⟩
structure PureT {α : Type} (P : Program) (f : FuncId) (args : Array Value) (V : α → Value) (T : Jy) (LL : α → Jy) (Rl : Jy) : Prop where
  run : ∀ w, YI T w → YI Rl w → (T.Pairwise fun p q => p.1 ≠ q.1) → (∀ p ∈ Rl, ∀ q ∈ T, p.1 ≠ q.1) → Calls P f args w fun e w' => ∃ x, e = .returned (V x) ∧ Keep (T.map (·.1)) w w' ∧ (∀ p ∈ LL x, (p.1 ∈ T.map (·.1) ∨ w.heap.size ≤ p.1) ∧ w'.heap[p.1]? = some p.2) ∧ (LL x).Pairwise fun p q => p.1 ≠ q.1
def wy (P : Program) (w : World) (T Rl : Jy) (n : Nat) : Cx := ⟨P, none, w, T.map (·.1), [], Rl, n⟩
theorem St.startT {P : Program} {w : World} {n : Nat} {T Rl : Jy} (hT : YI T w) (hR : YI Rl w) (hd : T.Pairwise fun p q => p.1 ≠ q.1) (hne : ∀ p ∈ Rl, ∀ q ∈ T, p.1 ≠ q.1) : St (wy P w T Rl n) T (fun _ _ => True) w :=
 ⟨Keep.refl _ _, fun p hp => ⟨.inl (List.mem_map.2 ⟨p, hp, rfl⟩), by simp [wy], hT p hp⟩, hd, fun p hp => ⟨fun h => by obtain ⟨q, hq, e⟩ := List.mem_map.1 h; exact hne p hp q hq e.symm, by simp [wy], hR p hp⟩, by simp [wy], ⟨[], by simp, fun _ _ => trivial⟩⟩
theorem J1 {α : Type} {P : Program} {f : FuncId} {fn : Func} {code : Code} {vs : List Value} {V : α → Value} {T Rl : Jy} {LL : α → Jy} (hf : P.funcs[f]? = some fn) (hb : fn.body = some code) (hlen : Nat.ble vs.length fn.ntmps = true)
  (h : ∀ w, HC (wy P w T Rl fn.ntmps) [] (Vr 0 vs) T (fun _ _ => True) code (bodyPostM (FW none) 0 P fn (fun e w' => ∃ x, e = .returned (V x) ∧ St (wy P w T Rl fn.ntmps) (LL x) (fun _ _ => True) w'))) : PureT P f vs.toArray V T LL Rl := ⟨fun w hT hR hd hne =>
 (QP (wy P w T Rl fn.ntmps) hf hb rfl rfl rfl hlen (St.startT hT hR hd hne) (h w)).mono fun _ _ ⟨x, he, hs⟩ => ⟨x, he, by have := hs.keep; simpa [wy] using this, fun p hp => ⟨(hs.own p hp).1, (hs.own p hp).2.2⟩, hs.distinct⟩⟩
section
variable {c : Cx} {l : KK} {L : Jy} {X : XP} {Q : Exit → Act → World → Prop} {d : List Deferred}
variable {ops : Array Oper} {rest : List Oper} {i : Nat} {v : Value} {t : TypeId} {ps : String} {af : Array Edge} {gd : Option (Nat × Bool)} {ty t2 : TypeId}
theorem St.turnT {T L0 LL : Jy} {w w' : World} (hs : St c (T ++ L0) X w) (hk : Keep (T.map (·.1)) w w') (hL : ∀ p ∈ LL, (p.1 ∈ T.map (·.1) ∨ w.heap.size ≤ p.1) ∧ w'.heap[p.1]? = some p.2) (hd : LL.Pairwise fun p q => p.1 ≠ q.1) : St c (LL ++ L0) X w' := by
 have hT : ∀ p ∈ T, p ∈ T ++ L0 := fun p hp => List.mem_append_left _ hp
 have hle := hs.keep.size
 obtain ⟨hd1, hd2, hd3⟩ := List.pairwise_append.1 hs.distinct
 have hin : ∀ k ∈ T.map (·.1), ∃ p ∈ T, p.1 = k := fun k hk => by obtain ⟨p, hp, e⟩ := List.mem_map.1 hk; exact ⟨p, hp, e⟩
 refine ⟨hs.keep.glue hk ?_, fun p hp => ?_, ?_, hs.ext, hs.xlt, ?_⟩
 ·intro k hk
  obtain ⟨p, hp, rfl⟩ := hin k hk
  exact (hs.own p (hT p hp)).1.imp (fun h => List.mem_append_left _ h) id
 ·rcases List.mem_append.1 hp with hp | hp
  ·obtain ⟨h1, h2⟩ := hL p hp
   rcases h1 with h1 | h1
   ·obtain ⟨q, hq, e⟩ := hin _ h1
    obtain ⟨g1, g2, _⟩ := hs.own q (hT q hq)
    rw [e] at g1 g2
    exact ⟨g1, g2, h2⟩
   ·exact ⟨.inr (by omega), fun hx => (by have := hs.xlt _ hx; omega), h2⟩
  ·obtain ⟨g1, g2, g3⟩ := hs.own p (List.mem_append_right _ hp)
   refine ⟨g1, g2, ?_⟩
   rw [hk.block _ (J6 g3) (fun h => by obtain ⟨q, hq, e⟩ := hin _ h; exact hd3 q hq p hp e)]
   exact g3
 ·refine List.pairwise_append.2 ⟨hd, hd2, fun p hp q hq => ?_⟩
  rcases (hL p hp).1 with h1 | h1
  ·obtain ⟨u, hu, e⟩ := hin _ h1
   rw [← e]; exact hd3 u hu q hq
  ·have := J6 (hs.own q (List.mem_append_right _ hq)).2.2
   omega
 ·obtain ⟨xs, e1, e2⟩ := hs.x
  refine ⟨xs, fun k hkx => ?_, fun w2 hw2 => e2 w2 fun k hkx => (hw2 k hkx).trans (hk.block k (e1 k hkx).2.1 (fun h => by obtain ⟨q, hq, e⟩ := hin _ h; exact (e1 k hkx).2.2 q (hT q hq) e))⟩
  obtain ⟨a1, a2, a3⟩ := e1 k hkx
  refine ⟨a1, Nat.lt_of_lt_of_le a2 hk.size, fun p hp => ?_⟩
  rcases List.mem_append.1 hp with hp | hp
  ·rcases (hL p hp).1 with h1 | h1
   ·obtain ⟨u, hu, e⟩ := hin _ h1
    rw [← e]; exact a3 u (hT u hu)
   ·omega
  ·exact a3 p (List.mem_append_right _ hp)
theorem J9 {α : Type} {T L0 Rl : Jy} {f : Operand} {args : Array Operand} {at_ : Array TypeId} {g : FuncId} {vs : List Value} {V : α → Value} {LL : α → Jy}
  (hp : L.Perm (T ++ L0)) (hg : Kx l ops ⟨some i, .call ⟨.value f, args, at_⟩, ty, ps, af, gd⟩ = some true) (hi : Nat.ble (i + 1) c.n = true) (hca : Qe l f args = some (g, vs)) (eg : Enters c.P g)
  (hpt : PureT c.P g vs.toArray V T LL Rl) (hR : ∀ p ∈ Rl, known c L0 p.1 p.2) (h : ∀ x, HL c d ((i, V x) :: l) (LL x ++ L0) X ops rest Q) : HL c d l L X ops (⟨some i, .call ⟨.value f, args, at_⟩, ty, ps, af, gd⟩ :: rest) Q :=
 Xl (V := V) (L' := fun x => LL x ++ L0) (X' := fun _ => X) hg hi hca eg (fun w hs => by
  have hs := hs.perm hp
  obtain ⟨hd1, _, hd3⟩ := List.pairwise_append.1 hs.distinct
  refine (hpt.run w (fun p hp => (hs.own p (List.mem_append_left _ hp)).2.2) (fun p hp => ?_) hd1 (fun p hp q hq => ?_)).mono fun _ _ ⟨x, he, hk, h1, h2⟩ => ⟨x, he, hs.turnT hk h1 h2⟩
  ·exact (hR p hp).elim (fun h => (hs.own _ (List.mem_append_right _ h)).2.2) hs.readR
  ·rcases hR p hp with h | h
   ·exact fun e => hd3 q hq _ h e.symm
   ·rintro e
    obtain ⟨h1, _, h3⟩ := hs.ext _ h
    have h3 := J6 h3
    rcases (hs.own q (List.mem_append_left _ hq)).1 with h4 | h4
    ·exact h1 (e ▸ h4)
    ·simp only at h3 e; omega) h
theorem Ka {α : Type} {Rl : Jy} {f : Operand} {args : Array Operand} {at_ : Array TypeId} {g : FuncId} {vs : List Value} {V : α → Value} {LL : α → Jy}
  (hg : Kx l ops ⟨some i, .call ⟨.value f, args, at_⟩, ty, ps, af, gd⟩ = some true) (hi : Nat.ble (i + 1) c.n = true) (hca : Qe l f args = some (g, vs)) (eg : Enters c.P g)
  (hpt : PureT c.P g vs.toArray V [] LL Rl) (hR : ∀ p ∈ Rl, known c L p.1 p.2) (h : ∀ x, HL c d ((i, V x) :: l) (LL x ++ L) X ops rest Q) : HL c d l L X ops (⟨some i, .call ⟨.value f, args, at_⟩, ty, ps, af, gd⟩ :: rest) Q :=
 J9 (T := []) (L0 := L) (List.Perm.refl _) hg hi hca eg hpt hR h
theorem PureR.toT {P : Program} {f : FuncId} {args : Array Value} {v : Value} {Rl : Jy} (h : PureR P f args v Rl) : PureT (α := Unit) P f args (fun _ => v) [] (fun _ => []) Rl :=
 ⟨fun w _ hR _ _ => (h.run w hR).mono fun _ _ ⟨he, hk⟩ => ⟨(), he, hk, by simp, List.Pairwise.nil⟩⟩
theorem PureT.map {α β : Type} {P : Program} {f : FuncId} {args : Array Value} {V : α → Value} {V' : β → Value} {T Rl : Jy} {LL : α → Jy} {LL' : β → Jy} (h : PureT P f args V T LL Rl) (g : α → β) (hv : ∀ x, V x = V' (g x)) (hl : ∀ x, (LL' (g x)).Sublist (LL x)) : PureT P f args V' T LL' Rl :=
 ⟨fun w hT hR hd hne => (h.run w hT hR hd hne).mono fun _ _ ⟨x, he, hk, h1, h2⟩ => ⟨g x, he.trans (by rw [hv]), hk, fun p hp => h1 p ((hl x).subset hp), h2.sublist (hl x)⟩⟩
theorem jq (z : Array Value) (n : Nat) : (Builtin.zeroCells z n).toList = (List.range (n * z.size)).map (fun i => z.toList.getD (i % z.size) default) := by
 unfold Builtin.zeroCells
 simp
 intro a _
 rw [getElem!_def]
 cases z[a % z.size]? <;> rfl
theorem Jh2 {o : Oper} {L' : Jy} (hg : Kx l ops o = some true) (hn : Kq o.op = true) (hd : o.dst = none)
  (hr : ∀ a w, Fr c.n d l a → St c L X w → ∃ w', (execOp a.eval o).run c.P w = .ok (.value v) w' ∧ St c L' X w') (h : HL c d l L' X ops rest Q) : HL c d l L X ops (o :: rest) Q := fun a w hf hs => by
 obtain ⟨w', h1, h2⟩ := hr a w hf hs
 refine Q0 (JW hf hg) hn ?_
 rw [h1, Oper.uponIn_value, hd]
 exact h a w' hf h2
theorem Jbz {x : Operand} {e sz k r off n cap : Nat} {z : Value} {cs : Array Value} {e1 : TypeId} {cs' : List Value} {L' : Jy}
  (hg : Kx l ops ⟨none, .call ⟨.builtin .clear, #[x], #[t]⟩, ty, ps, af, gd⟩ = some true)
  (hx : Kz l x = some (.slice (some ⟨r, off, none⟩) n cap)) (hk : L[k]? = some (r, .cells cs e1 (0, 0))) (ht : KI c.P t = some e) (hz : Qv c.P e = some z) (hs : z.cells.size = sz) (hone : z.cells.toList.all QX = true) (hsz : 0 < sz) (hfit : off + n * sz ≤ cs.size)
  (hcs : cs.toList.take off ++ (Builtin.zeroCells z.cells n).toList ++ cs.toList.drop (off + n * sz) = cs') (hL : L.set k (r, .cells cs'.toArray e1 (0, 0)) = L')
  (h : HL c d l L' X ops rest Q) : HL c d l L X ops (⟨none, .call ⟨.builtin .clear, #[x], #[t]⟩, ty, ps, af, gd⟩ :: rest) Q := by
 have hlen : (Builtin.zeroCells z.cells n).toList.length = n * sz := by rw [Array.length_toList, size_zeroCells, hs]
 have hone' : ∀ u ∈ (Builtin.zeroCells z.cells n).toList, u.oneCell' = true := fun u hu => by
  rw [jq] at hu
  obtain ⟨j, hj, rfl⟩ := List.mem_map.1 hu
  rw [VJ]
  have hj2 : j % z.cells.size < z.cells.toList.length := by rw [Array.length_toList]; exact Nat.mod_lt _ (by omega)
  rw [List.getD_eq_getElem?_getD, List.getElem?_eq_getElem hj2]
  exact List.all_eq_true.1 hone _ (List.getElem_mem _)
 refine Jh2 (v := .tuple #[]) (L' := L') hg rfl rfl (fun a w hf hst => ?_) h
 have ex := hf.eval hx
 have hst2 := run_storeCells_at (P := c.P) r off e1 (Builtin.zeroCells z.cells n).toList 0 cs w (hst.get hk) (by rw [Nat.add_zero, hlen]; exact hfit) hone'
 rw [Nat.add_zero, hlen, hcs] at hst2
 cases n with
 | zero =>
  refine ⟨w, ?_, ?_⟩
  ·simp [execOp, resolve, Sem.run_bind, ex, Result.andThen, invoke, builtin, Builtin.clear_, KO (Kj ht)]
  ·have : cs' = cs.toList := by
    rw [← hcs]
    have : (Builtin.zeroCells z.cells 0).toList = [] := List.length_eq_zero_iff.1 (by rw [hlen, Nat.zero_mul])
    rw [this, List.append_nil, Nat.zero_mul, Nat.add_zero, List.take_append_drop]
   rw [this] at hL
   have e2 : L.set k (r, .cells cs.toList.toArray e1 (0, 0)) = L := by
    obtain ⟨h1, h2⟩ := List.getElem?_eq_some_iff.1 hk
    rw [Array.toArray_toList, ← h2, List.set_getElem_self]
   rw [e2] at hL
   exact hL ▸ hst
 | succ n =>
  refine ⟨w.setRow r cs'.toArray, ?_, hL ▸ hst.set hk (Keep.setRow r cs'.toArray) (setRow_heap _ _ _ _ _ _ (hst.get hk))⟩
  simp [execOp, resolve, Sem.run_bind, ex, Result.andThen, invoke, builtin, Builtin.clear_, KO (Kj ht), VS hz, hst2]
end
section
variable {H : Type} {enc : TypeId × Value → H} {P : Program} {w : World} {base : Nat} {sp : Nat → Bool} {held : Bool}
theorem qp {a : Addr} {m : Nat} {cs : List Value} (h : w.cells? base a m = some cs) : cs.length = m ∧ ∀ i, i < m → w.cell? (a.add i) = cs[i]? := by
 unfold World.cells? at h
 split at h
 ·exact ⟨by simpa using mapM_some_length h, fun i hi => mapM_some_get h i i (by simp [hi])⟩
 ·cases h
theorem zo {a : Addr} {v : Value} (h : w.cell? a = some v) : a.spot = none ∧ ∃ all e fr, w.heap[a.block]? = some (.cells all e fr) ∧ all[a.off]? = some v := by
 unfold World.cell? at h
 split at h
 ·rename_i c e fr hc
  split at h
  ·cases h
  ·rename_i hs
   exact ⟨by simpa using hs, c, e, fr, hc, h⟩
 ·cases h
theorem zp {b o m : Nat} {cs : List Value} {all : Array Value} {e : TypeId} {fr : Nat × Nat} (h : w.cells? base ⟨b, o, none⟩ m = some cs) (hb : w.heap[b]? = some (.cells all e fr)) : (all.toList.drop o).take m = cs := by
 obtain ⟨hl, hg⟩ := qp h
 apply List.ext_getElem?
 intro i
 rw [List.getElem?_take]
 split
 ·rename_i hi
  rw [← hg i hi, V9, List.getElem?_drop, Array.getElem?_toList]
  simp only [World.cell?, hb]
  rfl
 ·rename_i hi
  rw [List.getElem?_eq_none (by omega)]
theorem wz {α : Type} {f : α → List Value} {m b : Nat} {all : Array Value} {e : TypeId} {fr : Nat × Nat} (hb : w.heap[b]? = some (.cells all e fr)) :
  ∀ (l : List α) (o : Nat), (∀ i x, l[i]? = some x → w.cells? base ⟨b, o + i * m, none⟩ m = some (f x)) → (all.toList.drop o).take (l.length * m) = l.flatMap f
 | [], o, _ => by simp
 | y :: l, o, h => by
  have h0 := zp (h 0 y rfl) hb
  have hr := wz hb l (o + m) (fun i x hx => by
   have := h (i + 1) x hx
   rwa [Nat.succ_mul, Nat.add_comm (i * m) m, ← Nat.add_assoc] at this)
  rw [Nat.zero_mul, Nat.add_zero] at h0
  rw [List.length_cons, Nat.succ_mul, Nat.add_comm, List.take_add, h0, List.drop_drop, hr, List.flatMap_cons]
theorem vp {α : Type} {f : α → List Value} {m : Nat} (hm : 0 < m) (hf : ∀ x, (f x).length = m) {l : List α} {a : Addr} {cap : Nat} (hle : l.length ≤ cap) (h : ∀ i x, l[i]? = some x → w.cells? base (a.add (i * m)) m = some (f x)) :
  Seg (jh w) l.length (l.flatMap f) (some (a, cap)) := by
 refine ⟨hle, fun h0 => ?_⟩
 obtain ⟨y, hy⟩ : ∃ y, l[0]? = some y := ⟨_, List.getElem?_eq_getElem h0⟩
 have h1 := h 0 y hy
 rw [Nat.zero_mul] at h1
 have e0 : a.add 0 = a := by simp [Addr.add]
 rw [e0] at h1
 obtain ⟨hl, hg⟩ := qp h1
 have h2 := hg 0 hm
 rw [e0] at h2
 obtain ⟨v, hv⟩ : ∃ v, (f y)[0]? = some v := ⟨_, List.getElem?_eq_getElem (by omega)⟩
 rw [hv] at h2
 obtain ⟨hs, all, e, fr, hb, _⟩ := zo h2
 refine ⟨hs, all, e, fr, Jd1 hb, ?_⟩
 rw [ZL hf]
 refine wz (base := base) hb l a.off fun i x hx => ?_
 have := h i x hx
 have e1 : a.add (i * m) = ⟨a.block, a.off + i * m, none⟩ := by
  obtain ⟨b, o, s⟩ := a
  have : s = none := hs
  subst this
  exact V9 _ _ _
 rwa [e1] at this
theorem Zp {α : Type} {Q : Nat → α → Prop} : ∀ (n : Nat), (∀ i, i < n → ∃ x, Q i x) → ∃ l : List α, l.length = n ∧ ∀ i x, l[i]? = some x → Q i x
 | 0, _ => ⟨[], rfl, fun i x h => by simp at h⟩
 | n + 1, h => by
  obtain ⟨l, hl, hq⟩ := Zp n (fun i hi => h i (by omega))
  obtain ⟨x, hx⟩ := h n (by omega)
  refine ⟨l ++ [x], by simp [hl], fun i y hy => ?_⟩
  rw [List.getElem?_append] at hy
  split at hy
  ·exact hq i y hy
  ·rename_i hi
   have hn : i = n := by
    have := (List.getElem?_eq_some_iff.1 hy).1
    simp at this; omega
   subst hn
   rw [hl, Nat.sub_self] at hy
   obtain rfl : x = y := by simpa using hy
   exact hx
theorem VC {α : Type} {f : α → List Value} {ok : α → Prop} {m t e fuel : Nat} {cs : List Value} {x : DataW H × List MemPlace} (hm : 0 < m) (hf : ∀ x, (f x).length = m) (ht : P.underlying t = some (.slice e)) (hc : P.cellsOf e = m)
  (hE : ∀ n, n < fuel → ∀ cs x, DataW.trod enc P w base sp held n e cs = some x → ∃ y, cs = f y ∧ ok y)
  (h : DataW.trod enc P w base sp held fuel t cs = some x) : ∃ (l : List α) (p : Pl), cs = [Ky l.length p] ∧ Seg (jh w) l.length (l.flatMap f) p ∧ l.length ≤ 9223372036854775807 ∧ ∀ y ∈ l, ok y := by
 rcases DataW.trod_slice ht h with ⟨rfl, _⟩ | ⟨a, len, cap, elems, rest, n, hn, rfl, _, _, hlc, hcm, hlen, hel, _⟩
 ·exact ⟨[], none, rfl, rfl, by simp, fun y hy => by simp at hy⟩
 ·have hex : ∀ i, i < len → ∃ y, w.cells? base (a.add (i * m)) m = some (f y) ∧ ok y := by
   intro i hi
   have h1 := hel i hi
   rw [hc] at h1
   obtain ⟨z, hz⟩ : ∃ z, elems[i]? = some z := ⟨_, List.getElem?_eq_getElem (by omega)⟩
   rw [hz, Option.bind_eq_some_iff] at h1
   obtain ⟨cs1, h2, h3⟩ := h1
   obtain ⟨y, rfl, hy⟩ := hE n (by omega) _ _ h3
   exact ⟨y, h2, hy⟩
  obtain ⟨l, rfl, hq⟩ := Zp len hex
  have hcap : cap ≤ 9223372036854775807 := by simpa [maxLen] using hcm
  refine ⟨l, some (a, cap), rfl, vp hm hf hlc (fun i y hy => (hq i y hy).1), by omega, fun y hy => ?_⟩
  obtain ⟨i, hi, rfl⟩ := List.mem_iff_getElem.1 hy
  exact (hq i _ (List.getElem?_eq_getElem hi)).2
theorem JR {t tf off m fuel i : Nat} {fs : Array Field} {cs : List Value} {x : DataW H × List MemPlace} (ht : P.underlying t = some (.struct fs)) (hi : (fs[i]?).map (fun f => (f.type, f.offset)) = some (tf, off)) (hm : P.cellsOf tf = m)
  (h : DataW.trod enc P w base sp held fuel t cs = some x) : ∃ n y, n < fuel ∧ DataW.trod enc P w base sp held n tf ((cs.drop off).take m) = some y := by
 obtain ⟨xs, n, rfl, _, _, hl, hg⟩ := DataW.trod_struct ht h
 obtain ⟨f, hf, he⟩ := Option.map_eq_some_iff.1 hi
 obtain ⟨rfl, rfl⟩ := Prod.mk.inj he
 have hi2 : i < xs.length := by rw [hl]; exact (Array.getElem?_eq_some_iff.1 hf).1
 subst hm
 exact ⟨n, xs[i], by omega, by rw [hg i f hf]; exact List.getElem?_eq_getElem hi2⟩
theorem WC {t m fuel : Nat} {fs : Array Field} {cs : List Value} {x : DataW H × List MemPlace} (ht : P.underlying t = some (.struct fs)) (hm : P.cellsOf t = m) (h : DataW.trod enc P w base sp held fuel t cs = some x) : cs.length = m := by
 obtain ⟨xs, n, rfl, _, hl, _, _⟩ := DataW.trod_struct ht h
 rw [hl, hm]
theorem Jd9 {t fuel : Nat} {cs : List Value} {x : DataW H × List MemPlace} (ht : P.underlying t = some (.int .i64)) (h : DataW.trod enc P w base sp held fuel t cs = some x) : ∃ n, cs = [.int .i64 n] ∧ I64 n := by
 obtain ⟨n, rfl, _, hw⟩ := DataW.trod_int ht h
 exact ⟨n, rfl, bounds_i64 hw⟩
theorem Vu {t fuel : Nat} {cs : List Value} {x : DataW H × List MemPlace} (ht : P.underlying t = some (.int .u64)) (h : DataW.trod enc P w base sp held fuel t cs = some x) : ∃ n : Nat, cs = [uV n] ∧ VG n := by
 obtain ⟨n, rfl, _, hw⟩ := DataW.trod_int ht h
 have := bounds_u64 hw
 exact ⟨n.toNat, by unfold uV; congr 2; omega, by unfold VG; omega⟩
theorem Wo {t e fuel : Nat} {cs : List Value} {x : DataW H × List MemPlace} (ht : P.underlying t = some (.array 4 e)) (hc : P.cellsOf t = 4) (he : P.cellsOf e = 1) (hu : P.underlying e = some (.int .u64)) (h : DataW.trod enc P w base sp held fuel t cs = some x) :
  ∃ a b c d : Nat, cs = [uV a, uV b, uV c, uV d] ∧ VG a ∧ VG b ∧ VG c ∧ VG d := by
 cases fuel with
 | zero => simp [DataW.trod] at h
 | succ fuel =>
  obtain ⟨hl, xs, h1, _⟩ := (Jd0 ht hc he).1 h
  obtain ⟨zs, rfl, _, hz⟩ := qk (V := uV) (D := fun n : Nat => .lit (.int .u64 (n : Int))) (ok := VG) (fun c x hx => by
   obtain ⟨n, h2, h3, h4⟩ := DataW.trod_int hu hx
   have h5 := bounds_u64 h4
   refine ⟨n.toNat, ?_, ?_, by unfold VG; omega⟩
   ·rw [List.singleton_inj.1 h2]; unfold uV; congr 1; omega
   ·rw [h3]; congr 3; omega) _ _ h1
  rw [List.length_map] at hl
  match zs, hl, hz with
  | [a, b, c, d], _, hz => exact ⟨a, b, c, d, rfl, hz a (by simp), hz b (by simp), hz c (by simp), hz d (by simp)⟩
theorem wA {t : Nat} {fs : Array Field} {r : Reach} {b0 : Nat} {v : Value} (ht : P.underlying t = some (.struct fs)) (h : Value.okWide P w r b0 t v) {cs : List Value} (hc : v.cells.toList = cs) : v = .agg cs.toArray := by
 obtain ⟨c1, rfl, _⟩ := okWide_struct ht h
 subst hc
 simp [Value.cells]
end
abbrev Jq (s : BS) : Value := .string (bs s)
structure W4.ok (w : W4) : Prop where
  a : VG w.a
  b : VG w.b
  c : VG w.c
  d : VG w.d
theorem W4.ok.wok {w : W4} (h : w.ok) : WOk w.l := ⟨rfl, fun x hx => by
 unfold W4.l at hx
 simp only [List.mem_cons, List.not_mem_nil, or_false] at hx
 rcases hx with rfl | rfl | rfl | rfl
 ·exact h.a
 ·exact h.b
 ·exact h.c
 ·exact h.d⟩
theorem Wp : VG 0 := by unfold VG; decide
theorem Xp : w40.ok := ⟨Wp, Wp, Wp, Wp⟩
structure Rec : Type where
  number : Nat
  time : Nat
  base : W4
  blob : W4
  overhead : W4
  scalar : Nat
  extra : Nat
  operator : Nat
deriving DecidableEq
def Jlt : Rec := ⟨0, 0, w40, w40, w40, 0, 0, 0⟩
def Rec.nats (r : Rec) : List Nat := [r.number, r.time, r.base.a, r.base.b, r.base.c, r.base.d, r.blob.a, r.blob.b, r.blob.c, r.blob.d, r.overhead.a, r.overhead.b, r.overhead.c, r.overhead.d, r.scalar, r.extra, r.operator]
def Rec.cells (r : Rec) : List Value := r.nats.map uV
def Rec.val (r : Rec) : Value := .agg r.cells.toArray
theorem Rec.len (r : Rec) : r.cells.length = 17 := rfl
theorem Rec.one (r : Rec) : r.cells.all QX = true := rfl
structure Rec.ok (r : Rec) : Prop where
  number : VG r.number
  time : VG r.time
  base : r.base.ok
  blob : r.blob.ok
  overhead : r.overhead.ok
  scalar : VG r.scalar
  extra : VG r.extra
  operator : VG r.operator
def slC (x : BS × BS) : List Value := [Jq x.1, Jq x.2]
def Jo1 (l : List (BS × BS)) : List Value := l.flatMap slC
abbrev jN : Nat := 9223372036854775807
structure AcL : Type where
  addr : BS
  nonce : Nat
  bal : W4
  code : BS
  slots : List (BS × BS)
  p : Pl
def AcL.cells (a : AcL) : List Value := [Jq a.addr, uV a.nonce, uV a.bal.a, uV a.bal.b, uV a.bal.c, uV a.bal.d, Jq a.code, Ky a.slots.length a.p]
def AcL.val (a : AcL) : Value := .agg a.cells.toArray
def AcL.er (a : AcL) : AcE := ⟨a.addr, a.nonce, a.bal, a.code, a.slots⟩
theorem AcL.len (a : AcL) : a.cells.length = 8 := rfl
theorem AcL.one (a : AcL) : a.cells.all QX = true := rfl
structure AcL.In (R : Jy) (a : AcL) : Prop where
  addr : a.addr.length ≤ jN
  nonce : VG a.nonce
  bal : a.bal.ok
  code : a.code.length ≤ jN
  len : a.slots.length ≤ jN
  seg : Seg R a.slots.length (Jo1 a.slots) a.p
  slots : ∀ x ∈ a.slots, x.1.length ≤ jN ∧ x.2.length ≤ jN
theorem AcL.In.mono {R R' : Jy} {a : AcL} (h : a.In R) (hs : ∀ q ∈ R, q ∈ R') : a.In R' := ⟨h.addr, h.nonce, h.bal, h.code, h.len, h.seg.mono hs, h.slots⟩
def Jo2 (l : List AcL) : List Value := l.flatMap AcL.cells
structure StL : Type where
  accts : List AcL
  p : Pl
def StL.cells (s : StL) : List Value := [Ky s.accts.length s.p]
def StL.val (s : StL) : Value := .agg s.cells.toArray
def StL.er (s : StL) : List AcE := s.accts.map AcL.er
structure StL.In (R : Jy) (s : StL) : Prop where
  len : s.accts.length ≤ jN
  seg : Seg R s.accts.length (Jo2 s.accts) s.p
  accts : ∀ a ∈ s.accts, a.In R
theorem StL.In.mono {R R' : Jy} {s : StL} (h : s.In R) (hs : ∀ q ∈ R, q ∈ R') : s.In R' := ⟨h.len, h.seg.mono hs, fun a ha => (h.accts a ha).mono hs⟩
theorem Jea {α : Type} {f : α → List Value} {m : Nat} (hf : ∀ x, (f x).length = m) {l : List α} {j k : Nat} {x : α} {v : Value} (h : l[j]? = some x) (hk : (f x)[k]? = some v) : (l.flatMap f)[j * m + k]? = some v := by
 have h1 := vh hf h
 have hlt : k < m := by have := (List.getElem?_eq_some_iff.1 hk).1; rwa [hf] at this
 rw [← h1, List.getElem?_take, if_pos hlt, List.getElem?_drop] at hk
 exact hk
section
variable {c : Cx} {l : KK} {L : Jy} {X : XP} {d : List Deferred} {i : Nat} {t : TypeId} {ps : String} {af : Array Edge} {gd : Option (Nat × Bool)} {ty : TypeId}
theorem Kt {α : Type} {f : α → List Value} {m : Nat} (hf : ∀ x, (f x).length = m) {x : Operand} {p : Pl} {R : Jy} {xs : List α} {j : Nat} {y : α} (hR : ∀ q ∈ R, known c L q.1 q.2) (hx : Kz l x = some (.pointer (some ⟨plB p, Wj p + j * m, none⟩))) (hs : Seg R xs.length (xs.flatMap f) p) (hy : xs[j]? = some y) (ht : VD c.P t = some true) (hm : Qd c.P t = some m) :
  JP c d l L X ⟨some i, .load t x, ty, ps, af, gd⟩ (.agg (f y).toArray) :=
 Jbw hR hx hs (xR hy) ht hm (vh hf hy) (hf y)
theorem KR {α : Type} {f : α → List Value} {m k : Nat} (hf : ∀ x, (f x).length = m) {x : Operand} {p : Pl} {R : Jy} {xs : List α} {j : Nat} {y : α} {v : Value} (hR : ∀ q ∈ R, known c L q.1 q.2) (hx : Kz l x = some (.pointer (some ⟨plB p, Wj p + (j * m + k), none⟩))) (hs : Seg R xs.length (xs.flatMap f) p) (hy : xs[j]? = some y) (hv : (f y)[k]? = some v) (ht : VD c.P t = some false) :
  JP c d l L X ⟨some i, .load t x, ty, ps, af, gd⟩ v :=
 wu hR hx hs (xR hy) ht (Jea hf hy hv)
end
section
variable {H : Type} {enc : TypeId × Value → H} {P : Program} {w : World} {base : Nat} {sp : Nat → Bool} {held : Bool}
theorem Vv {t fuel : Nat} {cs : List Value} {x : DataW H × List MemPlace} (ht : P.underlying t = some .string) (h : DataW.trod enc P w base sp held fuel t cs = some x) : ∃ s : BS, cs = [Jq s] ∧ s.length ≤ jN := by
 obtain ⟨s, rfl, _, hl⟩ := DataW.trod_string ht h
 exact ⟨s.data.toList, by unfold Jq; rw [bs_data], by rw [Array.length_toList]; exact hl⟩
end
theorem Jlu {l : List Nat} (hl : WOk l) : Zz (Qn l 32) = l := by
 have : Zz (Qn l 32) = ZK (dg l) 32 := qh fun i hi => by
  have h := qZ l (n := 32) (m := 31 - i) (by omega)
  have e : 32 - 1 - (31 - i) = i := by omega
  rw [e] at h
  rw [List.getD_eq_getElem?_getD, h, Option.getD_some, UInt8.toNat_ofNat', Nat.mod_eq_of_lt (Jdq l i)]
 rw [this, Jkk hl]
def bW (w : W4) : BS := Qn w.l 32
def uW (s : BS) : W4 := W4.of (Z0 s).1
theorem Jeb (s : BS) : WOk (Z0 s).1 := by
 unfold Z0; split
 ·exact xI _
 ·exact xN
theorem Jo3 (s : BS) : (uW s).l = (Z0 s).1 := W4.of_l (Jeb s).1
theorem Jo4 {w : W4} (h : w.ok) : uW (bW w) = w := by
 apply W4.l_inj
 rw [Jo3]
 unfold Z0 bW
 rw [if_pos (Qj _ _)]
 exact Jlu h.wok
def wN1 (n : Nat) : W4 := ⟨n, 0, 0, 0⟩
def Jb0 (n : Nat) : BS := bW (wN1 n)
def Jb1 : Nat → Nat
 | 0 => 0
 | 1 => 1
 | 2 => 5
 | 3 => 6
 | 4 => 3
 | 5 => 7
 | _ => 8
def zq (f : Int) : Nat → Bool
 | 0 => true
 | 1 => true
 | 2 => decide (f ≤ 2)
 | 3 => decide (f ≤ 2)
 | 4 => decide (f ≥ 3)
 | 5 => decide (f ≥ 3)
 | _ => decide (f = 5)
def jr (r : Rec) : Nat → W4
 | 0 => ⟨r.number, r.time, 0, 0⟩
 | 1 => r.base
 | 2 => r.overhead
 | 3 => ⟨r.scalar, 0, 0, 0⟩
 | 4 => ⟨r.scalar, r.extra, 0, 0⟩
 | 5 => r.blob
 | _ => ⟨r.operator, 0, 0, 0⟩
def xU (r : Rec) (w : W4) : Nat → Rec
 | 0 => { r with number := w.a, time := w.b }
 | 1 => { r with base := w }
 | 2 => { r with overhead := w }
 | 3 => { r with scalar := w.a }
 | 4 => { r with scalar := w.a, extra := w.b }
 | 5 => { r with blob := w }
 | _ => { r with operator := w.a }
theorem Jec {r : Rec} (h : r.ok) (i : Nat) : (jr r i).ok := by
 unfold jr
 split
 ·exact ⟨h.number, h.time, Wp, Wp⟩
 ·exact h.base
 ·exact h.overhead
 ·exact ⟨h.scalar, Wp, Wp, Wp⟩
 ·exact ⟨h.scalar, h.extra, Wp, Wp⟩
 ·exact h.blob
 ·exact ⟨h.operator, Wp, Wp, Wp⟩
def jt (f : Int) (g : Nat → W4) : List Nat → Rec → Rec
 | [], out => out
 | i :: l, out => jt f g l (if zq f i then xU out (g i) i else out)
def tab : List Nat := [0, 1, 2, 3, 4, 5, 6]
def Jed (f : Int) (r : Rec) : Rec := jt f (jr r) tab Jlt
def xV (f : Int) (a : AcE) : Rec := jt f (fun i => uW (QL a (Jb0 (Jb1 i)))) tab Jlt
def XU (f : Int) : Prop := 0 ≤ f ∧ f ≤ 5
instance (f : Int) : Decidable (XU f) := inferInstanceAs (Decidable (_ ∧ _))
theorem vq {f : Int} (h : XU f) : f = 0 ∨ f = 1 ∨ f = 2 ∨ f = 3 ∨ f = 4 ∨ f = 5 := by unfold XU at h; omega
def xW (f : Int) (r : Rec) : Bool := !((decide (f ≥ 3) && decide (r.overhead ≠ w40)) || (decide (f < 3) && (decide (r.extra ≠ 0) || decide (r.blob ≠ w40))) || (decide (f < 5) && decide (r.operator ≠ 0)))
theorem Jee {f : Int} {r : Rec} (h : XU f) : Jed f r = r ↔ xW f r = true := by
 obtain ⟨n, t, b, l, o, s, e, p⟩ := r
 rcases vq h with rfl | rfl | rfl | rfl | rfl | rfl <;>
  (simp [Jed, jt, tab, zq, xU, jr, xW, Jlt]; try (constructor <;> (intro h; simp_all <;> omega)))
def wB (which : Int) : BS := if which < 0 ∨ which > 1 then [] else 66 :: (List.replicate 18 0 ++ [UInt8.ofNat (1 + which).toNat])
def Jo5 : BS := [111, 110, 101]
def Jo6 : BS := [116, 119, 111]
def Jlv : BS := [116, 104, 114, 101, 101]
def Jnr : BS := [102, 105, 118, 101]
def Jo7 : BS := [102, 101, 101]
def qq (f which : Int) : BS × Bool := if which = 1 then (if f ≥ 2 then (Jo7, true) else ([], false)) else if f = 0 then (Jo5, true) else if f ≤ 2 then (Jo6, true) else if f ≤ 4 then (Jlv, true) else (Jnr, true)
def A0 : BS := wB 0
def A1 : BS := wB 1
theorem Zq {l : List (BS × BS)} {k v : BS} (h : QR Prod.fst l) : QR Prod.fst (Wn l k v) := by
 unfold Wn; split
 ·exact zm h
 ·exact jp h
theorem Jb2 {l : List (BS × BS)} {k v j : BS} (h : QR Prod.fst l) : Wb Prod.fst j (Wn l k v) = if k = j then (if v = Wd then none else some (k, v)) else Wb Prod.fst j l := by
 unfold Wn
 by_cases hv : v = Wd
 ·rw [if_pos hv, if_pos hv, wx]
 ·rw [if_neg hv, if_neg hv, ww h]
theorem wD {l : List (BS × BS)} {k v : BS} {x : BS × BS} (h : x ∈ Wn l k v) : (x = (k, v) ∧ v ≠ Wd) ∨ x ∈ l := by
 unfold Wn at h
 split at h
 ·exact .inr (Jhz h)
 ·rename_i hv; exact (vn h).imp (fun h => ⟨h, hv⟩) id
theorem Jlw {a : AcE} {k v : BS} (h1 : jM a = 0) (h2 : k.length = 32) (h3 : v.length = 32) (h4 : (Wn a.slots k v).length ≤ 16) : Jd8 a k v = ({ a with slots := Wn a.slots k v }, 0) := by
 unfold Jd8
 rw [if_neg (by omega), if_neg (by omega), if_neg (by omega)]
theorem Jh3 {a : AcE} {k v : BS} (h1 : jM a = 0) (h2 : k.length = 32) (h3 : v.length = 32) (h4 : (Wn a.slots k v).length ≤ 16) : jM { a with slots := Wn a.slots k v } = 0 := by
 obtain ⟨g1, g2, g3, g4, g5⟩ := Yt h1
 refine Jh1 g1 (fun x hx => ?_) (Zq g3) g4 h4
 rcases wD hx with ⟨rfl, hv⟩ | hx
 ·exact ⟨h2, h3, hv⟩
 ·exact g2 x hx
theorem Jb3 {a : AcE} {k v j : BS} (h : QR Prod.fst a.slots) : QL { a with slots := Wn a.slots k v } j = if k = j then v else QL a j := by
 unfold QL
 simp only
 rw [Jb2 h]
 by_cases hk : k = j
 ·rw [if_pos hk, if_pos hk]
  by_cases hv : v = Wd
  ·rw [if_pos hv]; exact hv.symm
  ·rw [if_neg hv]
 ·rw [if_neg hk, if_neg hk]
def vr : AcE → List (BS × BS) → AcE × Int
 | a, [] => (a, 0)
 | a, x :: l => if (Jd8 a x.1 x.2).2 ≠ 0 then Jd8 a x.1 x.2 else vr (Jd8 a x.1 x.2).1 l
structure RowsOk (a b : AcE) (l : List (BS × BS)) : Prop where
  lk : jM b = 0
  addr : b.addr = a.addr
  nonce : b.nonce = a.nonce
  bal : b.bal = a.bal
  code : b.code = a.code
  at_ : ∀ x ∈ l, QL b x.1 = x.2
  off : ∀ k, (∀ x ∈ l, x.1 ≠ k) → QL b k = QL a k
theorem Jef {a : AcE} (h : jM a = 0) {x : BS × BS} (hx : x ∈ a.slots) : QL a x.1 = x.2 ∧ x.2 ≠ Wd := by
 obtain ⟨_, g2, g3, _⟩ := Yt h
 unfold QL
 rw [qo g3 hx]
 exact ⟨rfl, (g2 x hx).2.2⟩
theorem Jeg {a : AcE} {k : BS} (h : QL a k ≠ Wd) : (k, QL a k) ∈ a.slots := by
 unfold QL at h ⊢
 cases hl : Wb Prod.fst k a.slots with
 | none => rw [hl] at h; exact absurd rfl h
 | some x =>
  obtain ⟨h1, h2⟩ := qn hl
  simp only
  rw [← h1]; exact h2
theorem vt {α : Type} {kf : α → BS} : ∀ {m l : List α}, QR kf m → QR kf l → (∀ y ∈ l, y ∈ m) → l.length ≤ m.length
 | [], [], _, _, _ => Nat.le_refl _
 | [], y :: l, _, _, h => absurd (h y List.mem_cons_self) (by simp)
 | z :: m, [], _, _, _ => Nat.zero_le _
 | z :: m, y :: l, hm, hl, h => by
  obtain ⟨m1, m2⟩ := List.pairwise_cons.1 hm
  obtain ⟨l1, l2⟩ := List.pairwise_cons.1 hl
  rcases List.mem_cons.1 (h y List.mem_cons_self) with e | hy
  ·rw [e] at l1
   have := vt (m := m) (l := l) m2 l2 fun x hx => by
    rcases List.mem_cons.1 (h x (List.mem_cons_of_mem _ hx)) with rfl | hx2
    ·have := l1 _ hx; rw [jn] at this; cases this
    ·exact hx2
   simp only [List.length_cons]; omega
  ·have := vt (m := m) (l := y :: l) m2 hl fun x hx => by
    rcases List.mem_cons.1 (h x hx) with rfl | hx2
    ·have a1 := m1 y hy
     rcases List.mem_cons.1 hx with rfl | hx3
     ·rw [jn] at a1; cases a1
     ·have := Xo a1 (l1 _ hx3); rw [jn] at this; cases this
    ·exact hx2
   simp only [List.length_cons] at this ⊢; omega
theorem fill {a : AcE} (ha : jM a = 0) : ∀ (l : List (BS × BS)) (x : AcE), jM x = 0 → (∀ k, QL x k = QL a k ∨ QL x k = Wd) → (∀ p ∈ l, p.1.length = 32 ∧ p.2.length = 32 ∧ (p.2 = QL a p.1 ∨ p.2 = Wd)) → (vr x l).2 = 0
 | [], _, _, _, _ => rfl
 | p :: l, x, hx, hs, hp => by
  obtain ⟨p1, p2, p3⟩ := hp p List.mem_cons_self
  have hsx := (Yt hx).2.2.1
  have hlen : (Wn x.slots p.1 p.2).length ≤ 16 := by
   refine Nat.le_trans (vt (kf := Prod.fst) (Yt ha).2.2.1 (Zq hsx) fun y hy => ?_) (Yt ha).2.2.2.2
   have hne : y.2 ≠ Wd ∧ y.2 = QL a y.1 := by
    rcases wD hy with ⟨rfl, hv⟩ | hy
    ·exact ⟨hv, p3.resolve_right hv⟩
    ·obtain ⟨e1, e2⟩ := Jef hx hy
     refine ⟨e2, ?_⟩
     rcases hs y.1 with h | h
     ·rw [← e1, h]
     ·rw [← e1] at e2; exact absurd h e2
   have h3 := Jeg (a := a) (k := y.1) (by rw [← hne.2]; exact hne.1)
   rw [← hne.2] at h3
   exact h3
  unfold vr
  rw [Jlw hx p1 p2 hlen, if_neg (by simp)]
  refine fill ha l _ (Jh3 hx p1 p2 hlen) (fun k => ?_) fun q hq => hp q (List.mem_cons_of_mem _ hq)
  rw [Jb3 hsx]
  split
  ·rename_i e; subst e; exact p3
  ·exact hs k
theorem vu {s : List AcE} (hs : zn s = 0) {k : BS} {a : AcE} (h : VH s k = some a) : a.addr = k ∧ jM a = 0 := by
 obtain ⟨h1, h2⟩ := qn h
 exact ⟨h1, (Jls.1 hs).2.1 a h2⟩
def Jh4 (f : Int) (r : Rec) (i : Nat) : BS × BS := (Jb0 (Jb1 i), if zq f i then bW (jr r i) else Wd)
def Jeh (k : BS) : Prop := ∃ i ∈ tab, Jb0 (Jb1 i) = k
def zr (t : List AcE) (which : Int) : AcE := { (VH t (wB which)).getD ac0 with addr := wB which }
theorem Jei {s : List AcE} (hs : zn s = 0) {w : Int} {a : AcE} (h : VH s (wB w) = some a) : zr s w = a := by
 unfold zr
 rw [h]
 obtain ⟨h1, _⟩ := vu hs h
 cases a
 simp only at h1
 simp [h1]
structure Wrote (f : Int) (s t : List AcE) (r : Rec) : Prop where
  forked : XU f
  fits : xW f r = true
  old : zn s = 0
  new : zn t = 0
  acct : ∃ b0, VH t A0 = some b0 ∧ jM b0 = 0 ∧ b0.addr = A0 ∧ b0.nonce = (zr s 0).nonce ∧ b0.bal = (zr s 0).bal ∧ b0.code = (qq f 0).1 ∧ (∀ i ∈ tab, QL b0 (Jb0 (Jb1 i)) = (Jh4 f r i).2) ∧ ∀ k, ¬ Jeh k → QL b0 k = QL (zr s 0) k
  others : ∀ k, k ≠ A0 → k ≠ A1 → VH t k = VH s k
  fee : if (qq f 1).2 = true then VH t A1 = some { zr s 1 with code := (qq f 1).1 } else VH t A1 = VH s A1
def qr (s : List AcE) (k : BS) : AcE := (VH s k).getD ac0
theorem ju {f : Int} {g g' : Nat → W4} : ∀ {l : List Nat} {out : Rec}, (∀ i ∈ l, zq f i = true → g i = g' i) → jt f g l out = jt f g' l out
 | [], _, _ => rfl
 | i :: l, out, h => by
  unfold jt
  have e : (if zq f i then xU out (g i) i else out) = if zq f i then xU out (g' i) i else out := by
   by_cases hi : zq f i = true
   ·rw [if_pos hi, if_pos hi, h i List.mem_cons_self hi]
   ·rw [if_neg hi, if_neg hi]
  rw [e]
  exact ju fun j hj => h j (List.mem_cons_of_mem _ hj)
theorem Jb4 {f : Int} {a : AcE} {r : Rec} (hf : XU f) (hr : r.ok) (hb : xW f r = true) (h : ∀ i ∈ tab, QL a (Jb0 (Jb1 i)) = (Jh4 f r i).2) : xV f a = r := by
 have e : xV f a = Jed f r := ju fun i hi hh => by
  rw [h i hi]
  unfold Jh4
  simp only
  rw [if_pos hh]
  exact Jo4 (Jec hr i)
 rw [e]
 exact (Jee hf).2 hb
structure Checked (f : Int) (s : List AcE) (a : AcE) : Prop where
  forked : XU f
  st : zn s = 0
  at0 : VH s A0 = some a
  code : a.code = (qq f 0).1
  rows : ∀ i ∈ tab, QL a (Jb0 (Jb1 i)) = (Jh4 f (xV f a) i).2
  fee : (qq f 1).2 = true → ∃ b, VH s A1 = some b ∧ b.code = (qq f 1).1
theorem Wrote.checked {f : Int} {s t : List AcE} {r : Rec} (h : Wrote f s t r) (hr : r.ok) : ∃ a, Checked f t a ∧ xV f a = r := by
 obtain ⟨h1, h2, h3, h4, ⟨b0, c1, c2, c3, c4, c5, c6, c7, c8⟩, h6, h7⟩ := h
 have e := Jb4 h1 hr h2 c7
 refine ⟨b0, ⟨h1, h4, c1, c6, by rw [e]; exact c7, fun hf => ?_⟩, e⟩
 rw [if_pos hf] at h7
 exact ⟨_, h7, rfl⟩
theorem Checked.lk {f : Int} {s : List AcE} {a : AcE} (h : Checked f s a) : jM a = 0 := (vu h.st h.at0).2
theorem Checked.addr {f : Int} {s : List AcE} {a : AcE} (h : Checked f s a) : a.addr = A0 := (vu h.st h.at0).1
theorem Checked.old {f : Int} {s : List AcE} {a : AcE} (h : Checked f s a) : zr s 0 = a := Jei h.st h.at0
structure Kept (s t : List AcE) : Prop where
  others : ∀ k, k ≠ A0 → k ≠ A1 → VH t k = VH s k
  there : ∀ k, (VH s k).isSome = true → (VH t k).isSome = true
  nonce : ∀ k, (qr t k).nonce = (qr s k).nonce
  bal : ∀ k, (qr t k).bal = (qr s k).bal
  slot : ∀ k j, (k = A0 → ¬ Jeh j) → QL (qr t k) j = QL (qr s k) j
theorem Kept.refl (s : List AcE) : Kept s s := ⟨fun _ _ _ => rfl, fun _ h => h, fun _ => rfl, fun _ => rfl, fun _ _ _ => rfl⟩
theorem Kept.trans {s t u : List AcE} (h : Kept s t) (k : Kept t u) : Kept s u :=
 ⟨fun x a b => (k.others x a b).trans (h.others x a b), fun x hx => k.there x (h.there x hx), fun x => (k.nonce x).trans (h.nonce x), fun x => (k.bal x).trans (h.bal x), fun x j hj => (k.slot x j hj).trans (h.slot x j hj)⟩
def Way (f g : Int) : Prop := 0 ≤ f ∧ f ≤ g ∧ g ≤ 5
instance (f g : Int) : Decidable (Way f g) := inferInstanceAs (Decidable (_ ∧ _))
def plS (sz a : Nat) : Pl → Pl
 | none => none
 | some (⟨b, o, s⟩, cap) => some (⟨b, if cap = a then o else o + a * sz, s⟩, cap - a)
theorem Seg.slice {R : Jy} {n sz a b : Nat} {cs : List Value} {p : Pl} (h : Seg R n cs p) (hl : cs.length = n * sz) (hab : a < b) (hb : b ≤ n) : Seg R (b - a) ((cs.drop (a * sz)).take ((b - a) * sz)) (plS sz a p) := by
 cases p with
 | none => have h : n = 0 := h; omega
 | some q =>
  obtain ⟨⟨r, o, s⟩, cap⟩ := q
  obtain ⟨h1, h2⟩ := h
  obtain ⟨h3, all, e, fr, h4, h5⟩ := h2 (by omega)
  have hne : ¬ cap = a := by omega
  simp only [plS, if_neg hne]
  have hlen : ((cs.drop (a * sz)).take ((b - a) * sz)).length = (b - a) * sz := by
   rw [List.length_take, List.length_drop, hl, ← Nat.sub_mul]
   exact Nat.min_eq_left (Nat.mul_le_mul_right _ (by omega))
  refine ⟨by omega, fun _ => ⟨h3, all, e, fr, h4, ?_⟩⟩
  rw [hlen]
  exact jf h5 rfl hlen
section
variable {c : Cx} {l : KK} {L : Jy} {X : XP} {Q : Exit → Act → World → Prop} {d : List Deferred}
variable {ops : Array Oper} {rest : List Oper} {i : Nat} {v : Value} {t : TypeId} {ps : String} {af : Array Edge} {gd : Option (Nat × Bool)} {ty t2 : TypeId}
theorem jv {x y : Operand} {e sz n cap : Nat} {a : Option Addr} {r2 : Option Addr} {c2 : Nat} (hg : Kx l ops ⟨some i, .call ⟨.builtin .append, #[x, y], #[t, t]⟩, ty, ps, af, gd⟩ = some true) (hi : Nat.ble (i + 1) c.n = true)
  (hx : Kz l x = some (.slice a n cap)) (hy : Kz l y = some (.slice r2 0 c2)) (ht : KI c.P t = some e) (hs : Qd c.P e = some sz) (hle : n ≤ cap)
  (h : HL c d ((i, .slice a n cap) :: l) L X ops rest Q) : HL c d l L X ops (⟨some i, .call ⟨.builtin .append, #[x, y], #[t, t]⟩, ty, ps, af, gd⟩ :: rest) Q := by
 obtain ⟨inf, hinf, hs'⟩ : ∃ inf, c.P.info? e = some inf ∧ inf.size = sz := by
  unfold Qd at hs
  cases hq : c.P.info? e with
  | none => simp [hq] at hs
  | some inf => simp only [hq, Option.some.injEq] at hs; exact ⟨inf, rfl, hs⟩
 refine Jdb hg rfl rfl hi (fun a' w hf _ => ?_) h
 have ex := hf.eval hx
 have ey := hf.eval hy
 have hl : ∀ (q : Addr), (loadCells q 0).run c.P w = .ok #[] w := fun q => by simpa using run_loadCells_list (P := c.P) w q [] (by simp)
 cases r2 <;> cases a <;> simp [execOp, resolve, Sem.run_bind, ex, ey, Result.andThen, invoke, builtin, Builtin.append_, KO (Kj ht), sizeOf, typeInfo, hinf, Builtin.lenOf, hle, Builtin.firstCells, hl, storeCells]
theorem xX {x : Operand} {p : Option Addr} {n cap : Nat} {e : TypeId} (hx : Kz l x = some (.slice p n cap)) (ht : KI c.P t = some e) :
  JP c d l L X ⟨some i, .call ⟨.builtin .cap, #[x], #[t]⟩, ty, ps, af, gd⟩ (.int .i64 cap) := fun a w hf _ => by
 have ex := hf.eval hx
 simp [execOp, resolve, Sem.run_bind, ex, Result.andThen, invoke, builtin, Builtin.cap_, KO (Kj ht), goInt]
end
def jO {α : Type} (pr : α → Bool) (xs : List α) : Int := match xs.findIdx? pr with
 | some i => (i : Int)
 | none => -1
theorem Yu {α : Type} {pr : α → Bool} {xs : List α} (h : ∀ (j : Nat) x, xs[j]? = some x → pr x = false) : jO pr xs = -1 := by
 unfold jO
 have : xs.findIdx? pr = none := by
  rw [List.findIdx?_eq_none_iff]
  intro x hx
  obtain ⟨j, hj, rfl⟩ := List.mem_iff_getElem.1 hx
  simpa using h j _ (List.getElem?_eq_getElem hj)
 rw [this]
theorem Yv {α : Type} {pr : α → Bool} {xs : List α} {i : Nat} {x : α} (hx : xs[i]? = some x) (hp : pr x = true) (h : ∀ j, j < i → ∀ y, xs[j]? = some y → pr y = false) : jO pr xs = (i : Int) := by
 unfold jO
 obtain ⟨h1, h2⟩ := List.getElem?_eq_some_iff.1 hx
 have : xs.findIdx? pr = some i := by
  rw [List.findIdx?_eq_some_iff_getElem]
  exact ⟨h1, by rw [h2]; exact hp, fun j hj => by simpa using h j hj _ (List.getElem?_eq_getElem (by omega))⟩
 rw [this]
theorem ZM {α : Type} {pr : α → Bool} {xs : List α} : decide (jO pr xs ≥ 0) = xs.any pr := by
 unfold jO
 cases h : xs.findIdx? pr with
 | none =>
  rw [List.findIdx?_eq_none_iff] at h
  have : xs.any pr = false := by rw [List.any_eq_false]; intro x hx; simpa using h x hx
  rw [this]; rfl
 | some i =>
  rw [List.findIdx?_eq_some_iff_getElem] at h
  obtain ⟨h1, h2, _⟩ := h
  have : xs.any pr = true := List.any_eq_true.2 ⟨xs[i], List.getElem_mem _, h2⟩
  rw [this]; simp
def fV (f : FuncId) : Value := .func (.func f) #[] #[]
theorem row_some {sz n : Nat} {xs : List Value} {row : QH} (h : rowOk sz n xs row) (hn : 0 < n) : ∃ r cap sp, row = some (r, cap, sp) := by
 cases row with
 | none => have := h.1; omega
 | some q => obtain ⟨r, cap, sp⟩ := q; exact ⟨r, cap, sp, rfl⟩
theorem Jlx {P M S V : List Value} {o n : Nat} (ho : P.length = o) (hn : M.length = n) : (P ++ (M ++ S)).take o ++ V ++ (P ++ (M ++ S)).drop (o + n) = P ++ (V ++ S) := by
 subst ho hn
 rw [List.take_left' rfl, ← List.drop_drop, List.drop_left' rfl, List.drop_left' rfl, List.append_assoc]
theorem Pure.toR {P : Program} {f : FuncId} {args : Array Value} {v : Value} {R : Jy} (h : Pure P f args v) : PureR P f args v R := ⟨fun w _ => h.run w⟩
def lastE (l : List AcE) : Nat → Option BS
 | 0 => none
 | i + 1 => l[i]?.map AcE.addr
theorem er_get {s : StL} {i : Nat} {a : AcL} (h : s.accts[i]? = some a) : s.er[i]? = some a.er := by unfold StL.er; rw [List.getElem?_map, h]; rfl
theorem PureR.mono {P : Program} {f : FuncId} {args : Array Value} {v : Value} {R R' : Jy} (h : PureR P f args v R) (hs : ∀ q ∈ R, q ∈ R') : PureR P f args v R' := ⟨fun w hw => h.run w fun p hp => hw p (hs p hp)⟩
def Qm : QH → Pl
 | none => none
 | some (r, cap, _) => some (⟨r, 0, none⟩, cap)
theorem Jly (n : Nat) (row : QH) (h : row = none → n = 0) : Ky n (Qm row) = JO n row := by
 cases row with
 | none => rw [h rfl]; rfl
 | some q => rfl
theorem Qg {sz n e : Nat} {cs : List Value} {row : QH} (h : rowOk sz n cs row) (h0 : 0 < sz) : Seg (Kk e cs row) n cs (Qm row) := by
 cases row with
 | none => exact h.1
 | some q =>
  obtain ⟨r, cap, sp⟩ := q
  obtain ⟨h1, h2⟩ := h
  exact ⟨Nat.le_of_mul_le_mul_right (by omega : n * sz ≤ cap * sz) h0, fun _ => ⟨rfl, _, e, (0, 0), List.mem_cons_self, by simp⟩⟩
structure AcRes (R : Jy) (e : AcE × Int) : Type where
  a : AcL
  err : Int
  L : Jy
  ok : a.In (L ++ R)
  eq : (a.er, err) = e
structure StRes (R : Jy) (e : List AcE × Int) : Type where
  s : StL
  err : Int
  L : Jy
  ok : s.In (L ++ R)
  eq : (s.er, err) = e
def AcRes.val {R : Jy} {e : AcE × Int} (x : AcRes R e) : Value := .tuple #[x.a.val, .int .i64 x.err]
def StRes.val {R : Jy} {e : List AcE × Int} (x : StRes R e) : Value := .tuple #[x.s.val, .int .i64 x.err]
theorem wE (n : Nat) (row : QH) : QX (JO n row) = true := by cases row <;> rfl
inductive EqF (P : Program) (xs ys : List Value) : List Field → Bool → Prop
  | nil : EqF P xs ys [] true
  | scal {f : Field} {fs : List Field} {a b : Value} {r : Bool} (hn : (f.name == "_") = false) (he : VD P f.type = some false) (ga : WM xs f.offset = some a) (gb : WM ys f.offset = some b) (ha : Vt P f.type a = true) (hb : Vt P f.type b = true) (h : EqF P xs ys fs r) : EqF P xs ys (f :: fs) (YL a b && r)
  | arr {f : Field} {fs : List Field} {n e : Nat} {va vb : List Value} {r : Bool} (hn : (f.name == "_") = false) (ht : Zj P f.type = some (n, e)) (hz : Qd P f.type = some n) (he : VD P e = some false) (hs : Qd P e = some 1) (ga : (xs.drop f.offset).take n = va) (gb : (ys.drop f.offset).take n = vb) (hla : va.length = n) (hlb : vb.length = n)
      (h1 : va.all (Vt P e) = true) (h2 : vb.all (Vt P e) = true) (h : EqF P xs ys fs r) : EqF P xs ys (f :: fs) (KP va vb && r)
theorem qt {P : Program} {t n : Nat} {cs va : List Value} {off : Nat} {e m : Nat} (ht : Zj P t = some (m, e)) (hz : Qd P t = some n) (ga : (cs.drop off).take n = va) (hl : va.length = n) (w : World) : (part t cs.toArray off).run P w = .ok (.agg va.toArray) w := by
 have e1 : (cs.toArray.extract off (off + n)) = va.toArray := by
  apply Array.toList_inj.1
  rw [← ga, List.extract_toArray, List.extract_eq_take_drop, Nat.add_sub_cancel_left]
 unfold part
 simp only [Sem.run_bind, ZF (show VD P t = some true from by unfold VD; rw [qO ht]), Result.andThen, QG hz, if_true, e1]
 rfl
theorem Yw {P : Program} {xs ys : List Value} {d : Nat} {w : World} : ∀ {fs : List Field} {b : Bool}, EqF P xs ys fs b → (Op.eqFields (d + 2) xs.toArray ys.toArray fs).run P w = .ok b w := by
 intro fs b h
 induction h with
 | nil => simp [Op.eqFields]
 | @scal f fs a b r hn he ga gb ha hb h ih =>
  have hn' : f.name ≠ "_" := by intro e; rw [e] at hn; simp at hn
  simp only [Op.eqFields, Sem.run_ite, if_pos hn', Sem.run_bind, X3 he (show xs.toArray[f.offset]? = some a from by rw [List.getElem?_toArray, ← WN]; exact ga), X3 he (show ys.toArray[f.offset]? = some b from by rw [List.getElem?_toArray, ← WN]; exact gb), Result.andThen, qU ha hb]
  cases hab : YL a b
  ·simp
  ·simpa using ih
 | @arr f fs n e va vb r hn ht hz he hs ga gb hla hlb h1 h2 h ih =>
  have hn' : f.name ≠ "_" := by intro e; rw [e] at hn; simp at hn
  simp only [Op.eqFields, Sem.run_ite, if_pos hn', Sem.run_bind, qt ht hz ga hla, qt ht hz gb hlb, Result.andThen, YM ht he hs hla hlb h1 h2]
  cases hab : KP va vb
  ·simp
  ·simpa using ih
section
variable {c : Cx} {l : KK} {L : Jy} {X : XP} {d : List Deferred}
variable {i : Nat} {t : TypeId} {ps : String} {af : Array Edge} {gd : Option (Nat × Bool)} {ty t2 : TypeId}
theorem Jh5 {x y : Operand} {xs ys : List Value} {b : Bool} (hx : Kz l x = some (.agg xs.toArray)) (hy : Kz l y = some (.agg ys.toArray)) (ht : c.P.underlying t = some (.struct (c.P.fieldsOf t))) (hp : c.P.stoodInHeld t = false) (hgt : c.P.eqGuardType c.P.depth t = false) (hE : EqF c.P xs ys (c.P.fieldsOf t).toList b) :
  JP c d l L X ⟨some i, .binOp .eql t x y t2, ty, ps, af, gd⟩ (.bool b) := fun a' w hf _ => by
 have hr := run_equalIn_struct (P := c.P) w 9999 t xs.toArray ys.toArray ht hp
 rw [Yw hE] at hr
 have h0 := run_eql_struct (P := c.P) w t xs.toArray ys.toArray
 rw [hr] at h0
 simp only [execOp]
 rw [hf.eval hx, hf.eval hy]
 simp only [Sem.run_bind, run_eqGuard_agg w .eql t x y _ _ hgt, Result.andThen, h0]
 rfl
theorem Jh6 {x y : Operand} {xs ys : List Value} {b : Bool} (hx : Kz l x = some (.agg xs.toArray)) (hy : Kz l y = some (.agg ys.toArray)) (ht : c.P.underlying t = some (.struct (c.P.fieldsOf t))) (hp : c.P.stoodInHeld t = false) (hgt : c.P.eqGuardType c.P.depth t = false) (hE : EqF c.P xs ys (c.P.fieldsOf t).toList b) :
  JP c d l L X ⟨some i, .binOp .neq t x y t2, ty, ps, af, gd⟩ (.bool (!b)) := fun a' w hf _ => by
 have hr := run_equalIn_struct (P := c.P) w 9999 t xs.toArray ys.toArray ht hp
 rw [Yw hE] at hr
 have h0 := run_neq_struct (P := c.P) w t xs.toArray ys.toArray
 rw [hr] at h0
 simp only [execOp]
 rw [hf.eval hx, hf.eval hy]
 simp only [Sem.run_bind, run_eqGuard_agg w .neq t x y _ _ hgt, Result.andThen, h0]
 rfl
end
theorem xY (a b : BS) : YL (Jq a) (Jq b) = decide (a = b) := qT a b
theorem Jej {α : Type} {xs ys : List α} {i : Nat} (hl : xs.length = ys.length) (hi : xs.length ≤ i) (h : ∀ j, j < i → xs[j]? = ys[j]?) : xs = ys := by
 apply List.ext_getElem?
 intro j
 by_cases hj : j < i
 ·exact h j hj
 ·rw [List.getElem?_eq_none (by omega), List.getElem?_eq_none (by omega)]
theorem Jek {α : Type} {xs ys : List α} {i : Nat} {x y : α} (hx : xs[i]? = some x) (hy : ys[i]? = some y) (h : ¬ x = y) : ¬ xs = ys := by
 rintro rfl; rw [hx] at hy; exact h (Option.some.inj hy)
theorem eqU (a b : Nat) : YL (uV a) (uV b) = decide (a = b) := by
 show ((a : Int) == (b : Int)) = _
 by_cases h : a = b
 ·subst h; simp
 ·have : ¬ (a : Int) = b := by omega
  simp [h, this]
theorem eqW (x y : W4) : KP [uV x.a, uV x.b, uV x.c, uV x.d] [uV y.a, uV y.b, uV y.c, uV y.d] = decide (x = y) := by
 simp only [KP, eqU]
 obtain ⟨a, b, c, d⟩ := x
 obtain ⟨a', b', c', d'⟩ := y
 by_cases h1 : a = a' <;> by_cases h2 : b = b' <;> by_cases h3 : c = c' <;> by_cases h4 : d = d' <;> simp [h1, h2, h3, h4]
section
variable {c : Cx} {d : List Deferred} {l : KK} {E : Jy} {X : XP} {S : Jy} {ops : Array Oper} {tb : Ye} {rest : List Nat} {T : Jy → Act → Prop} {k i : Nat}
theorem VR {α : Type} {x0 : α} {V : α → Value} {LL : α → Jy} {Rl : Jy} {f : Operand} {args : Array Operand} {at_ : Array TypeId} {g : FuncId} {vs : List Value} {ty : TypeId} {ps : String} {af : Array Edge} {gd : Option (Nat × Bool)}
  (hk : WM ops.toList k = some ⟨some i, .call ⟨.value f, args, at_⟩, ty, ps, af, gd⟩) (hg : Kx l ops ⟨some i, .call ⟨.value f, args, at_⟩, ty, ps, af, gd⟩ = some true) (hi : Nat.ble (i + 1) c.n = true) (hA : tb k = .grow (QY x0 V LL)) (hca : Qe l f args = some (g, vs)) (eg : Enters c.P g)
  (hp : PureT c.P g vs.toArray V [] LL Rl) (hR : ∀ p ∈ Rl, p ∈ S ∨ p ∈ c.R) (h : ∀ x, HB c d ((i, V x) :: l) (LL x ++ E) X S ops tb rest T) : HB c d l E X S ops tb (k :: rest) T :=
 vm (e := QY x0 V LL) hk hg rfl hi hA (fun E' hE a w hf hs => Ym hf hca eg ((hp.run w (fun p hp => by cases hp) (fun p hp => (hR p hp).elim (fun h => (hs.own _ (hE p h)).2.2) hs.readR) List.Pairwise.nil (fun p _ q hq => by cases hq)).mono fun _ _ ⟨x, he, hk, h1, h2⟩ => ⟨V x, he, x, rfl, hk, (fun p hp => ⟨((h1 p hp).1).elim (fun h => by cases h) id, (h1 p hp).2⟩), h2⟩)) h
end
theorem xZ {c : Cx} {d : List Deferred} {l : KK} {L L' : Jy} {X : XP} {code : Code} {Q : Exit → Act → World → Prop} (hp : L.Perm L') (h : HC c d l L' X code Q) : HC c d l L X code Q := fun a w hf hs => h a w hf (hs.perm hp)
structure AcSt (R : Jy) : Type where
  a : AcL
  L : Jy
  ok : a.In (L ++ R)
structure StSt (R : Jy) : Type where
  s : StL
  L : Jy
  ok : s.In (L ++ R)
def AcSt.next {R : Jy} (s : AcSt R) {e : AcE × Int} (x : AcRes (s.L ++ R) e) : AcSt R := ⟨x.a, x.L ++ s.L, by rw [List.append_assoc]; exact x.ok⟩
def StSt.next {R : Jy} (s : StSt R) {L' : Jy} {e : List AcE × Int} (x : StRes (L' ++ (s.L ++ R)) e) : StSt R := ⟨x.s, x.L ++ (L' ++ s.L), by rw [List.append_assoc, List.append_assoc]; exact x.ok⟩
theorem map_drop {α : Type} (f : Nat → α) {i : Nat} (h : i < 7) : (tab.map f).drop i = f i :: (tab.map f).drop (i + 1) := by
 have : i = 0 ∨ i = 1 ∨ i = 2 ∨ i = 3 ∨ i = 4 ∨ i = 5 ∨ i = 6 := by omega
 rcases this with rfl | rfl | rfl | rfl | rfl | rfl | rfl <;> rfl
def vv (v : Value) : List PanicEntry := [{ v, recovered := false }]
structure PureX {α : Type} (P : Program) (f : FuncId) (args : Array Value) (ok : Prop) (bad : Value → Prop) (V : α → Value) (LL : α → Jy) (Rl : Jy) : Prop where
  run : ∀ w, YI Rl w → Calls P f args w fun e w' => (ok ∧ ∃ x, e = .returned (V x) ∧ Keep [] w w' ∧ (∀ p ∈ LL x, w.heap.size ≤ p.1 ∧ w'.heap[p.1]? = some p.2) ∧ (LL x).Pairwise fun p q => p.1 ≠ q.1) ∨ (∃ v, bad v ∧ e = .panicked (vv v) ∧ Keep [] w w')
def cxX (P : Program) (w : World) (Rl : Jy) (n : Nat) : Cx := ⟨P, none, w, [], [], Rl, n⟩
theorem St.startX {P : Program} {w : World} {n : Nat} {Rl : Jy} (hR : YI Rl w) : St (cxX P w Rl n) [] (fun _ _ => True) w :=
 ⟨Keep.refl _ _, by simp, by simp, fun p hp => ⟨by simp [cxX], by simp [cxX], hR p hp⟩, by simp [cxX], ⟨[], by simp, fun _ _ => trivial⟩⟩
def Jkq {α : Type} (c : Cx) (ok : Prop) (bad : Value → Prop) (V : α → Value) (LL : α → Jy) : Ending → World → Prop := fun e w' =>
 (ok ∧ ∃ x, e = .returned (V x) ∧ St c (LL x) (fun _ _ => True) w') ∨ (∃ v, bad v ∧ e = .panicked (vv v) ∧ Keep [] c.w1 w')
theorem wF {α : Type} {P : Program} {f : FuncId} {fn : Func} {code : Code} {vs : List Value} {ok : Prop} {bad : Value → Prop} {V : α → Value} {Rl : Jy} {LL : α → Jy} (hf : P.funcs[f]? = some fn) (hb : fn.body = some code) (hlen : Nat.ble vs.length fn.ntmps = true)
  (h : ∀ w, HC (cxX P w Rl fn.ntmps) [] (Vr 0 vs) [] (fun _ _ => True) code (bodyPostM (FW none) 0 P fn (Jkq (cxX P w Rl fn.ntmps) ok bad V LL))) : PureX P f vs.toArray ok bad V LL Rl := ⟨fun w hR =>
 (QP (cxX P w Rl fn.ntmps) hf hb rfl rfl rfl hlen (St.startX hR) (h w)).mono fun _ _ h => h.imp
  (fun ⟨ho, x, he, hs⟩ => ⟨ho, x, he, by have := hs.keep; simpa [cxX] using this, fun p hp => by have := (hs.own p hp); simp only [cxX, List.not_mem_nil, false_or] at this; exact ⟨this.1, this.2.2⟩, hs.distinct⟩)
  (fun ⟨v, hv, he, hk⟩ => ⟨v, hv, he, hk⟩)⟩
theorem PureX.mono {α : Type} {P : Program} {f : FuncId} {args : Array Value} {ok ok' : Prop} {bad bad' : Value → Prop} {V : α → Value} {LL : α → Jy} {Rl : Jy} (h : PureX P f args ok bad V LL Rl) (h1 : ok → ok') (h2 : ∀ v, bad v → bad' v) : PureX P f args ok' bad' V LL Rl :=
 ⟨fun w hR => (h.run w hR).mono fun _ _ h => h.imp (fun ⟨a, b⟩ => ⟨h1 a, b⟩) (fun ⟨v, a, b⟩ => ⟨v, h2 v a, b⟩)⟩
theorem PureX.map {α β : Type} {P : Program} {f : FuncId} {args : Array Value} {ok : Prop} {bad : Value → Prop} {V : α → Value} {LL : α → Jy} {V' : β → Value} {LL' : β → Jy} {Rl : Jy} (h : PureX P f args ok bad V LL Rl) (g : α → β) (hv : ∀ x, V x = V' (g x)) (hl : ∀ x, (LL' (g x)).Sublist (LL x)) : PureX P f args ok bad V' LL' Rl :=
 ⟨fun w hR => (h.run w hR).mono fun _ _ h => h.imp (fun ⟨a, x, he, hk, h1, h2⟩ => ⟨a, g x, he.trans (by rw [hv]), hk, fun p hp => h1 p ((hl x).subset hp), h2.sublist (hl x)⟩) id⟩
theorem PureX.toT {α : Type} {P : Program} {f : FuncId} {args : Array Value} {ok : Prop} {bad : Value → Prop} {V : α → Value} {LL : α → Jy} {Rl : Jy} (h : PureX P f args ok bad V LL Rl) (hb : ∀ v, ¬ bad v) : PureT P f args V [] LL Rl :=
 ⟨fun w _ hR _ _ => (h.run w hR).mono fun _ _ h => h.elim (fun ⟨_, x, he, hk, h1, h2⟩ => ⟨x, he, hk, fun p hp => ⟨.inr (h1 p hp).1, (h1 p hp).2⟩, h2⟩) (fun ⟨v, hv, _⟩ => absurd hv (hb v))⟩
section
variable {c : Cx} {l : KK} {L : Jy} {X : XP} {Q : Exit → Act → World → Prop} {K : Act → World → Prop} {d : List Deferred}
variable {ops : Array Oper} {rest : List Oper} {i : Nat} {v : Value} {t : TypeId} {ps : String} {af : Array Edge} {gd : Option (Nat × Bool)} {ty : TypeId}
theorem Jel {α : Type} {ok : Prop} {bad : Value → Prop} {Rl : Jy} {f : Operand} {args : Array Operand} {at_ : Array TypeId} {g : FuncId} {vs : List Value} {V : α → Value} {LL : α → Jy}
  (hg : Kx l ops ⟨some i, .call ⟨.value f, args, at_⟩, ty, ps, af, gd⟩ = some true) (hi : Nat.ble (i + 1) c.n = true) (hca : Qe l f args = some (g, vs)) (eg : Enters c.P g)
  (hpt : PureX c.P g vs.toArray ok bad V LL Rl) (hR : ∀ p ∈ Rl, known c L p.1 p.2) (h : ok → ∀ x, HL c d ((i, V x) :: l) (LL x ++ L) X ops rest Q) (hp : ∀ v, bad v → HQ c d l L X (Q (.panic (vv v)))) :
  HL c d l L X ops (⟨some i, .call ⟨.value f, args, at_⟩, ty, ps, af, gd⟩ :: rest) Q := fun a w hf hs => by
 refine Q0 (JW hf hg) rfl ?_
 rw [Vq hf hca c.P w _ rfl eg, Oper.uponIn_enter]
 refine ⟨fun hdep => (by cases hdep), ?_⟩
 have hc := callsIn_wide (n := 0) |>.2 (hpt.run w fun p hp => hs.known (hR p hp))
 refine CallsIn.mono (show CallsIn (FW c.ro) 0 c.P g vs.toArray w _ from hc) ?_
 rintro e w' (⟨ho, x, rfl, hk, h1, h2⟩ | ⟨v, hv, rfl, hk⟩)
 ·exact h ho x _ w' (hf.put (Nat.le_of_ble_eq_true hi)) (hs.freshs hk h1 h2)
 ·exact hp v hv a w' hf (hs.more hk)
theorem Jem {x : Operand} {dst : Option Nat} {tt : TypeId} (hg : Kx l ops ⟨dst, .panic x, ty, ps, af, gd⟩ = some true) (hx : Kz l x = some (.iface tt v)) (h : HQ c d l L X (Q (.panic (vv (.iface tt v))))) : HL c d l L X ops (⟨dst, .panic x, ty, ps, af, gd⟩ :: rest) Q := fun a w hf hs => by
 refine Q0 (JW hf hg) rfl ?_
 have hrun : (execOp a.eval ⟨dst, .panic x, ty, ps, af, gd⟩).run c.P w = .halt (.panic (.iface tt v)) w := by
  have e : (Instr.panic (.iface tt v)).run c.P w = .halt (.panic (.iface tt v)) w := rfl
  simp only [execOp, hf.eval hx]
  simp [Sem.run_bind, e, Result.andThen]
 rw [hrun, Oper.uponIn_panic]
 exact h a w hf hs
theorem Jen {ch : List PanicEntry} (h : HQ c d l L X (Q (.panic ch))) : HQ c d l L X (Exit.then K Q (.panic ch)) := h
theorem Jh8 {fn : Func} {R : Ending → World → Prop} {P : Program} {ch : List PanicEntry} (h : ∀ w, St c L X w → R (.panicked ch) w) : HQ c [] l L X (bodyPostM (FW none) 0 P fn R (.panic ch)) := fun a w hf hs => by
 show LeavesInM _ _ _ _ _ _ _ _ _
 rw [hf.defers]
 exact h w hs
theorem Jh9 {α : Type} {fn : Func} {P : Program} {ok : Prop} {bad : Value → Prop} {V : α → Value} {LL : α → Jy} (hc1 : c.ids = []) (hc2 : c.xids = []) (h : bad v) : HQ c [] l L X (bodyPostM (FW none) 0 P fn (Jkq c ok bad V LL) (.panic (vv v))) :=
 Jh8 fun w hs => .inr ⟨v, h, rfl, by have := hs.keep; rw [hc1, hc2] at this; exact this⟩
end
def dF (g : FuncId) (caps : List Value) : Deferred := { target := .fn (.func g) caps.toArray, args := #[] }
def Jkr (c : Cx) (L' : Jy) (X : XP) : Ending → FrameMode → World → Prop := fun e u' w' => (∃ x, e = .returned x) ∧ settle u' = .returning ∧ St c L' X w'
section
variable {c : Cx} {l : KK} {L : Jy} {X : XP} {Q : Exit → Act → World → Prop} {K : Act → World → Prop} {d : List Deferred}
variable {ops : Array Oper} {rest : List Oper} {i : Nat} {v : Value} {t : TypeId} {ps : String} {af : Array Edge} {gd : Option (Nat × Bool)} {ty : TypeId}
theorem Xq {f : Operand} {at_ : Array TypeId} {g : FuncId} {caps : List Value} {dst : Option Nat} (hro : c.ro = none) (hg : Kx l ops ⟨dst, .defer ⟨.value f, #[], at_⟩, ty, ps, af, gd⟩ = some true) (hf : Kz l f = some (.func (.func g) #[] caps.toArray))
  (h : HL c (dF g caps :: d) l L X ops rest Q) (hdst : dst = none) : HL c d l L X ops (⟨dst, .defer ⟨.value f, #[], at_⟩, ty, ps, af, gd⟩ :: rest) Q := fun a w hfr hs => by
 subst hdst
 unfold wpListIn
 rw [if_pos (JW hfr hg)]
 refine ⟨KF, ?_⟩
 have e0 : (FW c.ro).round = none := by rw [hro]; rfl
 rw [e0, Oper.semAt_none]
 have h4 := hfr.eval hf
 have hrun : (execOp a.eval ⟨none, .defer ⟨.value f, #[], at_⟩, ty, ps, af, gd⟩).run c.P w = .ok (.defer (dF g caps)) w := by
  simp only [execOp, Sem.run_bind]
  simp [resolve, h4, Deferred.ofValue, Result.andThen, dF]
 rw [hrun, Oper.uponIn_defer]
 exact h _ w ⟨hfr.size, by simp [Act.put, hfr.defers], hfr.slots⟩ hs
theorem Jeo {P : Program} {g : FuncId} (eg : Enters P g) (caps : List Value) (w : World) : (invoke (dF g caps).target (dF g caps).args).run P w = .ok (.enter g caps.toArray) w := by
 have := eg (#[] ++ caps.toArray) w
 have e1 : (#[] ++ caps.toArray : Array Value) = caps.toArray := by simp
 rw [e1] at this
 simpa [invoke, dF] using this
theorem zt {fn : Func} {R : Ending → World → Prop} {P : Program} {g : FuncId} {caps : List Value} {L' : Jy} (eg : Enters P g)
  (hD : ∀ w, St c L X w → CallsDIn (FW none) 0 P g caps.toArray .returning w (Jkr c L' X)) (h : HQ c d l L' X (bodyPostM (FW none) 0 P fn R .ret)) : HQ c (dF g caps :: d) l L X (bodyPostM (FW none) 0 P fn R .ret) := fun a w hf hs => by
 show LeavesInM _ _ _ _ _ _ _ _ _
 rw [hf.defers]
 refine ⟨by simp, .inr ⟨fun hdep => (by cases hdep), _, _, g, caps.toArray, rfl, Jeo eg caps w, fun _ _ => trivial, ?_⟩⟩
 refine CallsDIn.mono (hD w hs) ?_
 rintro e u' w' ⟨⟨x, rfl⟩, hu, hs'⟩
 have h1 := h { tmps := a.tmps, defers := d } w' ⟨hf.size, rfl, hf.slots⟩ hs'
 simp only [hu]
 exact h1
theorem Jia {fn : Func} {R : Ending → World → Prop} {P : Program} {g : FuncId} {caps : List Value} {L' : Jy} {ch : List PanicEntry} (eg : Enters P g)
  (hD : ∀ w, St c L X w → CallsDIn (FW none) 0 P g caps.toArray (.panicking ch) w (Jkr c L' X)) (h : HQ c d l L' X (bodyPostM (FW none) 0 P fn R .ret)) : HQ c (dF g caps :: d) l L X (bodyPostM (FW none) 0 P fn R (.panic ch)) := fun a w hf hs => by
 show LeavesInM _ _ _ _ _ _ _ _ _
 rw [hf.defers]
 refine ⟨by simp, .inr ⟨fun hdep => (by cases hdep), _, _, g, caps.toArray, rfl, Jeo eg caps w, fun _ _ => trivial, ?_⟩⟩
 refine CallsDIn.mono (hD w hs) ?_
 rintro e u' w' ⟨⟨x, rfl⟩, hu, hs'⟩
 have h1 := h { tmps := a.tmps, defers := d } w' ⟨hf.size, rfl, hf.slots⟩ hs'
 simp only [hu]
 exact h1
end
def HCS (c : Cx) (d : List Deferred) (l : KK) (L : Jy) (X : XP) (code : Code) (cs : List Frame) (Q : Exit → Act → List Frame → World → Prop) : Prop :=
 ∀ a w, Fr c.n d l a → St c L X w → code.wpSIn (FW none) 0 c.P Q a cs w
def HS (c : Cx) (d : List Deferred) (l : KK) (L : Jy) (X : XP) (ops : Array Oper) (rest : List Nat) (cs : List Frame) (Q : Exit → Act → List Frame → World → Prop) : Prop :=
 ∀ a w, Fr c.n d l a → St c L X w → wpOpsSIn (FW none) 0 c.P ops Q rest a cs w
section
variable {c : Cx} {l : KK} {L : Jy} {X : XP} {Q : Exit → Act → List Frame → World → Prop} {d : List Deferred} {cs : List Frame}
variable {ops : Array Oper} {rest : List Nat} {i k : Nat} {v : Value} {o : Oper}
theorem vw {code : Code} (hro : c.ro = none) (h : HC c d l L X code (fun e a w => Q e a cs w)) : HCS c d l L X code cs Q := fun a w hf hs => by
 have h1 := h a w hf hs
 rw [hro] at h1
 exact wpSIn_of_wpIn rfl h1
theorem vx {x y : Code} (h : ∀ K, (∀ d l L X cs, HCS c d l L X y cs Q → HQ c d l L X (fun a w => K a cs w)) → HCS c d l L X x cs (Exit.thenS K Q)) : HCS c d l L X (x.seq y) cs Q :=
 fun a w hf hs => wpSIn_seq (h (fun a cs w => y.wpSIn (FW none) 0 c.P Q a cs w) (fun _ _ _ _ _ hy a w hf hs => hy a w hf hs) a w hf hs)
theorem XV {id : Nat} {ops : Array Oper} (h : HS c d l L X ops (List.range ops.size) cs Q) : HCS c d l L X (.region id ops false) cs Q := fun a w hf hs => wpSIn_region (h a w hf hs)
theorem zu (h : HQ c d l L X (fun a w => Q .normal a cs w)) : HS c d l L X ops [] cs Q := h
theorem XW (ho : WM ops.toList k = some o) (hg : Kx l ops o = some true) (hd : o.dst = some i) (hi : Nat.ble (i + 1) c.n = true) (hr : JP c d l L X o v) (h : HS c d ((i, v) :: l) L X ops rest cs Q) : HS c d l L X ops (k :: rest) cs Q := fun a w hf hs => by
 have hk : ops[k]? = some o := by rw [← QI ho]
 simp only [wpOpsSIn, hk]
 refine ⟨KF, ?_⟩
 rw [if_pos (JW hf hg), hr a w hf hs]
 rw [hd]
 exact h _ w (hf.put (Nat.le_of_ble_eq_true hi)) hs
def Jb5 (cs : List Frame) : Value := match recoverD cs with | some (v, _) => v | none => .nilIface
def Jb6 (cs : List Frame) : List Frame := match recoverD cs with | some (_, cs') => cs' | none => cs
theorem XX (ho : WM ops.toList k = some o) (hg : Kx l ops o = some true) (hd : o.dst = some i) (hi : Nat.ble (i + 1) c.n = true) (hr : ∀ a w, Fr c.n d l a → (execOp a.eval o).run c.P w = .ok .recover w) {v : Value} {cs' : List Frame} (hv : Jb5 cs = v) (hc : Jb6 cs = cs') (h : HS c d ((i, v) :: l) L X ops rest cs' Q) : HS c d l L X ops (k :: rest) cs Q := fun a w hf hs => by
 have hk : ops[k]? = some o := by rw [← QI ho]
 simp only [wpOpsSIn, hk]
 refine ⟨KF, ?_⟩
 rw [if_pos (JW hf hg), hr a w hf, hd]
 have h1 := h _ w (hf.put (Nat.le_of_ble_eq_true hi)) hs
 subst hv hc
 unfold Jb5 Jb6 at h1
 cases e : recoverD cs with
 | none => rw [e] at h1; exact h1
 | some q => obtain ⟨u, cs2⟩ := q; rw [e] at h1; exact h1
theorem Jep {fn : Func} {R : Ending → FrameMode → World → Prop} {rs : List ResultVar} {vs : List Value} {P : Program} {c₀ : Frame} {cs cs' : List Frame} {u' : FrameMode} (hP : c.P = P) (hcs : cs' = { c₀ with mode := u' } :: cs) (hr : fn.results = rs.toArray) (h : ResAll c l L rs vs) (hR : ∀ w, St c L X w → R (.returned (Q2 vs)) u' w) :
  HQ c [] l L X (fun a w => bodyPostS P fn c₀ cs R .ret a cs' w) := fun a w hf hs => ⟨hf.defers, u', hcs, _, hP ▸ Zi hf hs h hr, hR w hs⟩
theorem X9 {fn : Func} {R : Ending → FrameMode → World → Prop} {rs : List ResultVar} {vs : List Value} {P : Program} {c₀ : Frame} {cs cs' : List Frame} {u' : FrameMode} (hP : c.P = P) (hcs : cs' = { c₀ with mode := u' } :: cs) (hr : fn.results = rs.toArray) (h : ResAll c l L rs vs) (hR : ∀ w, St c L X w → R (.returned (Q2 vs)) u' w) :
  HQ c [] l L X (fun a w => bodyPostS P fn c₀ cs R .normal a cs' w) := Jep (R := R) (fn := fn) hP hcs hr h hR
end
theorem VM {P : Program} {f : FuncId} {fn : Func} {code : Code} {vs : List Value} {L : Jy} {X : XP} {u : FrameMode} {w : World} {R : Ending → FrameMode → World → Prop} (c : Cx) (hf : P.funcs[f]? = some fn) (hb : fn.body = some code) (hc : c.P = P) (hn : c.n = fn.ntmps)
  (hlen : Nat.ble vs.length fn.ntmps = true) (hs : St c L X w) (h : ∀ c₀ cs, c₀.mode = u → HCS c [] (Vr 0 vs) L X code (c₀ :: cs) (bodyPostS P fn c₀ cs R)) : CallsDIn (FW none) 0 P f vs.toArray u w R := by
 refine callsDIn_of_wpSIn hf hb trivial fun c₀ cs hu => ?_
 have h1 := h c₀ cs hu _ w (jZ (n := c.n) (by rw [hn]; exact Nat.le_of_ble_eq_true hlen)) hs
 rw [hc, hn] at h1
 exact h1
theorem Jeq {c₀ : Frame} {cs : List Frame} {v : Value} (h : c₀.mode = .panicking (vv v)) : Jb5 (c₀ :: cs) = v ∧ Jb6 (c₀ :: cs) = { c₀ with mode := .panicking [{ v, recovered := true }] } :: cs := by
 have e : recoverD (c₀ :: cs) = some (v, { c₀ with mode := .panicking [{ v, recovered := true }] } :: cs) := by simp only [recoverD, h, vv]
 unfold Jb5 Jb6
 rw [e]
 exact ⟨rfl, rfl⟩
theorem wG {c₀ : Frame} {cs : List Frame} (h : c₀.mode = .returning) : Jb5 (c₀ :: cs) = .nilIface ∧ Jb6 (c₀ :: cs) = { c₀ with mode := .returning } :: cs := by
 have e : recoverD (c₀ :: cs) = none := by simp only [recoverD, h]
 unfold Jb5 Jb6
 rw [e]
 refine ⟨rfl, ?_⟩
 cases c₀
 simp only at h
 rw [h]
def Jer : KK → Nat → Option Value
 | [], _ => none
 | (j, v) :: l, i => match Nat.beq i j with | true => some v | false => Jer l i
def Jns (ops : List Oper) (j : Nat) : Option Nat := match WM ops j with | some o => o.dst | none => none
def zv (ops : List Oper) (tv : KK) : List Edge → KK
 | [] => []
 | e :: es => match Jns ops e.on, Jer tv e.on with | some i, some v => (i, v) :: zv ops tv es | _, _ => zv ops tv es
def Jks (ops : List Oper) (tv : KK) (j : Nat) : KK := match WM ops j with | some o => zv ops tv (o.after.toList.filter fun e => Region.binds .any e) | none => []
inductive BoomOk (c : Cx) (d : List Deferred) (l : KK) (L : Jy) (X : XP) (ops : List Oper) (tv : KK) : KK → Prop
  | nil : BoomOk c d l L X ops tv []
  | cons {j : Nat} {v : Value} {o : Oper} {ds rest : KK} (h1 : WM ops j = some o) (h2 : Jks ops tv j = ds) (h3 : JP c d (ds ++ l) L X o v) (h : BoomOk c d l L X ops tv rest) : BoomOk c d l L X ops tv ((j, v) :: rest)
theorem BoomOk.get {c : Cx} {d : List Deferred} {l : KK} {L : Jy} {X : XP} {ops : List Oper} {tv : KK} : ∀ {tw : KK}, BoomOk c d l L X ops tv tw → ∀ p ∈ tw, ∃ o, WM ops p.1 = some o ∧ JP c d (Jks ops tv p.1 ++ l) L X o p.2
 | _, .nil, p, h => by cases h
 | _, .cons h1 h2 h3 h, p, hp => by
  rcases List.mem_cons.1 hp with rfl | hp
  ·exact ⟨_, h1, h2 ▸ h3⟩
  ·exact h.get p hp
section
variable {c : Cx} {X : XP} {S : Jy} {ops : Array Oper} {md : Region.Mode}
def wH (md : Region.Mode) (ops : Array Oper) (tb : Ye) (m : Nat) (G : Array Bool → Bool) : List Nat → Array Bool → Bool
  | [], listed => G listed
  | k :: r, listed => Nat.blt k m && (match (tb k).isTurn with
      | true => decide (Region.ready md ops listed = [k])
      | false => (Region.ready md ops listed).contains k && Region.free md ops listed k && (!(tb k).isGrow || okG md ops tb k r.length listed)) && wH md ops tb m G r (listed.setIfInBounds k true)
theorem qu {tb : Ye} {m : Nat} {G : Array Bool → Bool} {T : Jy → Act → Prop} (hsel : Region.noSelect ops = true) (hTp : ∀ E E' a, E.Perm E' → T E a → T E' a) (hbd : ∀ i, i < m → vj md ops tb m i) (hdep : zl ops tb m) (hlt : ∀ i, i < m → ∀ listed, HeadInv md ops m listed → listed.getD i true = false → ∀ j ∈ Region.ready md ops listed, j < m)
  (hseq : ∀ listed, G listed = true → ∀ j ∈ Region.ready md ops listed, m ≤ j) :
  ∀ (l : List Nat) (listed : Array Bool) (E : Jy) (a : Act), HeadInv md ops m listed → SubS S E →
  wH md ops tb m G l listed = true → vk c X S ops tb T l E a →
  VL c X S ops md tb m (fun E' listed' a' => G listed' = true ∧ T E' a') l.length listed E a
 | [], listed, E, a, _, _, hB, h => ⟨by simpa [wH] using hB, h⟩
 | k :: l, listed, E, a, inv, hSE, hB, h => by
  simp only [wH, Bool.and_eq_true] at hB
  obtain ⟨⟨hkm, hr⟩, hB'⟩ := hB
  have hkm : k < m := by
   have : k + 1 ≤ m := Nat.le_of_ble_eq_true hkm
   omega
  have hr' : k ∈ Region.ready md ops listed := by
   cases ht : (tb k).isTurn with
   | true => rw [ht] at hr; simp only [decide_eq_true_eq] at hr; rw [hr]; exact List.mem_cons_self
   | false => rw [ht] at hr; simp only [Bool.and_eq_true] at hr; simpa using hr.1.1
  have next : ∀ E' a', SubS S E' → vk c X S ops tb T l E' a' → VL c X S ops md tb m (fun E' listed' a' => G listed' = true ∧ T E' a') l.length (listed.setIfInBounds k true) E' a' := fun E' a' hSE' hw =>
   qu hsel hTp hbd hdep hlt hseq l _ E' a' (inv.set hr' hkm) hSE' hB' hw
  obtain ⟨o, h0, hm⟩ := h
  have quiet : (tb k).isTurn = false → ∀ v, (tb k = .quiet ∨ tb k = .pure) → (YQ c E X ops o v a ∧ (tb k = .pure → YP c X S ops o v a)) → vk c X S ops tb T l E (a.put o.dst v) →
    VL c X S ops md tb m (fun E' listed' a' => G listed' = true ∧ T E' a') (l.length + 1) listed E a := fun hnt v hai hy hw => by
   rw [hnt] at hr
   simp only [Bool.and_eq_true] at hr
   exact jk h0 hai (Region.noSelect_spec hsel) (hbd k hkm) hdep (hlt k hkm) (fun E' listed' a' hL => hseq _ hL.1) l.length listed E a inv (Region.free_spec h0 hr.1.2) hSE hr' hy (next _ _ hSE hw)
  cases ha : tb k with
  | quiet => rw [ha] at hm; obtain ⟨v, hy, hw⟩ := hm; exact quiet (by rw [ha]; rfl) v (.inl ha) ⟨hy, fun e => by rw [ha] at e; cases e⟩ hw
  | pure => rw [ha] at hm; obtain ⟨v, hy, hw⟩ := hm; exact quiet (by rw [ha]; rfl) v (.inr ha) ⟨hy.quiet hSE, fun _ => hy⟩ hw
  | grow e =>
   rw [ha] at hm hr
   simp only [Kb.isTurn, Kb.isGrow, Bool.not_true, Bool.false_or, Bool.and_eq_true] at hr
   rcases hm with ⟨h1, h2⟩ | ⟨h1, h2⟩
   ·exact X8 h0 hkm hdep (Region.noSelect_spec hsel) (fun E E' listed a hp hT => ⟨hT.1, hTp _ _ _ hp hT.2⟩) (hlt k hkm) (fun E' listed' a' hL => hseq _ hL.1) l.length listed E a inv (Region.free_spec h0 hr.1.2) hSE (by rw [ha]; rfl) hr' hr.2 h1 fun x => next _ _ hSE.grow (h2 x)
   ·exact Yq h0 (by rw [ha]; rfl) hdep (Region.noSelect_spec hsel) (hlt k hkm) (fun E' listed' a' hL => hseq _ hL.1) l.length listed E a inv (Region.free_spec h0 hr.1.2) hSE hr' h1 (next _ _ hSE h2)
  | dep ts e =>
   rw [ha] at hm hr
   simp only [Kb.isTurn, Kb.isGrow, Bool.not_true, Bool.false_or, Bool.and_eq_true] at hr
   rcases hm with ⟨h1, h2⟩ | ⟨h1, h2⟩
   ·exact X8 h0 hkm hdep (Region.noSelect_spec hsel) (fun E E' listed a hp hT => ⟨hT.1, hTp _ _ _ hp hT.2⟩) (hlt k hkm) (fun E' listed' a' hL => hseq _ hL.1) l.length listed E a inv (Region.free_spec h0 hr.1.2) hSE (by rw [ha]; rfl) hr' hr.2 h1 fun x => next _ _ hSE.grow (h2 x)
   ·exact Yq h0 (by rw [ha]; rfl) hdep (Region.noSelect_spec hsel) (hlt k hkm) (fun E' listed' a' hL => hseq _ hL.1) l.length listed E a inv (Region.free_spec h0 hr.1.2) hSE hr' h1 (next _ _ hSE h2)
  | turn =>
   rw [ha] at hm hr
   simp only [Kb.isTurn, decide_eq_true_eq] at hr
   refine ⟨fun e => (by rw [e] at hr'; cases hr'), fun i hi => ?_⟩
   rw [hr] at hi
   have hik : i = k := by simpa using hi
   subst hik
   refine ⟨hkm, o, h0, ?_⟩
   rw [ha]
   rcases hm with ⟨α, V, G, h1, h2⟩ | ⟨h1, h2⟩
   ·exact .inl ⟨α, V, G, h1, fun x => ⟨(h2 x).1, next _ _ (h2 x).1 (h2 x).2⟩⟩
   ·exact .inr ⟨h1, next _ _ hSE h2⟩
end
def Jo9 (ops : List Oper) (m : Nat) : Bool := (List.range ops.length).all fun t => Nat.blt t m || (List.range m).all fun i => Region.waitsFor .any ops.toArray t i
def wI (n m : Nat) : Array Bool := (List.replicate m true ++ List.replicate (n - m) false).toArray
def Jes (ops : List Oper) (tb : Ye) (m : Nat) (order : List Nat) : Bool :=
 (ops.all fun o => Kq o.op) && Region.noSelect ops.toArray && Nat.ble m ops.length && Nat.beq order.length m && Jo9 ops m && vl .any ops.toArray tb m && Jlp ops.toArray tb m &&
 wH .any ops.toArray tb m (fun z => decide (z = wI ops.length m)) order (Array.replicate ops.length false)
section
variable {c : Cx} {l : KK} {L E : Jy} {X : XP} {Q : Exit → Act → World → Prop} {d : List Deferred}
variable {tb : Ye} {S : Jy}
def HN (c : Cx) (d : List Deferred) (l : KK) (L : Jy) (X : XP) (ops : Array Oper) (g : Nat) (listed : Array Bool) (Q : Exit → Act → World → Prop) : Prop :=
 ∀ a w, Fr c.n d l a → St c L X w → wpAnyIn (FW c.ro) 0 c.P .any ops Q g listed a w
theorem wJ {id : Nat} {ops : List Oper} (S : Jy) (tab : List (Nat × Kb)) (m : Nat) (order : List Nat) (hm : c.P.follows .mixedOrders = true) (hB : Jes ops (jl tab) m order = true) (hSL : SubS S L)
  (h : HB c d l L X S ops.toArray (jl tab) order (fun E a' => ∀ w, St c E X w → wpAnyIn (FW c.ro) 0 c.P .any ops.toArray Q (ops.length - m) (wI ops.length m) a' w)) : HC c d l L X (.region id ops.toArray true) Q := fun a w hf hs => by
 simp only [Jes, Bool.and_eq_true] at hB
 obtain ⟨⟨⟨⟨⟨⟨⟨h1, hsel⟩, hle⟩, hol⟩, hall⟩, hcr⟩, hdp⟩, hlex⟩ := hB
 have hle' := Nat.le_of_ble_eq_true hle
 have hol' := Nat.eq_of_beq_eq_true hol
 have hnd : ∀ (j : Nat) (o : Oper), ops.toArray[j]? = some o → Kq o.op = true := fun j o ho => List.all_eq_true.1 h1 o (List.mem_of_getElem? (by simpa using ho))
 have hlt : ∀ i, i < m → ∀ listed, HeadInv .any ops.toArray m listed → listed.getD i true = false → ∀ j ∈ Region.ready .any ops.toArray listed, j < m := by
  intro i hi listed inv hun j hj
  rcases Nat.lt_or_ge j m with hjm | hjm
  exact hjm
  obtain ⟨_, oj, hoj, hw⟩ := mem_ready.1 hj
  have hjs : j < ops.length := by simpa using (Array.getElem?_eq_some_iff.1 hoj).1
  have h2 := List.all_eq_true.1 hall j (List.mem_range.2 hjs)
  rw [Bool.or_eq_true] at h2
  rcases h2 with h2 | h2
  have : j + 1 ≤ m := Nat.le_of_ble_eq_true h2
  omega
  have h3 := List.all_eq_true.1 h2 i (List.mem_range.2 hi)
  obtain ⟨o2, ho2, e, he, hb, hon⟩ := Region.waitsFor_spec h3
  have : o2 = oj := Option.some.inj (ho2.symm.trans hoj)
  subst this
  have h4 := hw e he hb
  rw [hon] at h4
  have h5 := getD_both hun
  rw [h5] at h4; cases h4
 have inv0 : HeadInv .any ops.toArray m (Array.replicate ops.length false) :=
  ⟨by simp, fun j oj _ hl => (by rw [getD_replicate_false] at hl; cases hl), fun t _ ht => getD_in (by simpa using ht) (getD_replicate_false _ _)⟩
 have hseq : ∀ listed, decide (listed = wI ops.length m) = true → ∀ j ∈ Region.ready .any ops.toArray listed, m ≤ j := by
  intro listed hq j hj
  rw [decide_eq_true_eq] at hq
  subst hq
  obtain ⟨hu, _⟩ := mem_ready.1 hj
  rcases Nat.lt_or_ge j m with hjm | hjm
  exfalso
  have : (wI ops.length m).getD j true = true := by
   unfold wI
   rw [Array.getD_eq_getD_getElem?, List.getElem?_toArray, List.getElem?_append_left (by simpa using hjm), List.getElem?_replicate, if_pos hjm]; rfl
  rw [this] at hu; cases hu
  exact hjm
 have H := qu (c := c) (X := X) (md := .any) hsel (fun E E' a hp hT w hs => hT w (hs.perm hp.symm)) (fun i hi => Yr hcr hi) (qm hdp) hlt hseq order _ L a inv0 hSL hlex (h a hf)
 refine wpIn_region_any hm ?_
 have := vi (Q' := Q) (g := ops.length - m) hnd (fun E' listed a' w' _ hw' hL => by
  have h5 := hL.1
  rw [decide_eq_true_eq] at h5
  subst h5
  exact hL.2 w' hw') _ _ _ _ _ hSL (show St c L X w.drew from hs.drew) H
 rw [hol', show m + (ops.length - m) = ops.toArray.size from by simp; omega] at this
 simpa using this
variable {ops : Array Oper} {g : Nat} {listed : Array Bool}
theorem Jaa (h : HN c d l E X ops g listed Q) : HB c d l E X S ops tb [] (fun E' a' => ∀ w, St c E' X w → wpAnyIn (FW c.ro) 0 c.P .any ops Q g listed a' w) := fun a hf w hs => h a w hf hs
theorem Jet (hr : Region.ready .any ops listed = []) (h : HQ c d l L X (Q .normal)) : HN c d l L X ops 0 listed Q := fun a w hf hs => ⟨hr, h a w hf hs⟩
def HNO (c : Cx) (d : List Deferred) (l : KK) (L : Jy) (X : XP) (ops : Array Oper) (g : Nat) (listed : Array Bool) (Q : Exit → Act → World → Prop) (i : Nat) : Prop :=
 ∀ a w, Fr c.n d l a → St c L X w → wpOpIn (FW c.ro) 0 c.P ops Q i (wpAnyIn (FW c.ro) 0 c.P .any ops Q g (listed.setIfInBounds i true)) a w
inductive AllN (p : Nat → Prop) : List Nat → Prop
  | nil : AllN p []
  | cons {i : Nat} {r : List Nat} (h : p i) (hr : AllN p r) : AllN p (i :: r)
theorem AllN.get {p : Nat → Prop} : ∀ {r : List Nat}, AllN p r → ∀ i ∈ r, p i
 | _, .cons h hr, i, hi => by
  rcases List.mem_cons.1 hi with rfl | hi
  ·exact h
  ·exact hr.get i hi
theorem KE {is : List Nat} (hr : Region.ready .any ops listed = is) (hne : is.isEmpty = false) (h : AllN (HNO c d l L X ops g listed Q) is) : HN c d l L X ops (g + 1) listed Q := fun a w hf hs =>
 ⟨fun h0 => (by rw [h0] at hr; subst hr; cases hne), fun i hi => h.get i (hr ▸ hi) a w hf hs⟩
theorem Qa {i : Nat} {o : Oper} (ho : WM ops.toList i = some o) (hn : Kq o.op = true)
  (h : HL c d l L X ops [o] (Exit.then (fun a w => wpAnyIn (FW c.ro) 0 c.P .any ops Q g (listed.setIfInBounds i true) a w) Q)) : HNO c d l L X ops g listed Q i := fun a w hf hs => by
 have hk : ops[i]? = some o := by rw [← QI ho]
 have h1 := h a w hf hs
 unfold wpListIn at h1
 unfold wpOpIn
 simp only [hk]
 by_cases hw : Region.wanted o (yielded ops a.tmps) = true
 ·rw [if_pos hw] at h1 ⊢
  obtain ⟨hab, h2⟩ := h1
  refine ⟨KF, ?_⟩
  rw [Oper.semAt_eq _ _ _ (QT hn)] at h2 ⊢
  generalize (execOp a.eval o).run c.P w = r at *
  cases r with
  | ok x w' =>
   cases x <;> simp only [Oper.uponIn] at h2 ⊢ <;>
    first
     | exact h2
     | exact ⟨h2.1, CallsIn.mono h2.2 (fun e w'' he => by cases e <;> exact he)⟩
     | exact ⟨h2.1, RowsIn.mono h2.2 (fun _ _ he => he)⟩
     | exact ⟨h2.1, RoundIn.mono h2.2 (fun e w'' he => by cases e <;> exact he)⟩
  | halt x w' => cases x <;> simp only [Oper.uponIn] at h2 ⊢ <;> exact h2
 ·rw [if_neg hw] at h1 ⊢
  exact ⟨KF, h1.2⟩
theorem QF {i : Nat} (h : HN c d l L X ops g (listed.setIfInBounds i true) Q) : HL c d l L X ops [] (Exit.then (fun a w => wpAnyIn (FW c.ro) 0 c.P .any ops Q g (listed.setIfInBounds i true) a w) Q) := h
end
end Go.SL
namespace Go.Proofs.YtckoepmdmhdepaaGreatDoor
set_option linter.all false
open Go.SL Go.RowKit Go.Shelf
theorem Jeu : Go.Proofs.Enters Tryz.prog 33 := Go.Proofs.enters_of Tryz.func33 (by kernel_rfl) rfl
theorem Jb7 : Go.Proofs.Enters Tryz.prog 34 := Go.Proofs.enters_of Tryz.func34 (by kernel_rfl) rfl
theorem jP : Go.Proofs.Enters Tryz.prog 38 := Go.Proofs.enters_of Tryz.func38 (by kernel_rfl) rfl
theorem vy : Go.Proofs.Enters Tryz.prog 39 := Go.Proofs.enters_of Tryz.func39 (by kernel_rfl) rfl
theorem Jib : Go.Proofs.Enters Tryz.prog 41 := Go.Proofs.enters_of Tryz.func41 (by kernel_rfl) rfl
theorem Jb8 : Go.Proofs.Enters Tryz.prog 42 := Go.Proofs.enters_of Tryz.func42 (by kernel_rfl) rfl
theorem Jlz : Go.Proofs.Enters Tryz.prog 43 := Go.Proofs.enters_of Tryz.func43 (by kernel_rfl) rfl
theorem Jl0 : Go.Proofs.Enters Tryz.prog 45 := Go.Proofs.enters_of Tryz.func45 (by kernel_rfl) rfl
theorem ZB : Go.Proofs.Enters Tryz.prog 47 := Go.Proofs.enters_of Tryz.func47 (by kernel_rfl) rfl
theorem Jb9 : Go.Proofs.Enters Tryz.prog 50 := Go.Proofs.enters_of Tryz.func50 (by kernel_rfl) rfl
theorem YX : Go.Proofs.Enters Tryz.prog 51 := Go.Proofs.enters_of Tryz.func51 (by kernel_rfl) rfl
theorem Jic : Go.Proofs.Enters Tryz.prog 52 := Go.Proofs.enters_of Tryz.func52 (by kernel_rfl) rfl
theorem zw : Go.Proofs.Enters Tryz.prog 77 := Go.Proofs.enters_of Tryz.func77 (by kernel_rfl) rfl
theorem Jid : Go.Proofs.Enters Tryz.prog 78 := Go.Proofs.enters_of Tryz.func78 (by kernel_rfl) rfl
theorem Jev : Go.Proofs.Enters Tryz.prog 85 := Go.Proofs.enters_of Tryz.func85 (by kernel_rfl) rfl
theorem vz : Go.Proofs.Enters Tryz.prog 98 := Go.Proofs.enters_of Tryz.func98 (by kernel_rfl) rfl
theorem Jab : Go.Proofs.Enters Tryz.prog 110 := Go.Proofs.enters_of Tryz.func110 (by kernel_rfl) rfl
theorem jw : Go.Proofs.Enters Tryz.prog 118 := Go.Proofs.enters_of Tryz.func118 (by kernel_rfl) rfl
theorem Jew : Go.Proofs.Enters Tryz.prog 120 := Go.Proofs.enters_of Tryz.func120 (by kernel_rfl) rfl
theorem WD : Go.Proofs.Enters Tryz.prog 121 := Go.Proofs.enters_of Tryz.func121 (by kernel_rfl) rfl
theorem WE : Go.Proofs.Enters Tryz.prog 122 := Go.Proofs.enters_of Tryz.func122 (by kernel_rfl) rfl
theorem Xs : Go.Proofs.Enters Tryz.prog 123 := Go.Proofs.enters_of Tryz.func123 (by kernel_rfl) rfl
theorem Jex : Go.Proofs.Enters Tryz.prog 126 := Go.Proofs.enters_of Tryz.func126 (by kernel_rfl) rfl
theorem Jac : Go.Proofs.Enters Tryz.prog 176 := Go.Proofs.enters_of Tryz.func176 (by kernel_rfl) rfl
theorem Jey : Go.Proofs.Enters Tryz.prog 177 := Go.Proofs.enters_of Tryz.func177 (by kernel_rfl) rfl
theorem wK : Go.Proofs.Enters Tryz.prog 194 := Go.Proofs.enters_of Tryz.func194 (by kernel_rfl) rfl
theorem wL : Go.Proofs.Enters Tryz.prog 205 := Go.Proofs.enters_of Tryz.func205 (by kernel_rfl) rfl
theorem Jez : Go.Proofs.Enters Tryz.prog 232 := Go.Proofs.enters_of Tryz.func232 (by kernel_rfl) rfl
theorem qv (n : Nat) : Pure Tryz.prog 200 [uV n].toArray (wV [n, 0, 0, 0]) := by
 refine JF Tryz.func200 rfl rfl fun w => ?_; refine sR fun _ hK1 => ?_; refine LN rfl fun r1 => ?_; refine nK hK1 ?_; refine sR fun _ hK2 => ?_; refine Jb rfl (LR rfl (J7 (r := [_, _, _, _]) rfl rfl) ?_)
 refine Jv (k := 0) (n := 4) (cs' := #[_, _, _, _]) (vs := #[_, _, _, _]) rfl rfl rfl rfl rfl rfl rfl (by exact Nat.le_of_ble_eq_true rfl) rfl (by first | (simp only [List.set_cons_zero, List.set_cons_succ]; exact rfl) | exact rfl) ?_; refine nK hK2 ?_; refine Jd ?_; refine Jp rfl rfl (.cons (J0 (vs := [_, _, _, _]) rfl (kn 0 rfl) rfl rfl) .nil) (fun w1 hs1 => ?_); exact ⟨rfl, hs1.keep⟩
theorem Je0 {l : List Nat} {i : Nat} (hi : i < 32) : ((List.replicate (32 - i) (0 : UInt8) ++ Qn l i).map bV).set (31 - i) (bV (UInt8.ofNat (dg l i))) = (List.replicate (32 - (i + 1)) 0 ++ Qn l (i + 1)).map bV := by
 rw [← List.map_set, show 32 - i = (31 - i) + 1 from by omega, xH, show 32 - (i + 1) = 31 - i from by omega]
 rfl
theorem vA {l : List Nat} (hl : WOk l) : Pure Tryz.prog 224 [wV l].toArray (.string (bs (Qn l 32))) := by
 refine JF Tryz.func224 rfl rfl fun w => ?_; refine sR fun _ hK1 => ?_; refine JX (cs := (l.map uV).toArray) rfl rfl rfl rfl fun r1 => ?_; refine Jb rfl ?_; refine nK hK1 ?_; refine sR fun _ hK2 => ?_; refine qQ (n := 32) (b := 1) rfl rfl rfl rfl rfl rfl rfl rfl rfl (by decide) (by decide) fun r2 => ?_; refine Jb rfl ?_; refine nK hK2 ?_; refine sQ fun _ hK3 => ?_; refine sR fun _ hK4 => ?_; refine Jb rfl ?_; refine nK hK4 ?_; refine J3 (JS (σ := Nat) (fun i => i ≤ 32) (fun i => [(1, .pointer (some ⟨r1, 0, none⟩)), (3, .slice (some ⟨r2, 0, none⟩) 32 32), (6, .int .i64 (i : Int))]) (fun i => [(r2, .cells ((List.replicate (32 - i) (0 : UInt8) ++ Qn l i).map bV).toArray 5 (0, 0)), (r1, .cells (l.map uV).toArray 29 (0, 0))]) (fun _ _ _ => True) (fun i => 32 - i) 0 (Nat.zero_le _) (lK rfl) (List.Sublist.refl _) (fun _ _ h => h) ?_); intro i hi; refine sR fun _ hK5 => ?_; refine J2 rfl ?_; refine nK hK5 ?_; refine sQ fun _ hK6 => ?_; refine cD (fun g => ?_) fun g => ?_
 refine Jg (hK6 ?_); refine sB fun _ hK8 => ?_; refine sR fun _ hK9 => ?_; refine Jb rfl (Jb rfl ?_); refine nK hK9 ?_; refine Je (Jb rfl ?_); refine Jb rfl (J2 rfl (Ke (by omega) (by omega) ?_)); refine Jb rfl (J2 rfl (Jk8 (by omega) (by omega) (by omega) ?_)); refine LR rfl (VA (j := i / 8) (m := 1) (off' := i / 8) rfl rfl rfl rfl (by omega) (by omega) (by omega)) ?_; refine LR rfl (Yl rfl (kn 1 rfl) rfl (Yn (by rw [hl.1]; omega))) ?_; refine Jb rfl (J2 rfl (Jla (by omega) ?_)); refine J2 rfl (Ke (by omega) (by omega) (LR rfl (xB (n := i % 8 * 8) rfl rfl (by omega) (show _ ≤ 64 from by omega) (by omega) (vc _ _)) ?_)); refine J2 rfl (JA (show _ = bV (UInt8.ofNat (dg l i)) from Yo _) (LR rfl (QE (j := 31 - i) (m := 1) (off' := 31 - i) rfl rfl rfl rfl (by omega) (by omega) (by omega)) ?_)); refine WS (k := 0) (off := 31 - i) (xs := (List.replicate (32 - i) (0 : UInt8) ++ Qn l i).map bV) (ys := (List.replicate (32 - (i + 1)) 0 ++ Qn l (i + 1)).map bV) rfl rfl rfl rfl rfl rfl (by simp [Qj]; omega) (Je0 (by omega)) rfl ?_; refine Jt ?_; refine Jo (hK8 ?_); refine Je (J2 rfl (Ke (by omega) (by omega) ?_)); refine Jb rfl (Jt (JU ?_)); exact JN (i + 1) (by omega) (by omega) (lK rfl) (List.Sublist.refl _) (fun _ _ h => h)
 ·refine JL (Jn ?_); refine Jn (J8 (hK3 ?_))
  have hi32 : i = 32 := by omega
  subst hi32; refine sR fun _ hK10 => ?_; refine Jb rfl ?_; refine LR rfl (Q9 (b := Qn l 32) (row := some (r2, 32, [])) (e := 5) rfl ⟨rfl, rfl⟩ (fun p hp => .inl (by rw [List.mem_singleton.1 hp]; exact List.mem_cons_self)) rfl rfl rfl) ?_; refine Jb rfl ?_; refine nK hK10 ?_; refine Jd ?_; refine pT rfl rfl rfl fun w1 hs1 => ?_; exact ⟨rfl, hs1.keep⟩
theorem jx (s : List UInt8) : Pure Tryz.prog 243 [.string (bs s)].toArray (Jhw (Z0 s)) := by
 refine JF Tryz.func243 rfl rfl fun w => ?_
 obtain ⟨f, hf⟩ : ∃ f : Nat → Nat, f = fun t => (s.getD (31 - t) 0).toNat := ⟨_, rfl⟩
 have hfl : ∀ i, f i < 256 := fun i => by rw [hf]; exact WA _
 have hfu : ZK f 32 = Zz s := by rw [hf]; rfl
 refine sR fun _ hK1 => ?_; refine LN rfl fun r1 => ?_; refine Jb rfl ?_; refine nK hK1 ?_; refine sQ fun _ hK2 => ?_; refine sR fun _ hK3 => ?_; refine Jb rfl (LR rfl (JI rfl rfl) (J2 rfl ?_)); refine nK hK3 ?_; refine cD (fun g => ?_) fun g => ?_
 refine sR fun _ hK5 => ?_; refine LR rfl (J7 (r := [_, _, _, _]) rfl rfl) ?_
 refine Jv (k := 0) (n := 4) (cs' := #[_, _, _, _]) (vs := #[_, _, _, _]) rfl rfl rfl rfl rfl rfl rfl (by exact Nat.le_of_ble_eq_true rfl) rfl (by first | (simp only [List.set_cons_zero, List.set_cons_succ]; exact rfl) | exact rfl) ?_; refine Jb rfl ?_; refine nK hK5 ?_; refine Jd (Ji ?_); refine Jp rfl rfl (.cons (J0 (vs := [_, _, _, _]) rfl (kn 0 rfl) rfl rfl) (.cons (Jk rfl) .nil)) (fun w1 hs1 => ?_); refine ⟨?_, hs1.keep⟩; rw [show Z0 s = (zW, 2) from by unfold Z0; rw [if_neg (by omega)]]; rfl
 ·refine Jg (hK2 ?_); refine sR fun _ hK6 => ?_; refine LN rfl fun r2 => ?_; refine nK hK6 ?_; refine sQ fun _ hK7 => ?_; refine sR fun _ hK8 => ?_; refine Jb rfl ?_; refine nK hK8 ?_; refine J3 (JS (σ := Nat) (fun i => i ≤ 32) (fun i => [(0, .string (bs s)), (2, .pointer (some ⟨r1, 0, none⟩)), (4, .pointer (some ⟨r2, 0, none⟩)), (10, .int .i64 (i : Int))]) (fun i => [(r2, .cells ((ZK f i).map uV).toArray 29 (0, 0)), (r1, .cells (zW.map uV).toArray 29 (0, 0))]) (fun _ _ _ => True) (fun i => 32 - i) 0 (Nat.zero_le _) (lK rfl) (List.Sublist.refl _) (fun _ _ h => h) ?_); intro i hi; refine sR fun _ hK9 => ?_; refine J2 rfl ?_; refine nK hK9 ?_; refine sQ fun _ hK10 => ?_; refine cD (fun g => ?_) fun g => ?_
  refine Jg (hK10 ?_); refine sB fun _ hK12 => ?_; refine sR fun _ hK13 => ?_; refine Jb rfl (Jb rfl ?_); refine nK hK13 ?_; refine Qs 15 (by kernel_rfl) (by kernel_rfl) ?_; refine JD rfl rfl rfl (JG rfl) ?_; refine JD rfl rfl rfl (KC rfl rfl rfl) ?_; refine Jk9 (by omega) (by omega) (by omega) ?_; refine JD rfl rfl rfl (VA (j := i / 8) (m := 1) (off' := i / 8) rfl rfl rfl rfl (by omega) (by omega) (by omega)) ?_; refine JD rfl rfl rfl (Yl rfl (kn 0 rfl) rfl (Yn (by rw [xG]; omega))) ?_; refine JD rfl rfl rfl (JG rfl) ?_; refine JD rfl rfl rfl (JG rfl) ?_; refine JD rfl rfl rfl (KC rfl rfl rfl) ?_; refine VB (by omega) (by omega) ?_; refine JD rfl rfl rfl (Kp (j := 31 - i) rfl rfl rfl (by omega) (by omega) rfl) ?_; refine JD rfl rfl rfl (KC rfl rfl rfl) ?_; refine Wl (show _ = Value.int .u64 ((f i : Nat) : Int) from by rw [hf]; exact congrArg (Value.int .u64) (wrap_u64 (by omega) (by have := WA (s.getD (31 - i) 0); omega))) ?_; refine JD rfl rfl rfl (JG rfl) ?_; refine JD rfl rfl rfl (KC rfl rfl rfl) ?_; refine Jlb (by omega) ?_; refine JD rfl rfl rfl (KC rfl rfl rfl) ?_; refine VB (by omega) (by omega) ?_; refine JD rfl rfl rfl (xC (n := i % 8 * 8) rfl rfl (by omega) (show _ ≤ 64 from by omega) (Jhv (Jkj (hfl i) (by omega)))) ?_; refine JD rfl rfl rfl (wg (op := .or) (b := (((ZK f i).getD (i / 8) 0 + f i * 2 ^ (i % 8 * 8) : Nat) : Int)) rfl rfl rfl ((Jdt hfl i).get _) (Jkj (hfl i) (by omega)) (congrArg (fun z : Nat => (z : Int)) (by rw [xF f (by omega)]; exact ze (Jdr hfl _ _)))) ?_; refine JD rfl rfl rfl (VA (j := i / 8) (m := 1) (off' := i / 8) rfl rfl rfl rfl (by omega) (by omega) (by omega)) ?_; refine Q8 ?_; refine WS (k := 0) (off := i / 8) (xs := (ZK f i).map uV) (ys := (ZK f (i + 1)).map uV) rfl rfl rfl rfl rfl rfl (by simp [xG]; omega) (Jdu (Jds f (by omega))) rfl ?_; refine Jt ?_; refine Jo (hK12 ?_); refine Je (J2 rfl (Ke (by omega) (by omega) ?_)); refine Jb rfl (Jt (JU ?_)); exact JN (i + 1) (by omega) (by omega) (lK rfl) (List.Sublist.refl _) (fun _ _ h => h)
  ·refine JL (Jn ?_); refine Jn (J8 (hK7 ?_)); refine sQ fun _ hK14 => ?_
   have hi32 : i = 32 := by omega
   subst hi32; refine Je (LR rfl (Jm (xs := (ZK f 32).map uV) rfl (kn 0 rfl) rfl rfl rfl) (Js (k := 1) (n := 4) (ys := (ZK f 32).map uV) rfl rfl rfl rfl rfl rfl rfl rfl rfl ?_)); refine Jb rfl ?_; refine nK hK14 ?_; refine Jd ?_; refine Jp rfl rfl (.cons (J0 (vs := [_, _, _, _]) rfl (kn 1 rfl) rfl rfl) (.cons (Jk rfl) .nil)) (fun w1 hs1 => ?_); refine ⟨?_, hs1.keep⟩; rw [show Z0 s = (Zz s, 0) from by unfold Z0; rw [if_pos (by omega)], ← hfu]; rfl
theorem vB {l : List Nat} (hl : WOk l) : Pure Tryz.prog 204 [wV l].toArray (zh l) := by
 refine JF Tryz.func204 rfl rfl fun w => ?_; refine sR fun _ hK1 => ?_; refine JX (cs := (l.map uV).toArray) rfl rfl rfl rfl fun r1 => ?_; refine Jb rfl (Jb rfl ?_); refine nK hK1 ?_; refine sQ fun _ hK2 => ?_; refine sQ fun _ hK3 => ?_; refine Qs 5 (by kernel_rfl) (by kernel_rfl) ?_; refine JD rfl rfl rfl (Jm (xs := l.map uV) (n := 4) rfl (kn 0 rfl) rfl rfl (by rw [List.length_map, hl.1])) ?_
 refine JD rfl rfl rfl (VA (j := 0) rfl rfl rfl rfl rfl (by first | decide | omega) (by first | (simp only [Nat.zero_add, Nat.reduceAdd, Nat.reduceMul, Nat.zero_mul, Nat.mul_one, Nat.add_zero]; exact rfl) | exact rfl)) ?_; refine JD rfl rfl rfl (Yl rfl (kn 0 rfl) rfl (Yn (by rw [hl.1]; omega))) ?_; refine VT rfl rfl rfl (enters_of Tryz.func200 (by kernel_rfl) rfl) (qv (l.getD 0 0)) ?_; refine JD rfl rfl rfl (Jhs (xs := l.map uV) (ys := [l.getD 0 0, 0, 0, 0].map uV) (n := 4) rfl rfl rfl rfl rfl (by kernel_rfl) (by rw [List.length_map, hl.1]) rfl (qi rfl _) (qi rfl _)) ?_; refine Wl (show _ = Value.bool (!WT l) from congrArg (fun z => Value.bool (!z)) (xL (by rw [hl.1]; rfl))) ?_; refine Q8 ?_; refine nK hK3 ?_; refine cD (fun g => ?_) fun g => ?_
 refine sR fun _ hK5 => ?_; refine Jb rfl (Jb rfl ?_); refine nK hK5 ?_; refine Jd (Ji ?_); refine Jp rfl rfl (.cons (Jk rfl) (.cons (Jk rfl) .nil)) (fun w1 hs1 => ?_); refine ⟨?_, hs1.keep⟩
 (have hsm : WT l = false := by assumption
  unfold zh; simp [Q2, hsm, uV])
 ·refine Jg (hK2 ?_); refine sR fun _ hK6 => ?_
  refine LR rfl (VA (j := 0) rfl rfl rfl rfl rfl (by first | decide | omega) (by first | (simp only [Nat.zero_add, Nat.reduceAdd, Nat.reduceMul, Nat.zero_mul, Nat.mul_one, Nat.add_zero]; exact rfl) | exact rfl)) ?_; refine LR rfl (Yl rfl (kn 0 rfl) rfl (Yn (by rw [hl.1]; omega))) ?_; refine Jb rfl (Jb rfl ?_); refine nK hK6 ?_; refine Jd ?_; refine Jp rfl rfl (.cons (Jk rfl) (.cons (Jk rfl) .nil)) (fun w1 hs1 => ?_); refine ⟨?_, hs1.keep⟩
  (have hsm : WT l = true := by assumption
   unfold zh; simp [Q2, hsm, uV]; done)
end Go.Proofs.YtckoepmdmhdepaaGreatDoor
namespace Go.Proofs
open Go.Shelf
def Tryz.lays156_ren : Go.Shelf.Ren := ⟨fun | 156 => 177 | 165 => 231 | 166 => 77 | 169 => 78 | 240 => 172 | 241 => 265 | 276 => 229 | 277 => 315 | n => n, fun | 31 => 37 | 9 => 9 | 3 => 3 | 4 => 4 | 0 => 0 | 20 => 20 | 72 => 154 | 76 => 157 | 70 => 152 | 37 => 76 | 75 => 156 | 127 => 251 | 164 => 321 | 5 => 5 | 80 => 159 | n => n, fun | n => n⟩
theorem Tryz.lays156 : Go.Proofs.Lays.n156 Tryz.prog Tryz.lays156_ren := {
 mixed := by kernel_rfl
 f156 := Tryz.func177.trans (congrArg some (by kernel_rfl))
 f165 := Tryz.func231.trans (congrArg some (by kernel_rfl))
 f166 := Tryz.func77.trans (congrArg some (by kernel_rfl))
 f169 := Tryz.func78.trans (congrArg some (by kernel_rfl))
 f240 := Tryz.func172.trans (congrArg some (by kernel_rfl))
 f241 := Tryz.func265.trans (congrArg some (by kernel_rfl))
 f276 := Tryz.func229.trans (congrArg some (by kernel_rfl))
 f277 := Tryz.func315.trans (congrArg some (by kernel_rfl))
 t0 := Tryz.underlying0
 a0 := Tryz.isAgg0
 z0 := Tryz.sizeOf0
 v0 := Tryz.zeroValue0
 t3 := Tryz.underlying3
 a3 := Tryz.isAgg3
 z3 := Tryz.sizeOf3
 v3 := Tryz.zeroValue3
 t4 := Tryz.underlying4
 a4 := Tryz.isAgg4
 z4 := Tryz.sizeOf4
 v4 := Tryz.zeroValue4
 t9 := Tryz.underlying9
 a9 := Tryz.isAgg9
 z9 := Tryz.sizeOf9
 v9 := Tryz.zeroValue9
 t20 := Tryz.underlying20
 a20 := Tryz.isAgg20
 z20 := Tryz.sizeOf20
 v20 := Tryz.zeroValue20
 t31 := Tryz.underlying37
 a31 := Tryz.isAgg37
 z31 := Tryz.sizeOf37
 v31 := Tryz.zeroValue37
 t37 := Tryz.underlying76
 a37 := Tryz.isAgg76
 z37 := Tryz.sizeOf76
 v37 := Tryz.zeroValue76
 t70 := Tryz.underlying152
 a70 := Tryz.isAgg152
 z70 := Tryz.sizeOf152
 v70 := Tryz.zeroValue152
 t72 := Tryz.underlying154
 a72 := Tryz.isAgg154
 z72 := Tryz.sizeOf154
 v72 := Tryz.zeroValue154
 t75 := Tryz.underlying156
 a75 := Tryz.isAgg156
 z75 := Tryz.sizeOf156
 v75 := Tryz.zeroValue156
 t76 := Tryz.underlying157
 a76 := Tryz.isAgg157
 z76 := Tryz.sizeOf157
 v76 := Tryz.zeroValue157
 t127 := Tryz.underlying251
 a127 := Tryz.isAgg251
 z127 := Tryz.sizeOf251
 v127 := Tryz.zeroValue251
 t164 := Tryz.underlying321
 a164 := Tryz.isAgg321
 z164 := Tryz.sizeOf321
 v164 := Tryz.zeroValue321 }
theorem Tryz.Builder_Extra_156 : Builder.Extra Tryz.prog Tryz.lays156_ren := {
 sizeBuilder := by kernel_rfl
 liesBuilder := by kernel_rfl
 t5 := Tryz.underlying5
 a5 := Tryz.isAgg5
 z5 := Tryz.sizeOf5
 v5 := Tryz.zeroValue5
 infoByte := by kernel_rfl
 cellsByte := by kernel_rfl
 sizeByte := by kernel_rfl
 neB5 := by decide }
open Go.RowKit in
theorem Tryz.strings_Join_none (a : Option Addr) (c : Nat) (sep : ByteArray) (w : World) :
  Calls Tryz.prog 177 #[.slice a 0 c, .string sep] w fun e w' => e = .returned (.string ⟨#[]⟩) ∧ w' = w := Any.strings_Join_none Tryz.lays156 Tryz.Builder_Extra_156 a c sep w
open Go.RowKit in
theorem Tryz.strings_Join (bk o c : Nat) (xs : List ByteArray) (sep : ByteArray) (w : World) (hcells : ∀ (j : Nat) x, xs[j]? = some x → w.cell? ⟨bk, o + j, none⟩ = some (.string x)) (hbk : bk < w.heap.size) (hN : xs.length ≤ 140737488355328) (hcap : xs.length ≤ c) (hlen : (Lib.join (xs.map (·.data.toList)) sep.data.toList).length ≤ 140737488355328) :
  Calls Tryz.prog 177 #[.slice (some ⟨bk, o, none⟩) xs.length c, .string sep] w fun e w' => e = .returned (.string ⟨(Lib.join (xs.map (·.data.toList)) sep.data.toList).toArray⟩) ∧ Below w.heap.size w w' := Any.strings_Join Tryz.lays156 Tryz.Builder_Extra_156 bk o c xs sep w hcells hbk hN hcap hlen
def Tryz.lays161_ren : Go.Shelf.Ren := ⟨fun | 161 => 235 | 231 => 267 | 227 => 268 | 233 => 269 | 235 => 270 | 228 => 316 | 197 => 317 | 151 => 318 | 260 => 335 | 152 => 336 | 137 => 345 | 119 => 346 | 224 => 347 | 225 => 348 | 217 => 351 | 266 => 352 | n => n, fun | 9 => 9 | 4 => 4 | 3 => 3 | 5 => 5 | 117 => 363 | 116 => 362 | 0 => 0 | 124 => 366 | 105 => 406 | 21 => 21 | 119 => 453 | 46 => 228 | 139 => 456 | 138 => 455 | n => n, fun | 3 => 2 | 4 => 3 | n => n⟩
theorem Tryz.lays161 : Go.Proofs.Lays.n161 Tryz.prog Tryz.lays161_ren := {
 mixed := by kernel_rfl
 f119 := Tryz.func346.trans (congrArg some (by kernel_rfl))
 f137 := Tryz.func345.trans (congrArg some (by kernel_rfl))
 f151 := Tryz.func318.trans (congrArg some (by kernel_rfl))
 f152 := Tryz.func336.trans (congrArg some (by kernel_rfl))
 f161 := Tryz.func235.trans (congrArg some (by kernel_rfl))
 f197 := Tryz.func317.trans (congrArg some (by kernel_rfl))
 f217 := Tryz.func351.trans (congrArg some (by kernel_rfl))
 f224 := Tryz.func347.trans (congrArg some (by kernel_rfl))
 f225 := Tryz.func348.trans (congrArg some (by kernel_rfl))
 f227 := Tryz.func268.trans (congrArg some (by kernel_rfl))
 f228 := Tryz.func316.trans (congrArg some (by kernel_rfl))
 f231 := Tryz.func267.trans (congrArg some (by kernel_rfl))
 f233 := Tryz.func269.trans (congrArg some (by kernel_rfl))
 f235 := Tryz.func270.trans (congrArg some (by kernel_rfl))
 f260 := Tryz.func335.trans (congrArg some (by kernel_rfl))
 f266 := Tryz.func352.trans (congrArg some (by kernel_rfl))
 t0 := Tryz.underlying0
 a0 := Tryz.isAgg0
 z0 := Tryz.sizeOf0
 v0 := Tryz.zeroValue0
 t3 := Tryz.underlying3
 a3 := Tryz.isAgg3
 z3 := Tryz.sizeOf3
 v3 := Tryz.zeroValue3
 t4 := Tryz.underlying4
 a4 := Tryz.isAgg4
 z4 := Tryz.sizeOf4
 v4 := Tryz.zeroValue4
 t5 := Tryz.underlying5
 a5 := Tryz.isAgg5
 z5 := Tryz.sizeOf5
 v5 := Tryz.zeroValue5
 t9 := Tryz.underlying9
 a9 := Tryz.isAgg9
 z9 := Tryz.sizeOf9
 v9 := Tryz.zeroValue9
 t21 := Tryz.underlying21
 a21 := Tryz.isAgg21
 z21 := Tryz.sizeOf21
 v21 := Tryz.zeroValue21
 t46 := Tryz.underlying228
 a46 := Tryz.isAgg228
 z46 := Tryz.sizeOf228
 v46 := Tryz.zeroValue228
 t105 := Tryz.underlying406
 a105 := Tryz.isAgg406
 z105 := Tryz.sizeOf406
 v105 := Tryz.zeroValue406
 t116 := Tryz.underlying362
 a116 := Tryz.isAgg362
 z116 := Tryz.sizeOf362
 t117 := Tryz.underlying363
 a117 := Tryz.isAgg363
 z117 := Tryz.sizeOf363
 v117 := Tryz.zeroValue363
 t119 := Tryz.underlying453
 a119 := Tryz.isAgg453
 z119 := Tryz.sizeOf453
 t124 := Tryz.underlying366
 a124 := Tryz.isAgg366
 z124 := Tryz.sizeOf366
 v124 := Tryz.zeroValue366
 t138 := Tryz.underlying455
 a138 := Tryz.isAgg455
 z138 := Tryz.sizeOf455
 v138 := Tryz.zeroValue455
 t139 := Tryz.underlying456
 a139 := Tryz.isAgg456
 z139 := Tryz.sizeOf456
 v139 := Tryz.zeroValue456
 g3 := by kernel_rfl
 g4 := by kernel_rfl }
open Go.RowKit in
theorem Tryz.strings_TrimLeft_one (s : ByteArray) (c : UInt8) (hc : c.toNat < 128) (w : World) :
  Calls Tryz.prog 235 #[.string s, .string ⟨#[c]⟩] w fun e w' => e = .returned (.string ⟨(Lib.trimLeftB s.data.toList c).toArray⟩) ∧ w' = w := Any.strings_TrimLeft_one Tryz.lays161 s c hc w
def Tryz.lays99_ren : Go.Shelf.Ren := ⟨fun | 99 => 242 | 206 => 272 | n => n, fun | 9 => 9 | 4 => 4 | 3 => 3 | n => n, fun | n => n⟩
theorem Tryz.lays99 : Go.Proofs.Lays.n99 Tryz.prog Tryz.lays99_ren := {
 mixed := by kernel_rfl
 f99 := Tryz.func242.trans (congrArg some (by kernel_rfl))
 f206 := Tryz.func272.trans (congrArg some (by kernel_rfl))
 t3 := Tryz.underlying3
 a3 := Tryz.isAgg3
 z3 := Tryz.sizeOf3
 v3 := Tryz.zeroValue3
 t4 := Tryz.underlying4
 a4 := Tryz.isAgg4
 z4 := Tryz.sizeOf4
 v4 := Tryz.zeroValue4
 t9 := Tryz.underlying9
 a9 := Tryz.isAgg9
 z9 := Tryz.sizeOf9
 v9 := Tryz.zeroValue9 }
open Go.RowKit Go.Lib in
theorem Tryz.strings_HasPrefix (s p : ByteArray) (w : World) :
  Calls Tryz.prog 242 #[.string s, .string p] w fun e w' => e = .returned (.bool (Lib.hasPrefix s.data.toList p.data.toList)) ∧ w' = w := Any.strings_HasPrefix Tryz.lays99 s p w
def Tryz.lays105_ren : Go.Shelf.Ren := ⟨fun | 105 => 244 | 212 => 273 | 99 => 242 | 165 => 231 | 166 => 77 | 170 => 274 | 169 => 78 | 263 => 319 | 264 => 320 | 206 => 272 | 240 => 172 | 241 => 265 | 276 => 229 | 277 => 315 | n => n, fun | 9 => 9 | 3 => 3 | 4 => 4 | 20 => 20 | 0 => 0 | 46 => 228 | 109 => 368 | 5 => 5 | 72 => 154 | 76 => 157 | 51 => 409 | 146 => 410 | 53 => 22 | 148 => 412 | 70 => 152 | 37 => 76 | 75 => 156 | 127 => 251 | 164 => 321 | 80 => 159 | n => n, fun | n => n⟩
theorem Tryz.lays105 : Go.Proofs.Lays.n105 Tryz.prog Tryz.lays105_ren := {
 mixed := by kernel_rfl
 f99 := Tryz.func242.trans (congrArg some (by kernel_rfl))
 f105 := Tryz.func244.trans (congrArg some (by kernel_rfl))
 f165 := Tryz.func231.trans (congrArg some (by kernel_rfl))
 f166 := Tryz.func77.trans (congrArg some (by kernel_rfl))
 f169 := Tryz.func78.trans (congrArg some (by kernel_rfl))
 f170 := Tryz.func274.trans (congrArg some (by kernel_rfl))
 f206 := Tryz.func272.trans (congrArg some (by kernel_rfl))
 f212 := Tryz.func273.trans (congrArg some (by kernel_rfl))
 f240 := Tryz.func172.trans (congrArg some (by kernel_rfl))
 f241 := Tryz.func265.trans (congrArg some (by kernel_rfl))
 f263 := Tryz.func319.trans (congrArg some (by kernel_rfl))
 f264 := Tryz.func320.trans (congrArg some (by kernel_rfl))
 f276 := Tryz.func229.trans (congrArg some (by kernel_rfl))
 f277 := Tryz.func315.trans (congrArg some (by kernel_rfl))
 t0 := Tryz.underlying0
 a0 := Tryz.isAgg0
 z0 := Tryz.sizeOf0
 v0 := Tryz.zeroValue0
 t3 := Tryz.underlying3
 a3 := Tryz.isAgg3
 z3 := Tryz.sizeOf3
 v3 := Tryz.zeroValue3
 t4 := Tryz.underlying4
 a4 := Tryz.isAgg4
 z4 := Tryz.sizeOf4
 v4 := Tryz.zeroValue4
 t5 := Tryz.underlying5
 a5 := Tryz.isAgg5
 z5 := Tryz.sizeOf5
 v5 := Tryz.zeroValue5
 t9 := Tryz.underlying9
 a9 := Tryz.isAgg9
 z9 := Tryz.sizeOf9
 v9 := Tryz.zeroValue9
 t20 := Tryz.underlying20
 a20 := Tryz.isAgg20
 z20 := Tryz.sizeOf20
 v20 := Tryz.zeroValue20
 t37 := Tryz.underlying76
 a37 := Tryz.isAgg76
 z37 := Tryz.sizeOf76
 v37 := Tryz.zeroValue76
 t46 := Tryz.underlying228
 a46 := Tryz.isAgg228
 z46 := Tryz.sizeOf228
 v46 := Tryz.zeroValue228
 t51 := Tryz.underlying409
 a51 := Tryz.isAgg409
 z51 := Tryz.sizeOf409
 v51 := Tryz.zeroValue409
 t53 := Tryz.underlying22
 a53 := Tryz.isAgg22
 z53 := Tryz.sizeOf22
 v53 := Tryz.zeroValue22
 t70 := Tryz.underlying152
 a70 := Tryz.isAgg152
 z70 := Tryz.sizeOf152
 v70 := Tryz.zeroValue152
 t72 := Tryz.underlying154
 a72 := Tryz.isAgg154
 z72 := Tryz.sizeOf154
 v72 := Tryz.zeroValue154
 t75 := Tryz.underlying156
 a75 := Tryz.isAgg156
 z75 := Tryz.sizeOf156
 v75 := Tryz.zeroValue156
 t76 := Tryz.underlying157
 a76 := Tryz.isAgg157
 z76 := Tryz.sizeOf157
 v76 := Tryz.zeroValue157
 t109 := Tryz.underlying368
 a109 := Tryz.isAgg368
 z109 := Tryz.sizeOf368
 v109 := Tryz.zeroValue368
 t127 := Tryz.underlying251
 a127 := Tryz.isAgg251
 z127 := Tryz.sizeOf251
 v127 := Tryz.zeroValue251
 t146 := Tryz.underlying410
 a146 := Tryz.isAgg410
 z146 := Tryz.sizeOf410
 v146 := Tryz.zeroValue410
 t148 := Tryz.underlying412
 a148 := Tryz.isAgg412
 z148 := Tryz.sizeOf412
 v148 := Tryz.zeroValue412
 t164 := Tryz.underlying321
 a164 := Tryz.isAgg321
 z164 := Tryz.sizeOf321
 v164 := Tryz.zeroValue321 }
theorem Tryz.Builder_Extra_105 : Builder.Extra Tryz.prog Tryz.lays105_ren := {
 sizeBuilder := by kernel_rfl
 liesBuilder := by kernel_rfl
 t5 := Tryz.underlying5
 a5 := Tryz.isAgg5
 z5 := Tryz.sizeOf5
 v5 := Tryz.zeroValue5
 infoByte := by kernel_rfl
 cellsByte := by kernel_rfl
 sizeByte := by kernel_rfl
 neB5 := by decide }
open Go.RowKit Go.Lib in
theorem Tryz.strings_Repeat (s : ByteArray) (c : Nat) (w : World) (hc : c ≤ 9223372036854775807) (hlen : s.size * c ≤ 140737488355328) :
  Calls Tryz.prog 244 #[.string s, .int .i64 c] w fun e w' => e = .returned (.string ⟨(Lib.repeatL s.data.toList c).toArray⟩) ∧ Below w.heap.size w w' := Any.strings_Repeat Tryz.lays105 Tryz.Builder_Extra_105 s c w hc hlen
def Tryz.lays193_ren : Go.Shelf.Ren := ⟨fun | 193 => 63 | n => n, fun | 31 => 37 | 9 => 9 | 4 => 4 | 3 => 3 | 0 => 0 | n => n, fun | n => n⟩
theorem Tryz.lays193 : Go.Proofs.Lays.n193 Tryz.prog Tryz.lays193_ren := {
 mixed := by kernel_rfl
 f193 := Tryz.func63.trans (congrArg some (by kernel_rfl))
 t0 := Tryz.underlying0
 a0 := Tryz.isAgg0
 z0 := Tryz.sizeOf0
 v0 := Tryz.zeroValue0
 t3 := Tryz.underlying3
 a3 := Tryz.isAgg3
 z3 := Tryz.sizeOf3
 v3 := Tryz.zeroValue3
 t4 := Tryz.underlying4
 a4 := Tryz.isAgg4
 z4 := Tryz.sizeOf4
 v4 := Tryz.zeroValue4
 t9 := Tryz.underlying9
 a9 := Tryz.isAgg9
 z9 := Tryz.sizeOf9
 v9 := Tryz.zeroValue9
 t31 := Tryz.underlying37
 a31 := Tryz.isAgg37
 z31 := Tryz.sizeOf37
 v31 := Tryz.zeroValue37 }
open Go.RowKit Go.Lib in
theorem Tryz.slices_Equal_string (b1 o1 n c b2 o2 m d : Nat) (xs ys : List ByteArray) (w : World) (hx : n ≤ xs.length) (hy : m ≤ ys.length) (hbig : n ≤ 9223372036854775807) (hbig2 : m ≤ 9223372036854775807) (hc1 : ∀ j, j < xs.length → w.cell? ⟨b1, o1 + j, none⟩ = some (.string (xs.getD j ByteArray.empty))) (hc2 : ∀ j, j < ys.length → w.cell? ⟨b2, o2 + j, none⟩ = some (.string (ys.getD j ByteArray.empty))) :
  Calls Tryz.prog 63 #[.slice (some ⟨b1, o1, none⟩) n c, .slice (some ⟨b2, o2, none⟩) m d] w fun e w' => e = .returned (.bool (decide (xs.take n = ys.take m))) ∧ ∃ q, w' = w.drewN q := Any.slices_Equal_string Tryz.lays193 b1 o1 n c b2 o2 m d xs ys w hx hy hbig hbig2 hc1 hc2
open Go.RowKit Go.Lib in
theorem Tryz.slices_Equal_string_empty (a1 a2 : Option Addr) (c m d : Nat) (w : World) (hbig2 : m ≤ 9223372036854775807) :
  Calls Tryz.prog 63 #[.slice a1 0 c, .slice a2 m d] w fun e w' => e = .returned (.bool (decide (m = 0))) ∧ w' = w := Any.slices_Equal_string_empty Tryz.lays193 a1 a2 c m d w hbig2
open Go.RowKit Go.Lib in
theorem Tryz.slices_Equal_string_lens (a1 a2 : Option Addr) (n c m d : Nat) (w : World) (hnm : n ≠ m) :
  Calls Tryz.prog 63 #[.slice a1 n c, .slice a2 m d] w fun e w' => e = .returned (.bool false) ∧ w' = w := Any.slices_Equal_string_lens Tryz.lays193 a1 a2 n c m d w hnm
end Go.Proofs
namespace Go.Proofs.YtckoepmdmhdepaaGreatDoor
set_option linter.all false
open Go.SL Go.RowKit Go.Shelf
theorem wM (s : List UInt8) : Pure Tryz.prog 235 [.string (bs s), .string ⟨#[0]⟩].toArray (.string (bs (Lib.trimLeftB s 0))) := ⟨fun w => by
 have h := Tryz.strings_TrimLeft_one (bs s) 0 (by decide) w
 refine h.mono fun e w' ⟨h1, h2⟩ => ⟨?_, h2 ▸ Keep.refl _ _⟩
 rw [h1]; simp [bs]⟩
theorem vC (s : List UInt8) : Pure Tryz.prog 242 [.string (bs s), .string ⟨#[0]⟩].toArray (.bool (Lib.hasPrefix s [0])) := ⟨fun w => by
 have h := Tryz.strings_HasPrefix (bs s) ⟨#[0]⟩ w
 refine h.mono fun e w' ⟨h1, h2⟩ => ⟨?_, h2 ▸ Keep.refl _ _⟩
 rw [h1]; simp [bs]⟩
theorem Jca {n : Nat} (hn : n ≤ 32) : Pure Tryz.prog 244 [.string ⟨#[0]⟩, .int .i64 (n : Int)].toArray (.string (bs (Lib.repeatL [0] n))) := ⟨fun w => by
 have hs : (ByteArray.mk #[0]).size = 1 := rfl
 have h := Tryz.strings_Repeat ⟨#[0]⟩ n w (by omega) (by rw [hs]; omega)
 refine h.mono fun e w' ⟨h1, h2⟩ => ⟨?_, Keep.of_below h2⟩
 rw [h1]; rfl⟩
def JE (l : List Nat) : List UInt8 := Lib.trimLeftB (Qn l 32) 0
theorem Yx {l : List Nat} (hl : WOk l) : Pure Tryz.prog 190 [wV l].toArray (.string (bs (JE l))) := by
 refine JF Tryz.func190 rfl rfl fun w => ?_; refine sR fun _ hK1 => ?_; refine JX (cs := (l.map uV).toArray) rfl rfl rfl rfl fun r1 => ?_; refine Jb rfl ?_; refine nK hK1 ?_; refine sR fun _ hK2 => ?_; refine LR rfl (Jm (xs := l.map uV) (n := 4) rfl (kn 0 rfl) rfl rfl (by rw [List.length_map, hl.1])) ?_; refine JC rfl rfl rfl (enters_of Tryz.func224 (by kernel_rfl) rfl) (vA hl) ?_; refine JC rfl rfl rfl (enters_of Tryz.func235 (by kernel_rfl) rfl) (wM (Qn l 32)) ?_; refine Jb rfl ?_; refine nK hK2 ?_; refine Jd ?_; refine pT rfl rfl rfl fun w1 hs1 => ?_; exact ⟨rfl, hs1.keep⟩
theorem jy {n : Nat} (h : n < 256) : UInt8.ofNat n = 0 ↔ n = 0 := by
 constructor
 ·intro e
  have := congrArg UInt8.toNat e
  rw [UInt8.toNat_ofNat', Nat.mod_eq_of_lt h] at this; exact this
 ·rintro rfl; rfl
theorem wO (l : List Nat) : ∀ n k, (Lib.trimLeftB (Qn l n) 0).length ≤ k ↔ ∀ t, k ≤ t → t < n → dg l t = 0
 | 0, k => by simp [Qn, Lib.trimLeftB]
 | n + 1, k => by
  have ih := wO l n k
  by_cases hz : dg l n = 0
  ·have e : Lib.trimLeftB (Qn l (n + 1)) 0 = Lib.trimLeftB (Qn l n) 0 := by simp [Qn, Lib.trimLeftB, hz]
   rw [e, ih]
   constructor
   ·intro h t h1 h2
    by_cases ht : t = n
    ·rw [ht]; exact hz
    ·exact h t h1 (by omega)
   ·intro h t h1 h2; exact h t h1 (by omega)
  ·have hne : ¬ UInt8.ofNat (dg l n) = 0 := fun e => hz ((jy (Jdq l n)).1 e)
   have e : Lib.trimLeftB (Qn l (n + 1)) 0 = Qn l (n + 1) := by simp [Qn, Lib.trimLeftB, hne]
   rw [e, Qj]
   constructor
   ·intro h t h1 h2; omega
   ·intro h
    rcases Nat.lt_or_ge n k with hk | hk
    ·omega
    ·exact absurd (h n hk (by omega)) hz
def QC (s : List UInt8) : List Nat × Int := if 32 < s.length then (zW, 5) else if Lib.hasPrefix s [0] then (zW, 8) else (Zz (List.replicate (32 - s.length) 0 ++ s), 0)
theorem jz : ∀ n, Lib.repeatL [0] n = List.replicate n 0
 | 0 => rfl
 | n + 1 => by rw [Lib.repeatL, jz n]; rfl
theorem Je1 {s : List UInt8} (h : s.length ≤ 32) : Z0 (List.replicate (32 - s.length) 0 ++ s) = (Zz (List.replicate (32 - s.length) 0 ++ s), 0) := by
 unfold Z0
 rw [if_pos (by simp; omega)]
theorem Yy (s : List UInt8) : Pure Tryz.prog 203 [.string (bs s)].toArray (Jhw (QC s)) := by
 refine JF Tryz.func203 rfl rfl fun w => ?_; refine sR fun _ hK1 => ?_; refine LN rfl fun r1 => ?_; refine Jb rfl ?_; refine nK hK1 ?_; refine sB fun _ hK2 => ?_; refine sR fun _ hK3 => ?_; refine Jb rfl (LR rfl (JI rfl rfl) ?_); refine J2 rfl (Jb rfl ?_); refine nK hK3 ?_; refine cD (fun g => ?_) fun g => ?_
 refine sR fun _ hK5 => ?_; refine LR rfl (J7 (r := [_, _, _, _]) rfl rfl) ?_
 refine Jv (k := 0) (n := 4) (cs' := #[_, _, _, _]) (vs := #[_, _, _, _]) rfl rfl rfl rfl rfl rfl rfl (by exact Nat.le_of_ble_eq_true rfl) rfl (by first | (simp only [List.set_cons_zero, List.set_cons_succ]; exact rfl) | exact rfl) ?_; refine Jb rfl ?_; refine nK hK5 ?_; refine Jd (Jr (Ji ?_)); refine Jp rfl rfl (.cons (J0 (vs := [_, _, _, _]) rfl (kn 0 rfl) rfl rfl) (.cons (Jk rfl) .nil)) (fun w1 hs1 => ?_); refine ⟨?_, hs1.keep⟩; rw [show QC s = (zW, 5) from by unfold QC; rw [if_pos (by omega)]]; rfl
 ·refine sR fun _ hK6 => ?_; refine Jb rfl (JC rfl rfl rfl (enters_of Tryz.func242 (by kernel_rfl) rfl) (vC s) (Jb rfl ?_)); refine nK hK6 ?_; refine cD (fun g => ?_) fun g => ?_
  refine sR fun _ hK8 => ?_; refine LR rfl (J7 (r := [_, _, _, _]) rfl rfl) ?_
  refine Jv (k := 0) (n := 4) (cs' := #[_, _, _, _]) (vs := #[_, _, _, _]) rfl rfl rfl rfl rfl rfl rfl (by exact Nat.le_of_ble_eq_true rfl) rfl (by first | (simp only [List.set_cons_zero, List.set_cons_succ]; exact rfl) | exact rfl) ?_; refine Jb rfl ?_; refine nK hK8 ?_; refine Jd (Jr (Ji ?_)); refine Jp rfl rfl (.cons (J0 (vs := [_, _, _, _]) rfl (kn 0 rfl) rfl rfl) (.cons (Jk rfl) .nil)) (fun w1 hs1 => ?_); refine ⟨?_, hs1.keep⟩; rw [show QC s = (zW, 8) from by unfold QC; rw [if_neg (by omega), if_pos (by assumption)]]; rfl
  ·refine Jg (Jo (hK2 ?_)); refine sR fun _ hK9 => ?_; refine Jb rfl (LR rfl (JI rfl rfl) (J2 rfl ?_)); refine JA (show _ = Value.int .i64 ((32 - s.length : Nat) : Int) from congrArg (Value.int .i64) (by rw [wrap_i64 (by omega) (by omega)]; omega)) ?_; refine JC rfl rfl rfl (enters_of Tryz.func244 (by kernel_rfl) rfl) (Jca (n := 32 - s.length) (by omega)) ?_; refine JA (congrArg (fun z => Value.string (bs z)) (jz _)) ?_; refine Jb rfl ?_; refine LR rfl (ja rfl rfl (by simp; omega)) ?_; refine JC rfl rfl rfl (enters_of Tryz.func243 (by kernel_rfl) rfl) (jx (List.replicate (32 - s.length) 0 ++ s)) ?_; refine JA (congrArg Jhw (Je1 (by omega))) ?_; refine LR rfl (Jf rfl rfl) ?_; refine LR rfl (Jf rfl rfl) ?_; refine Js (k := 0) (n := 4) (ys := (Zz (List.replicate (32 - s.length) 0 ++ s)).map uV) rfl rfl rfl rfl rfl rfl rfl (wm _) rfl ?_; refine Jb rfl ?_; refine nK hK9 ?_; refine Jd ?_; refine Jp rfl rfl (.cons (J0 (vs := [_, _, _, _]) rfl (kn 0 rfl) rfl rfl) (.cons (Jk rfl) .nil)) (fun w1 hs1 => ?_); refine ⟨?_, hs1.keep⟩; rw [show QC s = (Zz (List.replicate (32 - s.length) 0 ++ s), 0) from by unfold QC; rw [if_neg (by omega), if_neg (by simp [*])]]; rfl
theorem Xt {a b : List Nat} (ha : WOk a) (hb : WOk b) : (Wv a b).2 = 0 ↔ wN a + wN b < big := by
 have h := qj ha hb
 split at h
 ·simp [h, *]
 ·rw [h]; simp [*]
theorem WF {a b : List Nat} (ha : WOk a) (hb : WOk b) (h0 : (Wv a b).2 = 0) : wN (Wv a b).1 = wN a + wN b := by
 have h := qj ha hb
 rw [if_pos ((Xt ha hb).1 h0)] at h; exact h.2
def okk (a b c : List Nat) : Bool := decide ((Wv a b).2 = 0) && decide ((Wv (Wv a b).1 c).2 = 0)
def Jie (a b c : List Nat) : Bool := decide ((Wv b c).2 = 0) && decide ((Wv a (Wv b c).1).2 = 0)
theorem Jif {a b c : List Nat} (ha : WOk a) (hb : WOk b) (hc : WOk c) : okk a b c = true ↔ wN a + wN b + wN c < big := by
 unfold okk
 simp only [Bool.and_eq_true, decide_eq_true_eq]
 by_cases h : (Wv a b).2 = 0
 ·rw [Xt (X6 a b) hc, WF ha hb h]; simp [h]
 ·have := (not_congr (Xt ha hb)).1 h
  constructor
  ·rintro ⟨h1, _⟩; exact absurd h1 h
  ·intro h1; omega
theorem Je2 {a b c : List Nat} (ha : WOk a) (hb : WOk b) (hc : WOk c) : Jie a b c = true ↔ wN a + wN b + wN c < big := by
 unfold Jie
 simp only [Bool.and_eq_true, decide_eq_true_eq]
 by_cases h : (Wv b c).2 = 0
 ·rw [Xt ha (X6 b c), WF hb hc h]; simp [h]; omega
 ·have := (not_congr (Xt hb hc)).1 h
  constructor
  ·rintro ⟨h1, _⟩; exact absurd h1 h
  ·intro h1; omega
theorem Jl1 {a b c : List Nat} (ha : WOk a) (hb : WOk b) (hc : WOk c) : okk a b c = Jie a b c := by
 rw [Bool.eq_iff_iff, Jif ha hb hc, Je2 ha hb hc]
theorem many {a b c : List Nat} (ha : WOk a) (hb : WOk b) (hc : WOk c) (h : okk a b c = true) : (Wv (Wv a b).1 c).1 = (Wv a (Wv b c).1).1 := by
 have h' := h
 rw [Jl1 ha hb hc] at h'; simp only [okk, Jie, Bool.and_eq_true, decide_eq_true_eq] at h h'; refine Jlk (X6 _ _) (X6 _ _) ?_; rw [WF (X6 _ _) hc h.2, WF ha hb h.1, WF ha (X6 _ _) h'.2, WF hb hc h'.1]; omega
theorem Jig {l : List Nat} (hl : WOk l) : Zz (Qn l 32) = l := by
 have : Zz (Qn l 32) = ZK (dg l) 32 := qh fun i hi => by
  have h := qZ l (n := 32) (m := 31 - i) (by omega)
  have e : 32 - 1 - (31 - i) = i := by omega
  rw [e] at h; rw [List.getD_eq_getElem?_getD, h, Option.getD_some, UInt8.toNat_ofNat', Nat.mod_eq_of_lt (Jdq l i)]
 rw [this, Jkk hl]
theorem Jcb (t : List UInt8) : Lib.hasPrefix (Lib.trimLeftB t 0) [0] = false := by
 induction t with
 | nil => rfl
 | cons x t ih =>
  by_cases hx : x = 0
  ·subst hx; simpa [Lib.trimLeftB] using ih
  ·simp [Lib.trimLeftB, hx, Lib.hasPrefix, List.isPrefixOf]; exact fun e => hx e.symm
theorem Zr (t : List UInt8) : ∃ k, t = List.replicate k 0 ++ Lib.trimLeftB t 0 := by
 induction t with
 | nil => exact ⟨0, rfl⟩
 | cons x t ih =>
  by_cases hx : x = 0
  ·subst hx
   obtain ⟨k, hk⟩ := ih
   refine ⟨k + 1, ?_⟩; simp only [Lib.trimLeftB, if_true, List.replicate_succ, List.cons_append] at hk ⊢
   simpa using hk
  ·exact ⟨0, by simp [Lib.trimLeftB, hx]⟩
theorem WW (l : List Nat) : (JE l).length ≤ 32 := by
 obtain ⟨k, hk⟩ := Zr (Qn l 32)
 have h := congrArg List.length hk
 rw [Qj, List.length_append, List.length_replicate] at h
 unfold JE; omega
theorem j0 (l : List Nat) : List.replicate (32 - (JE l).length) 0 ++ JE l = Qn l 32 := by
 obtain ⟨k, hk⟩ := Zr (Qn l 32)
 have h := congrArg List.length hk
 rw [Qj, List.length_append, List.length_replicate] at h
 have e : 32 - (JE l).length = k := by unfold JE; omega
 rw [e]; exact hk.symm
theorem Yz {l : List Nat} (hl : WOk l) : QC (JE l) = (l, 0) := by
 unfold QC
 rw [if_neg (by have := WW l; omega), if_neg (by rw [show Lib.hasPrefix (JE l) [0] = false from Jcb _]; simp), j0, Jig hl]
theorem qw (s : List UInt8) : WOk (QC s).1 := by
 unfold QC
 split
 ·exact xN
 ·split
  ·exact xN
  ·exact xI _
theorem Je3 (n : Nat) : WT [n, 0, 0, 0] = true := by simp [WT]
theorem Jnu {n : Nat} (h : n < 18446744073709551616) : WOk [n, 0, 0, 0] := ⟨rfl, fun x hx => by simp at hx; rcases hx with rfl | rfl <;> simp_all⟩
def KT (n : Nat) : List UInt8 := JE [n, 0, 0, 0]
theorem Je4 {n t : Nat} (h : t < 8) : dg [n, 0, 0, 0] t = n / 256 ^ t % 256 := by
 have e : t / 8 = 0 := by omega
 have e2 : t % 8 = t := by omega
 simp only [dg, e, e2, List.getD_cons_zero]; rw [show (256 : Nat) = 2 ^ 8 from rfl, ← Nat.pow_mul, Nat.mul_comm]
theorem Jl2 {n t : Nat} (h : 8 ≤ t) (h2 : t < 32) : dg [n, 0, 0, 0] t = 0 := by
 have hj : t / 8 = 1 ∨ t / 8 = 2 ∨ t / 8 = 3 := by omega
 rcases hj with e | e | e <;> simp [dg, e]
theorem WX {n k : Nat} (hn : n < 18446744073709551616) (hk : k ≤ 8) : (KT n).length ≤ k ↔ n < 256 ^ k := by
 unfold KT JE
 rw [wO]
 constructor
 ·intro h
  have h' : ∀ t, k ≤ t → t < 8 → n / 256 ^ t % 256 = 0 := fun t h1 h2 => by rw [← Je4 h2]; exact h t h1 (by omega)
  have key : ∀ j, k ≤ j → j ≤ 8 → n < 256 ^ j → n < 256 ^ k := by
   intro j
   induction j with
   | zero => intro h1 _ h3; rw [show k = 0 from by omega]; exact h3
   | succ j ih =>
    intro h1 h2 h3
    by_cases e : k = j + 1
    ·rw [e]; exact h3
    ·refine ih (by omega) (by omega) ?_
     have h4 := h' j (by omega) (by omega)
     have h5 : n / 256 ^ j < 256 := by
      rw [Nat.div_lt_iff_lt_mul (Nat.pow_pos (by decide))]; rw [Nat.pow_succ, Nat.mul_comm] at h3; exact h3
     rw [Nat.mod_eq_of_lt h5] at h4
     rcases Nat.div_eq_zero_iff.1 h4 with h6 | h6
     ·have := Nat.pow_pos (n := j) (show 0 < 256 by decide); omega
     ·exact h6
  exact key 8 hk (Nat.le_refl _) hn
 ·intro h t h1 h2
  by_cases ht : t < 8
  ·rw [Je4 ht, Nat.div_eq_of_lt (Nat.lt_of_lt_of_le h (Nat.pow_le_pow_right (by decide) h1))]
  ·exact Jl2 (by omega) h2
theorem wP {n : Nat} (hn : n < 18446744073709551616) : Pure Tryz.prog 111 [uV n].toArray (.string (bs (KT n))) := by
 refine JF Tryz.func111 rfl rfl fun w => ?_; refine sR fun _ hK1 => ?_; refine Jb rfl ?_; refine nK hK1 ?_; refine sR fun _ hK2 => ?_; refine Jb rfl (JC rfl rfl rfl (enters_of Tryz.func200 (by kernel_rfl) rfl) (qv n) (JC rfl rfl rfl (enters_of Tryz.func190 (by kernel_rfl) rfl) (Yx (Jnu hn)) ?_)); refine Jb rfl ?_; refine nK hK2 ?_; refine Jd ?_; refine pT rfl rfl rfl fun w1 hs1 => ?_; exact ⟨rfl, hs1.keep⟩
def Jpa (p : Nat × Int) : Value := .tuple #[uV p.1, .int .i64 p.2]
theorem Jad {e v : Nat} (h : v < 128) : jL e v = [UInt8.ofNat v] := by cases e <;> simp [jL, h]
theorem Jae {e v : Nat} (h : ¬ v < 128) : jL (e + 1) v = UInt8.ofNat (v % 128 + 128) :: jL e (v / 128) := by simp [jL, h]
theorem Jl3 {e v : Nat} (he : e ≤ 9) (hv : v < 2 * 128 ^ e) : v < 18446744073709551616 := by
 have h1 : 128 ^ e ≤ 128 ^ 9 := Nat.pow_le_pow_right (by decide) he
 have h2 : (128 : Nat) ^ 9 = 9223372036854775808 := by decide
 omega
theorem wQ {e v : Nat} (hv : v < 2 * 128 ^ (e + 1)) : v / 128 < 2 * 128 ^ e := by rw [Nat.pow_succ] at hv; omega
theorem Jaf {e v : Nat} (hv : v < 2 * 128 ^ e) (h : ¬ v < 128) : ∃ k, e = k + 1 := by
 cases e with
 | zero => simp at hv; omega
 | succ e => exact ⟨e, rfl⟩
theorem Jkt {n : Nat} (hn : n < 18446744073709551616) : n < 2 * 128 ^ 9 := by
 have h2 : (128 : Nat) ^ 9 = 9223372036854775808 := by decide
 omega
theorem qx {n : Nat} (hn : n < 18446744073709551616) : Pure Tryz.prog 82 [uV n].toArray (.string (bs (Vn n))) := by
 refine JF Tryz.func82 rfl rfl fun w => ?_; refine sR fun _ hK1 => ?_; refine Jb rfl ?_; refine nK hK1 ?_; refine sR fun _ hK2 => ?_; refine Jb rfl ?_; refine nK hK2 ?_; refine sB fun _ hK3 => ?_; refine JS (σ := Nat × Nat × List UInt8 × QH) (fun q => q.1 + q.2.2.1.length = 9 ∧ q.2.1 < 2 * 128 ^ q.1 ∧ q.2.2.1 ++ jL q.1 q.2.1 = Vn n ∧ rowOk 1 q.2.2.1.length (q.2.2.1.map bV) q.2.2.2) (fun q => [(0, uV q.2.1), (3, JO q.2.2.1.length q.2.2.2)]) (fun q => Kk 5 (q.2.2.1.map bV) q.2.2.2) (fun _ _ _ => True) (fun q => q.1) (9, n, [], none) ⟨rfl, Jkt hn, rfl, ⟨rfl, rfl⟩⟩ (lK rfl) (List.nil_sublist _) (fun _ _ h => h) ?_; rintro ⟨e, v, l, row⟩ ⟨hel, hv, hvar, hrow⟩; simp only at hel hv hvar hrow ⊢
 have hv64 : v < 18446744073709551616 := Jl3 (by omega) hv
 refine sQ fun _ hK4 => ?_; refine sR fun _ hK5 => ?_; refine Jb rfl (J2 rfl ?_); refine nK hK5 ?_; refine cD (fun g => ?_) fun g => ?_
 refine Jg (hK4 ?_); refine J3 (sR fun _ hK7 => ?_); refine Jb rfl (Jb rfl (J2 rfl ?_)); refine JA (show _ = Value.int .u8 ((v % 256 : Nat) : Int) from by rw [show Value.int .u8 ((v % 256 : Nat) : Int) = bV (UInt8.ofNat (v % 256)) from xD (Nat.mod_lt _ (by decide))]; exact Yo v) ?_; refine LR rfl (xO (op := .or) (b := ((v % 128 + 128 : Nat) : Int)) rfl rfl rfl (Nat.mod_lt _ (by decide)) (by decide) (congrArg (fun z : Nat => (z : Int)) Jnm)) ?_; refine JA (show _ = bV (UInt8.ofNat (v % 128 + 128)) from xD (by omega)) ?_; refine JV (vs := [_]) (zs := [_]) (r := [_]) rfl rfl rfl rfl rfl rfl rfl rfl rfl (by show (madeCells #[_] _).toList = _; rw [KA]; exact rfl) rfl fun r1 => ?_; refine Kh (L0 := [_]) (xs := l.map bV) (row := row) (n := l.length) (sz := 1) (b := 1) (news := [_]) (List.perm_append_comm (l₁ := [_])) rfl rfl rfl rfl (kn 0 rfl) rfl rfl rfl rfl rfl (by decide) rfl rfl rfl (by decide) hrow (by omega) (by omega) fun ra cap sp hra => ?_; refine Jb rfl ?_; refine nK hK7 ?_; refine Je (Jb rfl (LR rfl (xB (n := 7) rfl rfl rfl (by decide) (by omega) (vc _ _)) ?_)); refine Jb rfl (Jt ?_); refine Jo (JU ?_)
 obtain ⟨e, rfl⟩ := Jaf hv (by omega)
 refine VW [0] (L' := [_]) (by decide) rfl ?_; rw [Jae (by omega)] at hvar; exact JN (e, v / 128, l ++ [UInt8.ofNat (v % 128 + 128)], some (ra, cap, sp)) ⟨by simp only [List.length_append, List.length_singleton]; omega, wQ hv, by simp only; rw [List.append_assoc]; exact hvar, by simp only [List.length_append, List.length_singleton, List.map_append, List.map_cons, List.map_nil]; exact hra⟩ (by simp only; omega) (.cons rfl (.cons (by simp only [List.length_append, List.length_singleton]; rfl) .nil)) (by simp only [List.map_append, List.map_cons, List.map_nil]; exact List.Sublist.refl _) (fun _ _ h => h)
 ·refine JL (Jn ?_); refine Jn (J8 (hK3 ?_)); refine sR fun _ hK8 => ?_; refine Jb rfl (Jb rfl ?_); refine J2 rfl (JA (show _ = bV (UInt8.ofNat v) from by rw [Yo, Nat.mod_eq_of_lt (by omega)]) ?_); refine JV (vs := [_]) (zs := [_]) (r := [_]) rfl rfl rfl rfl rfl rfl rfl rfl rfl (by show (madeCells #[_] _).toList = _; rw [KA]; exact rfl) rfl fun r2 => ?_; refine Kh (L0 := [_]) (xs := l.map bV) (row := row) (n := l.length) (sz := 1) (b := 1) (news := [_]) (List.perm_append_comm (l₁ := [_])) rfl rfl rfl rfl (kn 0 rfl) rfl rfl rfl rfl rfl (by decide) rfl rfl rfl (by decide) hrow (by omega) (by omega) fun ra cap sp hra => ?_; refine LR rfl (Q9 (b := l ++ [UInt8.ofNat v]) (row := some (ra, cap, sp)) (e := 5) (by simp only [List.length_append, List.length_singleton]; rfl) (by simp only [List.length_append, List.length_singleton, List.map_append, List.map_cons, List.map_nil]; exact hra) (fun p hp => .inl (by simp only [List.map_append, List.map_cons, List.map_nil] at hp; rw [List.mem_singleton.1 hp]; exact List.mem_cons_self)) rfl rfl rfl) ?_; refine Jb rfl ?_; refine nK hK8 ?_; refine Jd ?_; refine pT rfl rfl rfl fun w1 hs1 => ?_; refine ⟨?_, hs1.keep⟩; rw [← hvar, Jad (by omega)]; rfl
def Xu (s : List UInt8) : Nat × Int := if 8 < s.length then (0, 5) else ((if WT (QC s).1 then (QC s).1.getD 0 0 else 0), (QC s).2)
theorem XY (s : List UInt8) : (QC s).1.length = 4 := (qw s).1
theorem zy (s : List UInt8) : Pure Tryz.prog 117 [.string (bs s)].toArray (Jpa (Xu s)) := by
 refine JF Tryz.func117 rfl rfl fun w => ?_; refine sR fun _ hK1 => ?_; refine Jb rfl (Jb rfl ?_); refine nK hK1 ?_; refine sQ fun _ hK2 => ?_; refine sR fun _ hK3 => ?_; refine Jb rfl (LR rfl (JI rfl rfl) (J2 rfl ?_)); refine nK hK3 ?_; refine cD (fun g => ?_) fun g => ?_
 refine sR fun _ hK5 => ?_; refine Jb rfl (Jb rfl ?_); refine nK hK5 ?_; refine Jd (Ji ?_); refine Jp rfl rfl (.cons (Jk rfl) (.cons (Jk rfl) .nil)) (fun w1 hs1 => ?_); refine ⟨?_, hs1.keep⟩; rw [show Xu s = (0, 5) from by unfold Xu; rw [if_pos (by omega)]]; rfl
 ·refine Jg (hK2 ?_); refine sR fun _ hK6 => ?_; refine Jb rfl (JC rfl rfl rfl (enters_of Tryz.func203 (by kernel_rfl) rfl) (Yy s) ?_); refine Jb rfl (LR rfl (Jf rfl rfl) (LR rfl (Jf rfl rfl) ?_)); refine LN rfl fun r1 => ?_
  refine Js (k := 0) (n := 4) rfl rfl rfl rfl rfl (by first | (with_reducible (rw [List.length_map]; first | exact XY _)) | exact rfl) (by first | (with_reducible (rw [List.length_map]; first | exact XY _)) | exact rfl) (by first | exact wm _ | rfl) rfl ?_; refine Jb rfl ?_; refine nK hK6 ?_; refine sR fun _ hK7 => ?_
  refine LR rfl (Jm (n := 4) rfl (kn 0 rfl) rfl rfl (by first | (with_reducible (rw [List.length_map]; first | exact XY _)) | exact rfl)) ?_; refine JC rfl rfl rfl (enters_of Tryz.func204 (by kernel_rfl) rfl) (vB (qw s)) ?_; refine Jb rfl (LR rfl (Jf rfl rfl) (LR rfl (Jf rfl rfl) ?_)); refine Jb rfl (Jb rfl ?_); refine nK hK7 ?_; refine sR fun _ hK8 => ?_; refine Jb rfl (Jb rfl ?_); refine Jb rfl (Jb rfl ?_); refine nK hK8 ?_; refine Jd ?_; refine Jp rfl rfl (.cons (Jk rfl) (.cons (Jk rfl) .nil)) (fun w1 hs1 => ?_); refine ⟨?_, hs1.keep⟩; rw [show Xu s = ((if WT (QC s).1 then (QC s).1.getD 0 0 else 0), (QC s).2) from by unfold Xu; rw [if_neg (by omega)]]; rfl
theorem zA (e : Int) : Pure Tryz.prog 232 [.int .i64 e].toArray (.tuple #[uV 0, .int .i64 0, .int .i64 e]) := by
 refine JF Tryz.func232 rfl rfl fun w => ?_; refine sR fun _ hK1 => ?_; refine Jb rfl (Jb rfl (Jb rfl ?_)); refine nK hK1 ?_; refine sR fun _ hK2 => ?_; refine Jb rfl (Jb rfl ?_); refine Jb rfl (Jb rfl ?_); refine nK hK2 ?_; refine Jd ?_; refine Jp rfl rfl (.cons (Jk rfl) (.cons (Jk rfl) (.cons (Jk rfl) .nil))) (fun w1 hs1 => ?_); exact ⟨rfl, hs1.keep⟩
def Jnv (s : List UInt8) (a : Nat) (p : Nat × Nat) : Jy := [(p.2, .cells #[.int .i64 (a : Int)] 3 (0, 0)), (p.1, .cells #[.string (bs s)] 9 (0, 0))]
theorem Jl4 (s : List UInt8) (a : Nat) : PureE (α := Nat × Nat) Tryz.prog 233 [.string (bs s), .int .i64 (a : Int)].toArray (fun p => .func (.func 266) #[] #[.pointer (some ⟨p.1, 0, none⟩), .pointer (some ⟨p.2, 0, none⟩)]) (Jnv s a) := by
 refine KZ Tryz.func233 rfl rfl fun w => ?_; refine sR fun _ hK1 => ?_; refine LN rfl fun r1 => ?_; refine LN rfl fun r2 => ?_; refine Jb rfl ?_; refine nK hK1 ?_; refine sR fun _ hK2 => ?_; refine LR rfl (JQ rfl rfl) ?_; refine Jb rfl ?_; refine nK hK2 ?_; refine Jd ?_; refine pT rfl rfl rfl fun w1 hs1 => ?_; exact ⟨(r1, r2), rfl, hs1⟩
def zB (s : List UInt8) (a i : Nat) : List Value := [.int .i64 (i : Int), .int .u8 ((s.getD (a + i) 0).toNat : Nat)]
theorem Jl5 {s : List UInt8} {a : Nat} (ha : a ≤ s.length) (hs : s.length ≤ 9223372036854775807) (p1 p2 : Nat) : jJ Tryz.prog 266 [.pointer (some ⟨p1, 0, none⟩), .pointer (some ⟨p2, 0, none⟩)]
    [(p2, .cells #[.int .i64 (a : Int)] 3 (0, 0)), (p1, .cells #[.string (bs s)] 9 (0, 0))] 0 (nxN (zB s a) (min 10 (s.length - a))) (yX (min 10 (s.length - a))) := by
  refine VX Tryz.func266 rfl rfl fun q xids w2 XI XF hY => ?_
  obtain ⟨N, hN⟩ : ∃ N, N = min 10 (s.length - a) := ⟨_, rfl⟩
  rw [← hN] at hY ⊢
  have hN1 : N ≤ 10 ∧ N ≤ s.length - a := by rw [hN]; exact ⟨Nat.min_le_left _ _, Nat.min_le_right _ _⟩
  refine sR fun _ hK1 => ?_; refine LR rfl (Jc rfl (Kg (k := 1) rfl) rfl rfl) ?_; refine LR rfl (JI rfl rfl) ?_; refine LR rfl (Jc rfl (Kg (k := 0) rfl) rfl rfl) ?_; refine J2 rfl ?_; refine JA (show _ = Value.int .i64 ((s.length - a : Nat) : Int) from congrArg (Value.int .i64) (by rw [wrap_i64 (by omega) (by omega)]; omega)) ?_
  refine LR rfl (Jdw (r := (N : Int)) rfl rfl (by rw [hN]; simp only [Nat.min_def]; split <;> split <;> omega)) ?_; refine Jb rfl ?_; refine nK hK1 ?_; refine J3 (JS (σ := Nat) (fun i => i ≤ N) (fun i => [(0, .func (.yield q) #[] #[]), (1, .pointer (some ⟨p1, 0, none⟩)), (2, .pointer (some ⟨p2, 0, none⟩)), (9, .int .i64 (N : Int)), (10, .int .i64 (i : Int))]) (fun _ => []) (fun i => XI i) (fun i => N - i) 0 (Nat.zero_le _) (lK rfl) (List.nil_sublist _) (fun _ _ h => h) ?_); intro i hi; refine sR fun _ hK2 => ?_; refine J2 rfl ?_; refine nK hK2 ?_; refine sQ fun _ hK3 => ?_; refine cD (fun g => ?_) fun g => ?_
  · refine Jg (hK3 ?_); refine sB fun _ hK5 => ?_; refine sR fun _ hK6 => ?_; refine Jb rfl (Jb rfl ?_); refine nK hK6 ?_; refine sR fun _ hK7 => ?_; refine Jb rfl (Jb rfl (LR rfl (Jc rfl (Kg (k := 1) rfl) rfl rfl) ?_)); refine LR rfl (Jc rfl (Kg (k := 0) rfl) rfl rfl) ?_; refine Jb rfl (J2 rfl ?_); refine JA (show _ = Value.int .i64 ((a + i : Nat) : Int) from congrArg (Value.int .i64) (by rw [wrap_i64 (by omega) (by omega)]; omega)) ?_; refine LR rfl (Kp (j := a + i) rfl rfl rfl rfl (by omega) rfl) ?_; refine VV (XT := XI (i + 1)) (XF := XF) rfl rfl rfl rfl (hY i (zB s a i) (i + 1) ⟨by omega, rfl, rfl⟩) ?_ ?_
    all_goals (
     refine J2 rfl (Jt (hK7 ?_)); refine Jl rfl (fun g => ?_) (fun g => ?_)
     · try exact Bool.noConfusion g
       all_goals try simp only [ZZ] at g
       all_goals (
        refine Jd (Jr (Ji ?_)); refine Ji (Jr ?_); refine Jp rfl rfl .nil (fun w1 hs1 => ?_)
        obtain ⟨xs1, hx1⟩ := hs1.now
        exact ⟨⟨_, rfl⟩, hs1.keep, .inr ⟨_, hx1⟩⟩
        skip)
     · try exact Bool.noConfusion g
       all_goals try simp only [ZZ] at g
       all_goals (
        refine Jg (Jo (hK5 ?_)); refine Je (J2 rfl (Ke (by omega) (by omega) ?_)); refine Jb rfl (Jt (JU ?_)); exact JN (i + 1) (by omega) (by omega) (lK rfl) (List.nil_sublist _) (fun _ _ h => h)
        skip)
     skip)
  · refine JL (Jn ?_); refine Jn (J8 ?_); refine Qf rfl rfl .nil (fun w1 hs1 => ?_)
    obtain ⟨xs1, hx1⟩ := hs1.now
    exact ⟨⟨_, rfl⟩, hs1.keep, .inl ⟨i, _, (by show i = N; omega), hx1⟩⟩
theorem Jih {a i n : Nat} {c : UInt8} {r : List UInt8} (h : (i : Int) = 9) (hc : ((c.toNat : Nat) : Int) > 1) : xP a i n (c :: r) = (0, 0, 5) := by
 unfold xP; rw [if_pos (by omega)]
theorem Jag {a i n : Nat} {c : UInt8} {r : List UInt8} (h : ¬ (i = 9 ∧ 1 < c.toNat)) (hc : ((c.toNat : Nat) : Int) ≥ 128) : xP a i n (c :: r) = xP a (i + 1) (n + c.toNat % 128 * 2 ^ (7 * i)) r := by
 conv => lhs; unfold xP
 rw [if_neg h, if_pos (by omega)]
theorem Je5 {a i n : Nat} {c : UInt8} {r : List UInt8} (h : ((i : Nat) : Int) > 0) (hc : ((c.toNat : Nat) : Int) = 0) : xP a i n (c :: r) = (0, 0, 8) := by
 unfold xP; rw [if_neg (by omega), if_neg (by omega), if_pos (by omega)]
theorem Jku {a i n : Nat} {c : UInt8} {r : List UInt8} (h : ¬ (i = 9 ∧ 1 < c.toNat)) (hc : c.toNat < 128) (h0 : ¬ (0 < i ∧ c.toNat = 0)) : xP a i n (c :: r) = (n + c.toNat % 128 * 2 ^ (7 * i), a + i + 1, 0) := by
 unfold xP; rw [if_neg h, if_neg (by omega), if_neg h0]
theorem Jii {c i : Nat} (hi : i < 10) (h : ¬ (i = 9 ∧ 1 < c)) : c % 128 * 2 ^ (7 * i) < 18446744073709551616 := by
 by_cases h9 : i = 9
 ·subst h9
  have : c % 128 ≤ 1 := by omega
  rw [show 2 ^ (7 * 9) = 9223372036854775808 from by decide]; omega
 ·have h1 : 2 ^ (7 * i) ≤ 2 ^ 56 := Nat.pow_le_pow_right (by decide) (by omega)
  have h2 : c % 128 * 2 ^ (7 * i) ≤ 127 * 2 ^ 56 := Nat.mul_le_mul (by omega) h1
  have h3 : (127 : Nat) * 2 ^ 56 < 18446744073709551616 := by decide
  omega
theorem Je6 {n c i : Nat} (hn : n < 2 ^ (7 * i)) (hi : i < 10) (h : ¬ (i = 9 ∧ 1 < c)) : n ||| (c % 128 * 2 ^ (7 * i) % 18446744073709551616) = n + c % 128 * 2 ^ (7 * i) := by
 rw [Nat.mod_eq_of_lt (Jii hi h)]; exact ze hn
theorem Jl6 {n c i : Nat} (hn : n < 2 ^ (7 * i)) : n + c % 128 * 2 ^ (7 * i) < 2 ^ (7 * (i + 1)) := by
 have e : 2 ^ (7 * (i + 1)) = 128 * 2 ^ (7 * i) := by rw [Nat.mul_add, Nat.pow_add, Nat.mul_comm]
 have h3 : c % 128 * 2 ^ (7 * i) ≤ 127 * 2 ^ (7 * i) := Nat.mul_le_mul_right _ (by omega)
 rw [e]; omega
theorem Jnw {n i : Nat} (hi : i < 10) (hn : n < 2 ^ (7 * i)) : n < 18446744073709551616 := Nat.lt_of_lt_of_le hn (Nat.pow_le_pow_right (n := 2) (by decide) (by omega : 7 * i ≤ 64))
theorem Jij {T : List UInt8} {i : Nat} (h : i < T.length) : T.drop i = T.getD i 0 :: T.drop (i + 1) := by
 rw [List.drop_eq_getElem_cons h, List.getD_eq_getElem?_getD, List.getElem?_eq_getElem h]; rfl
theorem Jl7 {s : List UInt8} {a : Nat} {i : Nat} (h : i < min 10 (s.length - a)) : ((s.drop a).take 10).getD i 0 = s.getD (a + i) 0 := by
 rw [List.getD_eq_getElem?_getD, List.getD_eq_getElem?_getD, List.getElem?_take, if_pos (by omega), List.getElem?_drop]
theorem Zs {s : List UInt8} (hs : s.length ≤ 9223372036854775807) (at_ : Int) : Pure Tryz.prog 182 [.string (bs s), .int .i64 at_].toArray (Jll (jd s at_)) := by
  refine JF Tryz.func182 rfl rfl fun w => ?_; refine sR fun _ hK1 => ?_; refine LN rfl fun r1 => ?_; refine LN rfl fun r2 => ?_; refine LN rfl fun r3 => ?_; refine LN rfl fun r4 => ?_; refine nK hK1 ?_; refine sQ fun _ hK2 => ?_; refine sR fun _ hK3 => ?_; refine LR rfl (Jc rfl (kn 3 rfl) rfl rfl) ?_; refine J2 rfl (Jb rfl ?_)
  refine JM 13 rfl (fun gb => ?_) (fun gb => ?_) <;> (try simp only [ZZ] at gb) <;> first | (refine LR rfl (Jc rfl (kn 0 rfl) rfl rfl) ?_) | (refine LR rfl (Jc rfl (kn 1 rfl) rfl rfl) ?_) | (refine LR rfl (Jc rfl (kn 2 rfl) rfl rfl) ?_) | (refine LR rfl (Jc rfl (kn 3 rfl) rfl rfl) ?_) | (refine LR rfl (Jc rfl (kn 4 rfl) rfl rfl) ?_) | (refine LR rfl (Jc rfl (kn 5 rfl) rfl rfl) ?_) | (refine LR rfl (Jc rfl (kn 6 rfl) rfl rfl) ?_) | (refine LR rfl (Jc rfl (kn 7 rfl) rfl rfl) ?_) | (refine LR rfl (Jc rfl (kn 8 rfl) rfl rfl) ?_) | (refine LR rfl (Jc rfl (Kg (k := 0) rfl) rfl rfl) ?_) | (refine LR rfl (Jc rfl (Kg (k := 1) rfl) rfl rfl) ?_) | (refine LR rfl (Jc rfl (Kg (k := 2) rfl) rfl rfl) ?_) | (refine LR rfl (Jc rfl (Kg (k := 3) rfl) rfl rfl) ?_) | (refine LK rfl ?_)
  all_goals first | refine Jb rfl ?_ | refine LK rfl ?_
  all_goals first | refine LR rfl (JI rfl rfl) ?_ | refine LK rfl ?_
  all_goals first | refine J2 rfl ?_ | refine LK rfl ?_
  all_goals first | refine LR rfl (Jx rfl rfl) ?_ | refine LR rfl (J5 rfl rfl) ?_
  all_goals (
   refine Jt (hK3 ?_); refine Jl rfl (fun g => ?_) (fun g => ?_)
   try simp only [ZZ] at g
   refine sR fun _ hK9 => ?_
   refine Ju (k := 2) rfl rfl rfl rfl rfl rfl rfl rfl (by first | (simp only [List.setIfInBounds_toArray, List.set_cons_zero, List.set_cons_succ]; exact rfl) | exact rfl) (by first | (simp only [List.set_cons_zero, List.set_cons_succ]; exact rfl) | exact rfl) ?_
   refine Ju (k := 1) rfl rfl rfl rfl rfl rfl rfl rfl (by first | (simp only [List.setIfInBounds_toArray, List.set_cons_zero, List.set_cons_succ]; exact rfl) | exact rfl) (by first | (simp only [List.set_cons_zero, List.set_cons_succ]; exact rfl) | exact rfl) ?_
   refine Ju (k := 0) rfl rfl rfl rfl rfl rfl rfl rfl (by first | (simp only [List.setIfInBounds_toArray, List.set_cons_zero, List.set_cons_succ]; exact rfl) | exact rfl) (by first | (simp only [List.set_cons_zero, List.set_cons_succ]; exact rfl) | exact rfl) ?_; refine nK hK9 ?_; refine Jd (Ji ?_)
   (refine Jp rfl rfl (.cons (KW rfl (kn 2 rfl) rfl rfl) (.cons (KW rfl (kn 1 rfl) rfl rfl) (.cons (KW rfl (kn 0 rfl) rfl rfl) .nil))) (fun w1 hs1 => ?_)
    exact ⟨by rw [show jd s at_ = (0, 0, 1) from by unfold jd; rw [if_pos (by omega)]]; rfl, hs1.keep⟩)
   · try exact Bool.noConfusion g
     all_goals try simp only [ZZ] at g
     all_goals (
      refine Jg (hK2 ?_); refine sQ fun _ hK10 => ?_
      have ha1 : 0 ≤ at_ ∧ at_ ≤ s.length := by omega
      obtain ⟨a, rfl⟩ : ∃ j : Nat, at_ = j := ⟨at_.toNat, by omega⟩
      obtain ⟨R, hR⟩ : ∃ R, R = xP a 0 0 ((s.drop a).take 10) := ⟨_, rfl⟩
      have hun : jd s a = R := by unfold jd; rw [if_neg (by omega), hR]; rfl
      obtain ⟨T, hT⟩ : ∃ T, T = (s.drop a).take 10 := ⟨_, rfl⟩
      have hTl : T.length = min 10 (s.length - a) := by rw [hT]; simp
      rw [← hT] at hR; refine Je (LN rfl fun r5 => ?_)
      refine Ju (k := 0) rfl rfl rfl rfl rfl rfl rfl rfl (by first | (simp only [List.setIfInBounds_toArray, List.set_cons_zero, List.set_cons_succ]; exact rfl) | exact rfl) (by first | (simp only [List.set_cons_zero, List.set_cons_succ]; exact rfl) | exact rfl) ?_; refine nK hK10 ?_; refine sR fun _ hK11 => ?_; refine LN rfl fun r6 => ?_
      refine Ju (k := 0) rfl rfl rfl rfl rfl rfl rfl rfl (by first | (simp only [List.setIfInBounds_toArray, List.set_cons_zero, List.set_cons_succ]; exact rfl) | exact rfl) (by first | (simp only [List.set_cons_zero, List.set_cons_succ]; exact rfl) | exact rfl) ?_; refine nK hK11 ?_; refine sQ fun _ hK12 => ?_; refine sR fun _ hK13 => ?_; refine Jb rfl (LR rfl (Jc rfl (kn 5 rfl) rfl rfl) (Qh rfl rfl rfl (enters_of Tryz.func233 (by kernel_rfl) rfl) (Jl4 s a) fun pp => ?_))
      obtain ⟨p1, p2⟩ := pp
      change HL _ _ _ [(p2, _), (p1, _), (r6, _), (r5, _), (r4, _), (r3, _), (r2, _), (r1, _)] _ _ _ _; refine nK hK13 ?_; refine J3 (ZU [2, 6, 5, 4, 0, 1, 3, 7] (by decide) rfl ?_); refine Jdg (τ := Nat × Nat × Int) (fun i (n : Nat) => i ≤ T.length ∧ xP a i n (T.drop i) = R ∧ n < 2 ^ (7 * i)) (fun n => [(r6, .cells #[uV n] 22 (0, 0)), (r2, .cells #[uV 0] 22 (0, 0)), (r3, .cells #[.int .i64 0] 3 (0, 0)), (r4, .cells #[.int .i64 0] 43 (0, 0))]) (fun j t => j = .ret ∧ t = R) (fun t => [(r2, .cells #[uV t.1] 22 (0, 0)), (r3, .cells #[.int .i64 (t.2.1 : Int)] 3 (0, 0)), (r4, .cells #[.int .i64 t.2.2] 43 (0, 0))]) [(p2, _), (p1, _), (r5, _), (r1, _)] 0 rfl rfl (enters_of Tryz.func266 (by kernel_rfl) rfl) (Jl5 (s := s) (a := a) (by omega) hs p1 p2) (by rintro _ _ _ ⟨_, rfl, _⟩; rfl) rfl (by simp) rfl ⟨Nat.zero_le _, by rw [hR]; rfl, by decide⟩ ?_ ?_ ?_
      · rintro q Xr Xb w3 i _ _ n ⟨hi, rfl, rfl⟩ ⟨hil, hrd, hn⟩ Kr hKr
        obtain ⟨c, hc⟩ : ∃ c, c = s.getD (a + i) 0 := ⟨_, rfl⟩
        have hT2 : T.drop i = c :: T.drop (i + 1) := by rw [Jij (by omega), hT, Jl7 hi, ← hT, ← hc]
        rw [hT2] at hrd
        have hi10 : i < 10 := by omega
        have hcl := c.toNat_lt
        unfold zB
        rw [← hc]; refine sR fun _ hK14 => ?_; refine Jb rfl ?_; refine nK hK14 ?_; refine Je (Jb rfl (Jt ?_)); refine hKr _ _ ?_; clear hKr; refine J3 (sQ fun _ hK15 => (Qs 8 (by kernel_rfl) (by kernel_rfl) ?_)); refine JD rfl rfl rfl (Jc rfl (kn 0 rfl) rfl rfl) ?_; refine JD rfl rfl rfl (JG rfl) ?_; refine JD rfl rfl rfl (xO (op := .and) (b := ((c.toNat % 128 : Nat) : Int)) rfl rfl rfl c.toNat_lt (by decide) (congrArg (fun z : Nat => (z : Int)) (Jlm _))) ?_; refine JD rfl rfl rfl (KC rfl rfl rfl) ?_; refine Wl (show _ = uV (c.toNat % 128) from congrArg (Value.int .u64) (wrap_u64 (by omega) (by omega))) ?_; refine JD rfl rfl rfl (JG rfl) ?_; refine JD rfl rfl rfl (KC rfl rfl rfl) ?_; refine Wl (show _ = Value.int .i64 ((7 * i : Nat) : Int) from congrArg (Value.int .i64) (by rw [wrap_i64 (by omega) (by omega)]; omega)) ?_; refine JD rfl rfl rfl (xC (n := 7 * i) (b := ((c.toNat % 128 * 2 ^ (7 * i) % 18446744073709551616 : Nat) : Int)) rfl rfl rfl (show _ ≤ 64 from by omega) (Jnl _)) ?_
        refine JD rfl rfl rfl (wg (op := .or) (b := ((n ||| (c.toNat % 128 * 2 ^ (7 * i) % 18446744073709551616) : Nat) : Int)) rfl rfl rfl (Jnw (by omega) hn) (Nat.mod_lt _ (by decide)) rfl) ?_; refine Q8 ?_
        refine Ju (k := 0) rfl rfl rfl rfl rfl rfl rfl rfl (by first | (simp only [List.setIfInBounds_toArray, List.set_cons_zero, List.set_cons_succ]; exact rfl) | exact rfl) (by first | (simp only [List.set_cons_zero, List.set_cons_succ]; exact rfl) | exact rfl) ?_; refine nK hK15 ?_; refine sB fun _ hK16 => ?_; refine sR fun _ hK17 => ?_; refine Jb rfl (J2 rfl (Jb rfl ?_))
        refine JM 35 rfl (fun gb => ?_) (fun gb => ?_) <;> (try simp only [ZZ] at gb) <;> first | (refine Jb rfl ?_) | (refine LK rfl ?_)
        all_goals first | refine J2 rfl ?_ | refine LK rfl ?_
        all_goals first | refine LR rfl (Jx rfl rfl) ?_ | refine LR rfl (J5 rfl rfl) ?_
        all_goals (
         refine Jb rfl (Jt (hK17 ?_)); refine Jl rfl (fun g => ?_) (fun g => ?_)
         · try exact Bool.noConfusion g
           all_goals try simp only [ZZ] at g
           all_goals (
            refine sR fun _ hK21 => ?_; refine LR rfl (Jc rfl (Kg (k := 2) rfl) rfl rfl) ?_; refine JC rfl rfl rfl Jez (zA 5) ?_; refine LR rfl (Jf rfl rfl) ?_; refine LR rfl (Jf rfl rfl) ?_; refine LR rfl (Jf rfl rfl) ?_
            refine Ju (k := 1) rfl rfl rfl rfl rfl rfl rfl rfl (by first | (simp only [List.setIfInBounds_toArray, List.set_cons_zero, List.set_cons_succ]; exact rfl) | exact rfl) (by first | (simp only [List.set_cons_zero, List.set_cons_succ]; exact rfl) | exact rfl) ?_
            refine Ju (k := 2) rfl rfl rfl rfl rfl rfl rfl rfl (by first | (simp only [List.setIfInBounds_toArray, List.set_cons_zero, List.set_cons_succ]; exact rfl) | exact rfl) (by first | (simp only [List.set_cons_zero, List.set_cons_succ]; exact rfl) | exact rfl) ?_
            refine Ju (k := 3) rfl rfl rfl rfl rfl rfl rfl rfl (by first | (simp only [List.setIfInBounds_toArray, List.set_cons_zero, List.set_cons_succ]; exact rfl) | exact rfl) (by first | (simp only [List.set_cons_zero, List.set_cons_succ]; exact rfl) | exact rfl) ?_; refine nK hK21 ?_; refine Jd (Jr (Ji ?_)); refine Jr (VW [1, 2, 3] (L' := [_, _, _]) (by decide) rfl ?_)
            (refine YK (0, 0, 5) ⟨rfl, ?_⟩ rfl
             rw [← hrd, Jih (by omega) (by omega)])
            skip)
         · try simp only [ZZ] at g
           refine sR fun _ hK22 => ?_; refine Jb rfl (J2 rfl (Jb rfl ?_)); refine nK hK22 ?_; refine cD (fun g => ?_) fun g => ?_
           refine JL (Q6 rfl (Jn ?_)); refine J8 ?_
           have hno : ¬ (i = 9 ∧ 1 < c.toNat) := by omega
           rw [Jag hno (by omega)] at hrd; refine VZ (n + c.toNat % 128 * 2 ^ (7 * i)) ⟨by omega, hrd, Jl6 hn⟩ ?_; simp only [Je6 hn hi10 hno]; rfl
           · refine sR fun _ hK24 => ?_; refine Jb rfl (J2 rfl (Jb rfl ?_))
             refine JM 50 rfl (fun gb => ?_) (fun gb => ?_) <;> (try simp only [ZZ] at gb) <;> first | (refine Jb rfl ?_) | (refine LK rfl ?_)
             all_goals first | refine J2 rfl ?_ | refine LK rfl ?_
             all_goals first | refine LR rfl (Jx rfl rfl) ?_ | refine LR rfl (J5 rfl rfl) ?_
             all_goals (
              refine Jb rfl (Jt (hK24 ?_)); refine Jl rfl (fun g => ?_) (fun g => ?_)
              · try exact Bool.noConfusion g
                all_goals try simp only [ZZ] at g
                all_goals (
                 refine sR fun _ hK28 => ?_; refine LR rfl (Jc rfl (Kg (k := 2) rfl) rfl rfl) ?_; refine JC rfl rfl rfl Jez (zA 8) ?_; refine LR rfl (Jf rfl rfl) ?_; refine LR rfl (Jf rfl rfl) ?_; refine LR rfl (Jf rfl rfl) ?_
                 refine Ju (k := 1) rfl rfl rfl rfl rfl rfl rfl rfl (by first | (simp only [List.setIfInBounds_toArray, List.set_cons_zero, List.set_cons_succ]; exact rfl) | exact rfl) (by first | (simp only [List.set_cons_zero, List.set_cons_succ]; exact rfl) | exact rfl) ?_
                 refine Ju (k := 2) rfl rfl rfl rfl rfl rfl rfl rfl (by first | (simp only [List.setIfInBounds_toArray, List.set_cons_zero, List.set_cons_succ]; exact rfl) | exact rfl) (by first | (simp only [List.set_cons_zero, List.set_cons_succ]; exact rfl) | exact rfl) ?_
                 refine Ju (k := 3) rfl rfl rfl rfl rfl rfl rfl rfl (by first | (simp only [List.setIfInBounds_toArray, List.set_cons_zero, List.set_cons_succ]; exact rfl) | exact rfl) (by first | (simp only [List.set_cons_zero, List.set_cons_succ]; exact rfl) | exact rfl) ?_; refine nK hK28 ?_; refine Jd (Jr (Ji ?_)); refine Jr (VW [1, 2, 3] (L' := [_, _, _]) (by decide) rfl ?_)
                 (refine YK (0, 0, 8) ⟨rfl, ?_⟩ rfl
                  rw [← hrd, Je5 (by omega) (by omega)])
                 skip)
              try simp only [ZZ] at g
              refine Jg (Jo (hK16 ?_)); refine sQ fun _ hK29 => ?_
              refine Jdp [] [(1, .pure), (2, .pure), (3, .pure), (4, .pure), (5, .act (wl 1 (.cells #[uV (n ||| (c.toNat % 128 * 2 ^ (7 * i) % 18446744073709551616))] 22 (0, 0)))), (6, .act (wl 2 (.cells #[.int .i64 ((a + i + 1 : Nat) : Int)] 3 (0, 0)))), (7, .act (wl 3 (.cells #[.int .i64 0] 43 (0, 0))))] 8 (by kernel_rfl) (by kernel_rfl) (by first | exact (fun _ h => absurd h List.not_mem_nil) | simp [SubS] | (intro p hp; simp [hp])) ?_; refine Jow rfl rfl rfl rfl (Jc rfl (kn 0 rfl) rfl rfl) ?_; refine Jht rfl rfl rfl rfl (fun _ hS => (Jc rfl (Kg (k := 3) rfl) rfl rfl)) ?_; refine Jht rfl rfl rfl rfl (fun _ hS => (JG rfl)) ?_; refine Jht rfl rfl rfl rfl (fun _ _ => KC rfl rfl rfl) ?_; refine Jki (show _ = Value.int .i64 ((a + i : Nat) : Int) from congrArg (Value.int .i64) (by rw [wrap_i64 (by omega) (by omega)]; omega)) ?_; refine Jht rfl rfl rfl rfl (fun _ _ => KC rfl rfl rfl) ?_; refine Jki (show _ = Value.int .i64 ((a + i + 1 : Nat) : Int) from congrArg (Value.int .i64) (by rw [wrap_i64 (by omega) (by omega)]; omega)) ?_
              refine jc (q := 1) rfl rfl rfl rfl rfl rfl rfl rfl (by first | (simp only [List.setIfInBounds_toArray, List.set_cons_zero, List.set_cons_succ]; exact rfl) | exact rfl) rfl rfl (by first | exact (fun _ h => absurd h List.not_mem_nil) | simp [SubS] | (intro p hp; simp [hp])) ?_
              refine jc (q := 2) rfl rfl rfl rfl rfl rfl rfl rfl (by first | (simp only [List.setIfInBounds_toArray, List.set_cons_zero, List.set_cons_succ]; exact rfl) | exact rfl) rfl rfl (by first | exact (fun _ h => absurd h List.not_mem_nil) | simp [SubS] | (intro p hp; simp [hp])) ?_
              refine jc (q := 3) rfl rfl rfl rfl rfl rfl rfl rfl (by first | (simp only [List.setIfInBounds_toArray, List.set_cons_zero, List.set_cons_succ]; exact rfl) | exact rfl) rfl rfl (by first | exact (fun _ h => absurd h List.not_mem_nil) | simp [SubS] | (intro p hp; simp [hp])) ?_; refine Jli ?_; refine nK hK29 ?_; refine Jd (Jr (VW [1, 2, 3] (L' := [_, _, _]) (by decide) rfl ?_))
              (have hno : ¬ (i = 9 ∧ 1 < c.toNat) := by omega
               refine YK (n + c.toNat % 128 * 2 ^ (7 * i), a + i + 1, 0) ⟨rfl, ?_⟩ ?_
               rw [← hrd, Jku hno (by omega) (by omega)]
               simp only [Je6 hn hi10 hno])
              skip)
         skip)
      rintro D i n hfi ⟨hil, hrd, hn⟩
      have hiT : i = T.length := by rw [hTl]; exact hfi
      have hR3 : R = (0, 0, 3) := by rw [← hrd, hiT, List.drop_length]; rfl
      refine Jo (hK12 ?_); refine sR fun _ hK30 => ?_; refine LR rfl (Jc rfl (kn 7 rfl) rfl rfl) ?_; refine JC rfl rfl rfl Jez (zA 3) ?_; refine LR rfl (Jf rfl rfl) ?_; refine LR rfl (Jf rfl rfl) ?_; refine LR rfl (Jf rfl rfl) ?_
      refine Ju (k := 2) rfl rfl rfl rfl rfl rfl rfl rfl (by first | (simp only [List.setIfInBounds_toArray, List.set_cons_zero, List.set_cons_succ]; exact rfl) | exact rfl) (by first | (simp only [List.set_cons_zero, List.set_cons_succ]; exact rfl) | exact rfl) ?_
      refine Ju (k := 3) rfl rfl rfl rfl rfl rfl rfl rfl (by first | (simp only [List.setIfInBounds_toArray, List.set_cons_zero, List.set_cons_succ]; exact rfl) | exact rfl) (by first | (simp only [List.set_cons_zero, List.set_cons_succ]; exact rfl) | exact rfl) ?_
      refine Ju (k := 4) rfl rfl rfl rfl rfl rfl rfl rfl (by first | (simp only [List.setIfInBounds_toArray, List.set_cons_zero, List.set_cons_succ]; exact rfl) | exact rfl) (by first | (simp only [List.set_cons_zero, List.set_cons_succ]; exact rfl) | exact rfl) ?_; refine nK hK30 ?_; refine Jd ?_
      (refine V8 (k := 0) rfl rfl ?_
       refine Jp rfl rfl (.cons (KW rfl (kn 2 rfl) rfl rfl) (.cons (KW rfl (kn 3 rfl) rfl rfl) (.cons (KW rfl (kn 4 rfl) rfl rfl) .nil))) (fun w1 hs1 => ?_)
       exact ⟨by rw [hun, hR3]; rfl, hs1.keep⟩)
      rintro D j t ⟨rfl, rfl⟩
      refine Jd (Jr (Ji ?_))
      (refine V8 (k := 0) rfl rfl ?_
       refine Jp rfl rfl (.cons (KW rfl (kn 1 rfl) rfl rfl) (.cons (KW rfl (kn 2 rfl) rfl rfl) (.cons (KW rfl (kn 3 rfl) rfl rfl) .nil))) (fun w1 hs1 => ?_)
       exact ⟨by rw [hun]; rfl, hs1.keep⟩)
      skip)
   skip)
theorem Y0 {n : Nat} (hn : n < 18446744073709551616) : (KT n).length ≤ 8 := (WX hn (Nat.le_refl 8)).2 hn
theorem Jik {n : Nat} (hn : n < 18446744073709551616) : Xu (KT n) = (n, 0) := by
 have h := Y0 hn
 unfold Xu
 rw [if_neg (by omega)]
 unfold KT
 rw [Yz (Jnu hn)]; simp only [Je3, if_true, List.getD_cons_zero]
theorem Je7 {a : Nat} {rest : List UInt8} : ∀ (e i acc v : Nat), i + e = 9 → v < 2 * 128 ^ e → (i = 0 ∨ 0 < v) → xP a i acc ((jL e v ++ rest).take (e + 1)) = (acc + v * 2 ^ (7 * i), a + i + (jL e v).length, 0)
 | e, i, acc, v, hi, hv, h0 => by
  by_cases hlo : v < 128
  ·rw [Jad hlo]
   have hc : (UInt8.ofNat v).toNat = v := by rw [UInt8.toNat_ofNat', Nat.mod_eq_of_lt (by omega)]
   simp only [List.singleton_append, List.take_succ_cons, List.length_singleton]
   rw [Jku (by rw [hc]; rintro ⟨rfl, h⟩; have : e = 0 := (by omega); subst this; simp at hv; omega) (by rw [hc]; exact hlo) (by rw [hc]; omega), hc, Nat.mod_eq_of_lt hlo]
  ·obtain ⟨e, rfl⟩ := Jaf hv hlo
   rw [Jae hlo]
   have hc : (UInt8.ofNat (v % 128 + 128)).toNat = v % 128 + 128 := by rw [UInt8.toNat_ofNat', Nat.mod_eq_of_lt (by omega)]
   simp only [List.cons_append, List.take_succ_cons, List.length_cons]; rw [Jag (by omega) (by rw [hc]; omega), Je7 e (i + 1) _ (v / 128) (by omega) (wQ hv) (.inr (by omega)), hc]
   have e1 : 2 ^ (7 * (i + 1)) = 128 * 2 ^ (7 * i) := by rw [Nat.mul_add, Nat.pow_add, Nat.mul_comm]
   rw [e1, show (v % 128 + 128) % 128 = v % 128 from by omega]
   have e2 : v / 128 * (128 * 2 ^ (7 * i)) + v % 128 * 2 ^ (7 * i) = v * 2 ^ (7 * i) := by
    rw [← Nat.mul_assoc, ← Nat.add_mul]; congr 1; omega
   simp only [Prod.mk.injEq, and_true]; omega
theorem Jah {n : Nat} (hn : n < 18446744073709551616) (p q : List UInt8) : jd (p ++ Vn n ++ q) (p.length : Nat) = (n, p.length + (Vn n).length, 0) := by
 unfold jd
 rw [if_neg (by simp only [List.length_append]; omega), Int.toNat_natCast, List.append_assoc, List.drop_left]
 have := Je7 (a := p.length) (rest := q) 9 0 0 n rfl (Jkt hn) (.inl rfl)
 simpa [Vn] using this
theorem wR (l : List Nat) : ∀ j k, (Qn l (j + k)).drop j = Qn l k
 | 0, k => by simp
 | j + 1, k => by rw [show j + 1 + k = (j + k) + 1 from by omega, Qn, List.drop_succ_cons, wR l j k]
theorem Je8 {n : Nat} : KT n = Qn [n, 0, 0, 0] (KT n).length := by
 have h := j0 [n, 0, 0, 0]
 have hl := WW [n, 0, 0, 0]
 have e : Qn [n, 0, 0, 0] 32 = Qn [n, 0, 0, 0] ((32 - (JE [n, 0, 0, 0]).length) + (JE [n, 0, 0, 0]).length) := by congr 1; omega
 have h2 := wR [n, 0, 0, 0] (32 - (JE [n, 0, 0, 0]).length) (JE [n, 0, 0, 0]).length
 rw [← e, ← h] at h2; rw [List.drop_left' (by simp)] at h2; exact h2
end Go.Proofs.YtckoepmdmhdepaaGreatDoor
