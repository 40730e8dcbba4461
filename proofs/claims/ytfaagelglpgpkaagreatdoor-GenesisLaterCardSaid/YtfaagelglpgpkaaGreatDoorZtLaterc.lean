import Derived.Test.YtfaagelglpgpkaaGreatDoorZtLaterb
import Derived.Lib.AppendStr
import Derived.Lib.UnsafeStr
import Derived.Lib.Builder
import Derived.RecoverIn
import Derived.Test.YtfaagelglpgpkaaGreatDoorProg
import Derived.Laws.Externs
import Derived.Shelf.Spec.BitsCarry
import Derived.Shelf.Strings.Builder1
import Derived.Shelf.Strings.Builder2
import Derived.Shelf.Strings.Trim
import Derived.Shelf.Small.Utf8
import Derived.Shelf.Small.Bits
import Derived.Shelf.Small.Strs
import Derived.Shelf.Small.Wraps
import Derived.Shelf.Strings.BuilderF
import Derived.Shelf.Strings.BuilderK
import Derived.Shelf.Strings.Builder2Cap
import Derived.Shelf.Strconv.Itoa0
import Derived.Shelf.Strings.Search1
import Derived.Shelf.Sort.Plain
import Derived.Shelf.Strings.Prefix
import Derived.Shelf.Unicode.Decode
import Derived.Shelf.Strings.Runes
import Derived.Shelf.Strings.AsciiSet
import Derived.Shelf.Bits.Mul64
import Derived.Shelf.Strings.Repeat
import Derived.Shelf.Unicode.DecodeSlow
import Derived.Shelf.Unicode.DecodeAny
import Derived.Shelf.Strings.BuilderCap
import Derived.Shelf.Slices.Turned
import Derived.Ground.Names2Prog
import Derived.Shelf.Slices.Clone
import Derived.Shelf.Slices.SearchI
import Derived.Shelf.Slices.In.SortNone
import Derived.Ground.SlgnProg
import Derived.Shelf.SlicesE.Clone
set_option maxRecDepth 100000
namespace Go.SL
set_option linter.all false
open Go Go.RowKit Go.Shelf
section
variable {c : Cx} {l : Kv} {L : Jm} {X : XP} {Q : Exit → Act → World → Prop} {d : List Deferred}
variable {ops : Array Oper} {rest : List Oper} {i : Nat} {v : Value} {t u : TypeId} {ps : String} {af : Array Edge} {gd : Option (Nat × Bool)} {ty : TypeId}
theorem J0w (s : List UInt8) : (bs s).size = s.length := by simp [bs, ByteArray.size]
theorem qF (s : List UInt8) : Lib.strCells (bs s) = s.map bV := rfl
theorem Jf4 {x y : Operand} {e : TypeId} {s s2 : List UInt8} {L0 : Jm} {row : QV}
  (hp : L.Perm (JR e (s.map bV) row ++ L0)) (hg : Kg l ops ⟨some i, .call ⟨.builtin .append, #[x, y], #[t, u]⟩, ty, ps, af, gd⟩ = some true) (hi : Nat.ble (i + 1) c.n = true)
  (hx : JZ l x = some (JE s.length row)) (hy : JZ l y = some (.string (bs s2))) (ht : Kk c.P t = some e) (hu : vL c.P u = true) (hz : Qu c.P e = some (.int .u8 0)) (hs : KN c.P e = some 1) (hb : Jb1 c.P e = some 1)
  (ho : rowOk 1 s.length (s.map bV) row) (ho2 : s = [] → row = none) (hlen : s.length + s2.length ≤ 140737488355328)
  (h : ∀ row', rowOk 1 (s ++ s2).length ((s ++ s2).map bV) row' → (s ++ s2 = [] → row' = none) → HL c d ((i, JE (s ++ s2).length row') :: l) (JR e ((s ++ s2).map bV) row' ++ L0) X ops rest Q) :
  HL c d l L X ops (⟨some i, .call ⟨.builtin .append, #[x, y], #[t, u]⟩, ty, ps, af, gd⟩ :: rest) Q := by
 obtain ⟨inf, hinf, hz', hs', hb'⟩ := vi hz hs hb
 refine JY hp ?_
 refine V6 (α := { r' : QV // rowOk 1 (s ++ s2).length ((s ++ s2).map bV) r' ∧ (s ++ s2 = [] → r' = none) }) (V := fun p => JE (s ++ s2).length p.1) (L' := fun p => JR e ((s ++ s2).map bV) p.1 ++ L0) (X' := fun _ => X) hg rfl rfl hi (fun a w hf hst => ?_) (fun p => h p.1 p.2.1 p.2.2)
 have exec : ∀ r w', (Builtin.append_ #[t, u] ty #[JE s.length row, .string (bs s2)]).run c.P w = .ok r w' →
   (execOp a.eval ⟨some i, .call ⟨.builtin .append, #[x, y], #[t, u]⟩, ty, ps, af, gd⟩).run c.P w = .ok (.value r) w' := fun r w' hr => by
  have ex := hf.eval hx
  have ey := hf.eval hy
  simp [execOp, resolve, Sem.run_bind, ex, ey, Result.andThen, invoke, builtin, hr]
 have hsz := J0w s2
 have hsl : (s ++ s2).length = s.length + s2.length := List.length_append
 have hml : ((s ++ s2).map bV).length = s.length + s2.length := by rw [List.length_map, hsl]
 have hz1 : (Value.int IntKind.u8 0).cells.size = 1 := rfl
 have zlen : ∀ n, (Builtin.zeroCells (Value.int IntKind.u8 0).cells n).toList.length = n := fun n => by rw [Array.length_toList, size_zeroCells, hz1, Nat.mul_one]
 cases row with
 | none =>
  obtain ⟨h1, h2⟩ := ho
  have hs0 : s = [] := List.eq_nil_of_length_eq_zero h1
  subst hs0
  cases s2 with
  | nil =>
   refine ⟨⟨none, ⟨rfl, rfl⟩, fun _ => rfl⟩, w, exec _ _ ?_, hst⟩
   have hf2 := Lib.run_firstCells_string (P := c.P) w 1 (bs [])
   have h0 : (bs []).size = 0 := rfl
   rw [h0] at hf2
   simp [Builtin.append_, JE, run_underlying (JX ht), run_underlying (QL hu), sizeOf, typeInfo, hinf, hs', Builtin.lenOf, h0, hf2]
  | cons b s2 =>
   have hr := run_append_nil_string (P := c.P) w t u ty e inf (.int .u8 0) (JX ht) (QL hu) hinf hz' (bs (b :: s2)) (by rw [hsz]; simp) (by rw [hsz]; simp at hlen ⊢; omega) (by rw [hsz, hb']; simp at hlen ⊢; omega)
   rw [hsz] at hr
   have hge := grownCap_ge w (b :: s2).length 0 e
   refine ⟨⟨some (w.heap.size, grownCap w (b :: s2).length 0 e, (Builtin.zeroCells (Value.int IntKind.u8 0).cells (grownCap w (b :: s2).length 0 e - (b :: s2).length)).toList), ⟨?_, ?_⟩, fun h0 => by simp at h0⟩, _, exec _ _ hr, ?_⟩
   ·simp
   ·rw [zlen]; simp only [List.nil_append]; omega
   ·have e1 : ((bs (b :: s2)).data.map (fun b => Value.int .u8 b.toNat) ++ Builtin.zeroCells (Value.int IntKind.u8 0).cells (grownCap w (b :: s2).length 0 e - (b :: s2).length)) = ((([] ++ (b :: s2)).map bV) ++ (Builtin.zeroCells (Value.int IntKind.u8 0).cells (grownCap w (b :: s2).length 0 e - (b :: s2).length)).toList).toArray := by
     apply Array.toList_inj.1; simp [bs, bV]
    rw [e1]
    exact hst.drew.alloc _
 | some q =>
  obtain ⟨r, cap, sp⟩ := q
  obtain ⟨h1, h2⟩ := ho
  have hget : w.heap[r]? = some (.cells (s.map bV ++ sp).toArray e (0, 0)) := hst.get (k := 0) rfl
  have hne : s ++ s2 ≠ [] := fun h0 => by have := ho2 (List.append_eq_nil_iff.1 h0).1; cases this
  by_cases hroom : s.length + s2.length ≤ cap
  ·have hr := Lib.run_append_room_string (P := c.P) w t u ty e inf (JX ht) (QL hu) hinf hs' r s.length cap _ hget (bs s2) (by rw [hsz]; exact hroom) (by rw [hsz]; simp only [List.size_toArray, List.length_append, List.length_map]; omega)
   rw [hsz, qF] at hr
   have e1 : ((s.map bV ++ sp).toArray.toList.take s.length ++ s2.map bV ++ (s.map bV ++ sp).toArray.toList.drop (s.length + s2.length)) = (s ++ s2).map bV ++ sp.drop s2.length := by
    simp only [List.toList_toArray]
    rw [List.take_left' (by simp), List.map_append, ← List.drop_drop, List.drop_left' (by simp)]
   rw [e1] at hr
   have hV : JE (s ++ s2).length (some (r, cap, sp.drop s2.length)) = .slice (some ⟨r, 0, none⟩) (s.length + s2.length) cap := by rw [JE, hsl]
   refine ⟨⟨some (r, cap, sp.drop s2.length), ⟨?_, ?_⟩, fun h0 => absurd h0 hne⟩, _, exec _ _ (hr.trans (congrArg (fun v => Result.ok v _) hV.symm)), ?_⟩
   ·rw [hml, hsl]; omega
   ·rw [List.length_drop, hsl]; omega
   ·exact hst.set (k := 0) rfl (Keep.setRow r _) (setRow_heap _ _ _ _ _ _ hget)
  ·have holds : ∀ (j : Nat) (x : Value), (s.map bV)[j]? = some x → w.cell? ((⟨r, 0, none⟩ : Addr).add j) = some x := Xg hget (n := s.length) (by simp)
   have hr := Lib.run_append_grow_string (P := c.P) w t u ty e inf (.int .u8 0) (JX ht) (QL hu) hinf hz' ⟨r, 0, none⟩ s.length cap (s.map bV) (by rw [hs']; simp) holds (bs s2) (by rw [hsz]; omega) (by rw [hsz]; omega) (by rw [hsz, hb']; exact growslice_fits (by omega) (by omega))
   rw [hsz, qF] at hr
   have hge := grownCap_ge w (s.length + s2.length) cap e
   refine ⟨⟨some (w.heap.size, grownCap w (s.length + s2.length) cap e, (Builtin.zeroCells (Value.int IntKind.u8 0).cells (grownCap w (s.length + s2.length) cap e - (s.length + s2.length))).toList), ⟨?_, ?_⟩, fun h0 => absurd h0 hne⟩, _, exec _ _ (hr.trans (congrArg (fun v => Result.ok v _) (show _ = JE (s ++ s2).length (some (w.heap.size, grownCap w (s.length + s2.length) cap e, (Builtin.zeroCells (Value.int IntKind.u8 0).cells (grownCap w (s.length + s2.length) cap e - (s.length + s2.length))).toList)) from by rw [JE, hsl]))), ?_⟩
   ·rw [hml, hsl]; omega
   ·rw [zlen, hsl]; omega
   ·have e1 : ((s.map bV).toArray ++ (s2.map bV).toArray ++ Builtin.zeroCells (Value.int IntKind.u8 0).cells (grownCap w (s.length + s2.length) cap e - (s.length + s2.length))) = ((s ++ s2).map bV ++ (Builtin.zeroCells (Value.int IntKind.u8 0).cells (grownCap w (s.length + s2.length) cap e - (s.length + s2.length))).toList).toArray := by
     apply Array.toList_inj.1; simp
    rw [e1]
    exact (hst.drew.weakL (List.sublist_cons_self _ _)).alloc _
theorem Keep.freeze {w : World} (r n : Nat) : Keep [r] w (w.freeze ⟨r, 0, none⟩ n) := by
 unfold World.freeze
 split
 ·exact Keep.refl _ _
 ·exact ⟨rfl, rfl, rfl, by simp, fun k _ hn => by
   simp only [Array.getElem?_modify]
   rw [if_neg (by intro e; exact hn (by simp [e]))]⟩
theorem Jdk {w : World} {r n : Nat} {cs : Array Value} {e : TypeId} {fr : Nat × Nat} (h : w.heap[r]? = some (.cells cs e fr)) : ∃ fr', (w.freeze ⟨r, 0, none⟩ n).heap[r]? = some (.cells cs e fr') := by
 unfold World.freeze
 split
 ·exact ⟨fr, h⟩
 ·obtain ⟨lo, hi⟩ := fr
  obtain ⟨hlt, he⟩ := Array.getElem?_eq_some_iff.1 h
  refine ⟨if lo == hi then (0, 0 + n) else (min lo 0, max hi (0 + n)), ?_⟩
  show (w.heap.modify r _)[r]? = _
  rw [Array.getElem?_eq_getElem (by rw [Array.size_modify]; exact hlt), Array.getElem_modify_self, he]
def Jdl : QV → Value
 | none => .pointer none
 | some (r, _, _) => .pointer (some ⟨r, 0, none⟩)
theorem Jac {x : Operand} {row : QV} {n : Nat} (hx : JZ l x = some (JE n row)) (hc : ∀ r cap sp, row = some (r, cap, sp) → cap ≠ 0) :
  J6 c d l L X ⟨some i, .call ⟨.builtin .unsafeSliceData, #[x], #[t]⟩, ty, ps, af, gd⟩ (Jdl row) := fun a w hf _ => by
 have ex := hf.eval hx
 cases row with
 | none =>
  have hr := Lib.run_unsafeSliceData_nil (P := c.P) w #[t] ty 0 0
  simp only [JE] at ex
  simp [execOp, resolve, Sem.run_bind, ex, Result.andThen, invoke, builtin, hr, Jdl]
 | some q =>
  obtain ⟨r, cap, sp⟩ := q
  have hr := Lib.run_unsafeSliceData_row (P := c.P) w #[t] ty ⟨r, 0, none⟩ n cap (hc r cap sp rfl)
  simp only [JE] at ex
  simp [execOp, resolve, Sem.run_bind, ex, Result.andThen, invoke, builtin, hr, Jdl]
def qG (P : Program) (t : TypeId) : Option TypeId := match P.underlying t with | some (.pointer e) => some e | _ => none
theorem Zo {P : Program} {t e : TypeId} (h : qG P t = some e) : P.underlying t = some (.pointer e) := by
 unfold qG at h; split at h <;> simp_all
theorem qY {x y : Operand} {e pt it : TypeId} {s : List UInt8} {L0 : Jm} {row : QV}
  (hp : L.Perm (JR e (s.map bV) row ++ L0)) (hg : Kg l ops ⟨some i, .call ⟨.builtin .unsafeString, #[x, y], #[pt, it]⟩, ty, ps, af, gd⟩ = some true) (hi : Nat.ble (i + 1) c.n = true)
  (hx : JZ l x = some (Jdl row)) (hy : JZ l y = some (.int .i64 (s.length : Int))) (ht : qG c.P pt = some e) (hc : c.P.cellsOf e = 1)
  (ho : rowOk 1 s.length (s.map bV) row) (ho2 : s = [] → row = none) (hlen : s.length ≤ 9223372036854775807)
  (h : HL c d ((i, .string (bs s)) :: l) L0 X ops rest Q) : HL c d l L X ops (⟨some i, .call ⟨.builtin .unsafeString, #[x, y], #[pt, it]⟩, ty, ps, af, gd⟩ :: rest) Q := by
 refine JY hp ?_
 refine V6 (α := Unit) (V := fun _ => .string (bs s)) (L' := fun _ => L0) (X' := fun _ => X) hg rfl rfl hi (fun a w hf hst => ?_) (fun _ => h)
 have exec : ∀ r w', (Builtin.unsafeString_ #[pt, it] ty #[Jdl row, .int .i64 s.length]).run c.P w = .ok r w' →
   (execOp a.eval ⟨some i, .call ⟨.builtin .unsafeString, #[x, y], #[pt, it]⟩, ty, ps, af, gd⟩).run c.P w = .ok (.value r) w' := fun r w' hr => by
  have ex := hf.eval hx
  have ey := hf.eval hy
  simp [execOp, resolve, Sem.run_bind, ex, ey, Result.andThen, invoke, builtin, hr]
 cases row with
 | none =>
  obtain ⟨h1, _⟩ := ho
  have hs0 : s = [] := List.eq_nil_of_length_eq_zero h1
  subst hs0
  exact ⟨(), w, exec _ _ (Lib.run_unsafeString_none (P := c.P) w pt it ty none), hst⟩
 | some q =>
  obtain ⟨r, cap, sp⟩ := q
  obtain ⟨h1, h2⟩ := ho
  have hget : w.heap[r]? = some (.cells (s.map bV ++ sp).toArray e (0, 0)) := hst.get (k := 0) rfl
  have hne : s ≠ [] := fun h0 => by have := ho2 h0; cases this
  have hcell : ∀ (j : Nat) (x : UInt8), s[j]? = some x → w.cell? ((⟨r, 0, none⟩ : Addr).add j) = some (.int .u8 x.toNat) := fun j x hx => by
   rw [ji, Vi hget]
   rw [Nat.zero_add, ← Array.getElem?_toList]
   simp only [List.toList_toArray]
   rw [List.getElem?_append_left (by rw [List.length_map]; exact (List.getElem?_eq_some_iff.1 hx).1), List.getElem?_map, hx]; rfl
  have hr := Lib.run_unsafeString_row (P := c.P) w pt it ty e (Zo ht) hc r (s.map bV ++ sp).length (by simp [World.shape?, hget]) s hne (by simp) hlen hcell
  obtain ⟨fr', hfr⟩ := Jdk (n := s.length) hget
  exact ⟨(), _, exec _ _ hr, (hst.set (k := 0) rfl (Keep.freeze r s.length) hfr).weakL (List.sublist_cons_self _ _)⟩
end
section
variable {c : Cx} {l : Kv} {L : Jm} {X : XP} {d : List Deferred}
variable {i : Nat} {v : Value} {t u : TypeId} {ps : String} {af : Array Edge} {gd : Option (Nat × Bool)} {ty t2 : TypeId}
def Juc (P : Program) (t : TypeId) : Bool := match P.underlying t with | some .unsafePointer => true | _ => false
theorem Jie {P : Program} {t : TypeId} (h : Juc P t = true) : P.underlying t = some .unsafePointer := by
 unfold Juc at h; split at h <;> simp_all
theorem jC {P : Program} {t : TypeId} {sz : Nat} (h : KN P t = some sz) : ∃ inf, P.info? t = some inf ∧ inf.size = sz := by
 unfold KN at h
 cases hq : P.info? t with
 | none => simp [hq] at h
 | some inf => simp only [hq, Option.some.injEq] at h; exact ⟨inf, rfl, h⟩
theorem Jf5 {x : Operand} {r sz e : Nat} {src dst tt : TypeId} {cs : Array Value} {fr : Nat × Nat} (hx : JZ l x = some (.pointer (some ⟨r, 0, none⟩))) (hk : known c L r (.cells cs e fr)) (hs : qG c.P src = some tt) (hd : Juc c.P dst = true) (ht : KN c.P tt = some sz) (h0 : 0 < sz) (hc : 0 < cs.size) :
  J6 c d l L X ⟨some i, .convert src dst x, ty, ps, af, gd⟩ (.pointer (some ⟨r, 0, none⟩)) := fun a w hf hst => by
 obtain ⟨inf, hinf, hsz⟩ := jC ht
 have h := hst.known hk
 simp only [execOp]
 rw [hf.eval hx]
 have := Lib.run_to_unsafe (P := c.P) w (e := e) (cells := cs.size) ⟨r, 0, none⟩ (Zo hs) (Jie hd) hinf (by omega) (by simp [World.shape?, h]) hc
 simp only [Sem.run_bind, this]; rfl
theorem Jad {x : Operand} {r sz e : Nat} {src dst tt : TypeId} {cs : Array Value} {fr : Nat × Nat} (hx : JZ l x = some (.pointer (some ⟨r, 0, none⟩))) (hk : known c L r (.cells cs e fr)) (hs : Juc c.P src = true) (hd : qG c.P dst = some tt) (ht : KN c.P tt = some sz) (hl : liesAt c.P c.P.depth e (cs.size / c.P.cellsOf e) 0 tt 1 = true) :
  J6 c d l L X ⟨some i, .convert src dst x, ty, ps, af, gd⟩ (.pointer (some ⟨r, 0, none⟩)) := fun a w hf hst => by
 obtain ⟨inf, hinf, hsz⟩ := jC ht
 have h := hst.known hk
 simp only [execOp]
 rw [hf.eval hx]
 have := Lib.run_from_unsafe (P := c.P) w (e := e) (cells := cs.size) ⟨r, 0, none⟩ (Jie hs) (Zo hd) hinf (by simp [World.shape?, h]) hl
 simp only [Sem.run_bind, this]; rfl
theorem Jf6 {x f : Operand} {v : Value} {g : FuncId} {fn : Func} {at_ : Array TypeId} (hf : JZ l f = some (.func (.func g) #[] #[])) (hx : JZ l x = some v)
  (hF : c.P.funcs[g]? = some fn) (hn1 : (fn.name == "runtime.NumGoroutine") = false) (hb : fn.body.isNone = true) (hn2 : Extern.findNext fn = none) (he : Extern.find fn = some Extern.AbiNoEscape.same) :
  J6 c d l L X ⟨some i, .call ⟨.value f, #[x], at_⟩, ty, ps, af, gd⟩ v := fun a w hfr hst => by
 have ef := hfr.eval hf
 have ex := hfr.eval hx
 have hcf : (callFunc g #[v]).run c.P w = .ok (.value v) w := by
  rw [run_callFunc_extern hF hn1 hb hn2 he, Lib.run_noEscape]; rfl
 simp [execOp, resolve, Sem.run_bind, ef, ex, Deferred.ofValue, Result.andThen, invoke, hcf]
theorem Jov {x y : Operand} {q : Addr} {sz : Nat} {tt : TypeId} (hx : JZ l x = some (.pointer (some q))) (hy : JZ l y = some (.pointer (some q))) (ht : qG c.P t = some tt) (hs : KN c.P tt = some sz) :
  J6 c d l L X ⟨some i, .binOp .neq t x y t2, ty, ps, af, gd⟩ (.bool false) := fun a w hf _ => by
 obtain ⟨inf, hinf, hsz⟩ := jC hs
 simp only [execOp]
 rw [hf.eval hx, hf.eval hy]
 have := Lib.run_neq_ptr_same (P := c.P) w q (Zo ht) hinf
 simp [eqGuard, Sem.run_bind, this, Result.andThen]
theorem Jow {x y : Operand} {tt : TypeId} {sz : Nat} (hx : JZ l x = some (.pointer none)) (hy : JZ l y = some (.pointer none)) (ht : qG c.P t = some tt) (hs : KN c.P tt = some sz) :
  J6 c d l L X ⟨some i, .binOp .eql t x y t2, ty, ps, af, gd⟩ (.bool true) := fun a w hf _ => by
 obtain ⟨inf, hinf, hsz⟩ := jC hs
 have h : ∀ d : Nat, (Op.equalIn (d + 1) t (.pointer none) (.pointer none)).run c.P w = .ok true w := fun d => by
  simp [Op.equalIn, run_underlying (Zo ht), sizeOf, typeInfo, hinf]
 simp only [execOp]
 rw [hf.eval hx, hf.eval hy]
 simp only [binOp]
 simp [eqGuard, Op.equal, Op.maxDepth, h 9999, Sem.run_bind, Result.andThen]
theorem Jox {x y : Operand} {q : Addr} {tt : TypeId} {sz : Nat} (hx : JZ l x = some (.pointer (some q))) (hy : JZ l y = some (.pointer none)) (ht : qG c.P t = some tt) (hs : KN c.P tt = some sz) :
  J6 c d l L X ⟨some i, .binOp .eql t x y t2, ty, ps, af, gd⟩ (.bool false) := fun a w hf _ => by
 obtain ⟨inf, hinf, hsz⟩ := jC hs
 have h : ∀ d : Nat, (Op.equalIn (d + 1) t (.pointer (some q)) (.pointer none)).run c.P w = .ok false w := fun d => by
  simp [Op.equalIn, run_underlying (Zo ht), sizeOf, typeInfo, hinf]
 simp only [execOp]
 rw [hf.eval hx, hf.eval hy]
 simp only [binOp]
 simp [eqGuard, Op.equal, Op.maxDepth, h 9999, Sem.run_bind, Result.andThen]
end
open Go.Proofs (Enters enters_of)
def J2m (v : Value) : List PanicEntry := [{ v, recovered := false }]
structure PureX {α : Type} (P : Program) (f : FuncId) (args : Array Value) (ok : Prop) (bad : Value → Prop) (V : α → Value) (LL : α → Jm) (Rl : Jm) : Prop where
  run : ∀ w, Has Rl w → Calls P f args w fun e w' => (ok ∧ ∃ x, e = .returned (V x) ∧ Keep [] w w' ∧ (∀ p ∈ LL x, w.heap.size ≤ p.1 ∧ w'.heap[p.1]? = some p.2) ∧ (LL x).Pairwise fun p q => p.1 ≠ q.1) ∨ (∃ v, bad v ∧ e = .panicked (J2m v) ∧ Keep [] w w')
theorem PureX.mono {α : Type} {P : Program} {f : FuncId} {args : Array Value} {ok ok' : Prop} {bad bad' : Value → Prop} {V : α → Value} {LL : α → Jm} {Rl : Jm} (h : PureX P f args ok bad V LL Rl) (h1 : ok → ok') (h2 : ∀ v, bad v → bad' v) : PureX P f args ok' bad' V LL Rl :=
 ⟨fun w hR => (h.run w hR).mono fun _ _ h => h.imp (fun ⟨a, b⟩ => ⟨h1 a, b⟩) (fun ⟨v, a, b⟩ => ⟨v, h2 v a, b⟩)⟩
theorem PureX.map {α β : Type} {P : Program} {f : FuncId} {args : Array Value} {ok : Prop} {bad : Value → Prop} {V : α → Value} {LL : α → Jm} {V' : β → Value} {LL' : β → Jm} {Rl : Jm} (h : PureX P f args ok bad V LL Rl) (g : α → β) (hv : ∀ x, V x = V' (g x)) (hl : ∀ x, (LL' (g x)).Sublist (LL x)) : PureX P f args ok bad V' LL' Rl :=
 ⟨fun w hR => (h.run w hR).mono fun _ _ h => h.imp (fun ⟨a, x, he, hk, h1, h2⟩ => ⟨a, g x, he.trans (by rw [hv]), hk, fun p hp => h1 p ((hl x).subset hp), h2.sublist (hl x)⟩) id⟩
theorem PureX.toT {α : Type} {P : Program} {f : FuncId} {args : Array Value} {ok : Prop} {bad : Value → Prop} {V : α → Value} {LL : α → Jm} {Rl : Jm} (h : PureX P f args ok bad V LL Rl) (hb : ∀ v, ¬ bad v) : PureT P f args V [] LL Rl :=
 ⟨fun w _ hR _ _ => (h.run w hR).mono fun _ _ h => h.elim (fun ⟨_, x, he, hk, h1, h2⟩ => ⟨x, he, hk, fun p hp => ⟨.inr (h1 p hp).1, (h1 p hp).2⟩, h2⟩) (fun ⟨v, hv, _⟩ => absurd hv (hb v))⟩
def Joy : Kv → Nat → Option Value
 | [], _ => none
 | (j, v) :: l, i => match Nat.beq i j with | true => some v | false => Joy l i
def J0x (ops : List Oper) (j : Nat) : Option Nat := match WW ops j with | some o => o.dst | none => none
def Jf7 (ops : List Oper) (tv : Kv) : List Edge → Kv
 | [] => []
 | e :: es => match J0x ops e.on, Joy tv e.on with | some i, some v => (i, v) :: Jf7 ops tv es | _, _ => Jf7 ops tv es
def Jxc (ops : List Oper) (tv : Kv) (j : Nat) : Kv := match WW ops j with | some o => Jf7 ops tv (o.after.toList.filter fun e => Region.binds .any e) | none => []
inductive BoomOk (c : Cx) (d : List Deferred) (l : Kv) (L : Jm) (X : XP) (ops : List Oper) (tv : Kv) : Kv → Prop
  | nil : BoomOk c d l L X ops tv []
  | cons {j : Nat} {v : Value} {o : Oper} {ds rest : Kv} (h1 : WW ops j = some o) (h2 : Jxc ops tv j = ds) (h3 : J6 c d (ds ++ l) L X o v) (h : BoomOk c d l L X ops tv rest) : BoomOk c d l L X ops tv ((j, v) :: rest)
theorem BoomOk.get {c : Cx} {d : List Deferred} {l : Kv} {L : Jm} {X : XP} {ops : List Oper} {tv : Kv} : ∀ {tw : Kv}, BoomOk c d l L X ops tv tw → ∀ p ∈ tw, ∃ o, WW ops p.1 = some o ∧ J6 c d (Jxc ops tv p.1 ++ l) L X o p.2
 | _, .nil, p, h => by cases h
 | _, .cons h1 h2 h3 h, p, hp => by
  rcases List.mem_cons.1 hp with rfl | hp
  ·exact ⟨_, h1, h2 ▸ h3⟩
  ·exact h.get p hp
end Go.SL
namespace Go.Proofs.YtfaagelglpgpkaaGreatDoor
set_option linter.all false
open Go.SL Go.RowKit Go.Shelf
theorem Jae : Go.Proofs.Enters Tryz.prog 11 := Go.Proofs.enters_of Tryz.func11 (by kernel_rfl) rfl
theorem Joz : Go.Proofs.Enters Tryz.prog 18 := Go.Proofs.enters_of Tryz.func18 (by kernel_rfl) rfl
theorem Jli : Go.Proofs.Enters Tryz.prog 19 := Go.Proofs.enters_of Tryz.func19 (by kernel_rfl) rfl
theorem Jyi : Go.Proofs.Enters Tryz.prog 20 := Go.Proofs.enters_of Tryz.func20 (by kernel_rfl) rfl
theorem Jud : Go.Proofs.Enters Tryz.prog 22 := Go.Proofs.enters_of Tryz.func22 (by kernel_rfl) rfl
theorem Jyj : Go.Proofs.Enters Tryz.prog 35 := Go.Proofs.enters_of Tryz.func35 (by kernel_rfl) rfl
theorem Jo0 : Go.Proofs.Enters Tryz.prog 44 := Go.Proofs.enters_of Tryz.func44 (by kernel_rfl) rfl
theorem Jf8 : Go.Proofs.Enters Tryz.prog 50 := Go.Proofs.enters_of Tryz.func50 (by kernel_rfl) rfl
theorem Jue : Go.Proofs.Enters Tryz.prog 55 := Go.Proofs.enters_of Tryz.func55 (by kernel_rfl) rfl
theorem Jyk : Go.Proofs.Enters Tryz.prog 56 := Go.Proofs.enters_of Tryz.func56 (by kernel_rfl) rfl
theorem Juf : Go.Proofs.Enters Tryz.prog 57 := Go.Proofs.enters_of Tryz.func57 (by kernel_rfl) rfl
theorem Jaf : Go.Proofs.Enters Tryz.prog 59 := Go.Proofs.enters_of Tryz.func59 (by kernel_rfl) rfl
theorem Jyl : Go.Proofs.Enters Tryz.prog 60 := Go.Proofs.enters_of Tryz.func60 (by kernel_rfl) rfl
theorem Jug : Go.Proofs.Enters Tryz.prog 61 := Go.Proofs.enters_of Tryz.func61 (by kernel_rfl) rfl
theorem Jlj : Go.Proofs.Enters Tryz.prog 62 := Go.Proofs.enters_of Tryz.func62 (by kernel_rfl) rfl
theorem Juh : Go.Proofs.Enters Tryz.prog 88 := Go.Proofs.enters_of Tryz.func88 (by kernel_rfl) rfl
theorem Jym : Go.Proofs.Enters Tryz.prog 96 := Go.Proofs.enters_of Tryz.func96 (by kernel_rfl) rfl
theorem Jui : Go.Proofs.Enters Tryz.prog 98 := Go.Proofs.enters_of Tryz.func98 (by kernel_rfl) rfl
theorem Jif : Go.Proofs.Enters Tryz.prog 100 := Go.Proofs.enters_of Tryz.func100 (by kernel_rfl) rfl
theorem Jo1 : Go.Proofs.Enters Tryz.prog 101 := Go.Proofs.enters_of Tryz.func101 (by kernel_rfl) rfl
theorem Jig : Go.Proofs.Enters Tryz.prog 102 := Go.Proofs.enters_of Tryz.func102 (by kernel_rfl) rfl
theorem jD : Go.Proofs.Enters Tryz.prog 103 := Go.Proofs.enters_of Tryz.func103 (by kernel_rfl) rfl
theorem Jih : Go.Proofs.Enters Tryz.prog 112 := Go.Proofs.enters_of Tryz.func112 (by kernel_rfl) rfl
theorem Jo2 : Go.Proofs.Enters Tryz.prog 114 := Go.Proofs.enters_of Tryz.func114 (by kernel_rfl) rfl
theorem Jo3 : Go.Proofs.Enters Tryz.prog 116 := Go.Proofs.enters_of Tryz.func116 (by kernel_rfl) rfl
theorem Jo4 : Go.Proofs.Enters Tryz.prog 119 := Go.Proofs.enters_of Tryz.func119 (by kernel_rfl) rfl
theorem Jii : Go.Proofs.Enters Tryz.prog 156 := Go.Proofs.enters_of Tryz.func156 (by kernel_rfl) rfl
theorem Jo5 : Go.Proofs.Enters Tryz.prog 158 := Go.Proofs.enters_of Tryz.func158 (by kernel_rfl) rfl
theorem Jo6 : Go.Proofs.Enters Tryz.prog 163 := Go.Proofs.enters_of Tryz.func163 (by kernel_rfl) rfl
theorem Jij : Go.Proofs.Enters Tryz.prog 168 := Go.Proofs.enters_of Tryz.func168 (by kernel_rfl) rfl
theorem zw : Go.Proofs.Enters Tryz.prog 179 := Go.Proofs.enters_of Tryz.func179 (by kernel_rfl) rfl
theorem Jik : Go.Proofs.Enters Tryz.prog 180 := Go.Proofs.enters_of Tryz.func180 (by kernel_rfl) rfl
theorem Jo7 : Go.Proofs.Enters Tryz.prog 183 := Go.Proofs.enters_of Tryz.func183 (by kernel_rfl) rfl
theorem Jil : Go.Proofs.Enters Tryz.prog 188 := Go.Proofs.enters_of Tryz.func188 (by kernel_rfl) rfl
theorem Jdm : Go.Proofs.Enters Tryz.prog 212 := Go.Proofs.enters_of Tryz.func212 (by kernel_rfl) rfl
theorem Jim : Go.Proofs.Enters Tryz.prog 217 := Go.Proofs.enters_of Tryz.func217 (by kernel_rfl) rfl
theorem Jo8 : Go.Proofs.Enters Tryz.prog 219 := Go.Proofs.enters_of Tryz.func219 (by kernel_rfl) rfl
theorem Jo9 : Go.Proofs.Enters Tryz.prog 222 := Go.Proofs.enters_of Tryz.func222 (by kernel_rfl) rfl
theorem Jin : Go.Proofs.Enters Tryz.prog 237 := Go.Proofs.enters_of Tryz.func237 (by kernel_rfl) rfl
theorem Jio : Go.Proofs.Enters Tryz.prog 239 := Go.Proofs.enters_of Tryz.func239 (by kernel_rfl) rfl
theorem Jip : Go.Proofs.Enters Tryz.prog 240 := Go.Proofs.enters_of Tryz.func240 (by kernel_rfl) rfl
theorem Jpa : Go.Proofs.Enters Tryz.prog 241 := Go.Proofs.enters_of Tryz.func241 (by kernel_rfl) rfl
theorem Jpb : Go.Proofs.Enters Tryz.prog 242 := Go.Proofs.enters_of Tryz.func242 (by kernel_rfl) rfl
theorem Jiq : Go.Proofs.Enters Tryz.prog 270 := Go.Proofs.enters_of Tryz.func270 (by kernel_rfl) rfl
theorem Jpc : Go.Proofs.Enters Tryz.prog 276 := Go.Proofs.enters_of Tryz.func276 (by kernel_rfl) rfl
theorem Jir : Go.Proofs.Enters Tryz.prog 281 := Go.Proofs.enters_of Tryz.func281 (by kernel_rfl) rfl
theorem Jis : Go.Proofs.Enters Tryz.prog 282 := Go.Proofs.enters_of Tryz.func282 (by kernel_rfl) rfl
theorem Jpd : Go.Proofs.Enters Tryz.prog 284 := Go.Proofs.enters_of Tryz.func284 (by kernel_rfl) rfl
theorem Jpe : Go.Proofs.Enters Tryz.prog 302 := Go.Proofs.enters_of Tryz.func302 (by kernel_rfl) rfl
theorem Jit : Go.Proofs.Enters Tryz.prog 313 := Go.Proofs.enters_of Tryz.func313 (by kernel_rfl) rfl
theorem Jiu : Go.Proofs.Enters Tryz.prog 334 := Go.Proofs.enters_of Tryz.func334 (by kernel_rfl) rfl
theorem Yc {t : Ty} : V1 t = true ↔ chk t 0 = 0 ∧ Xk t = true := by unfold V1; simp
theorem YM {a b c d a' b' c' d' : Nat} {l l' : List Bool} {pb pb' pi pi' : Pl} {m m' : List Vl} {k k' : Int} : Xl (.mk a b c d l pb m pi k) (.mk a' b' c' d' l' pb' m' pi' k') = (decide ([a, b, c, d] = [a', b', c', d']) && decide (k = k') && decide (l = l') && VD m m') := by
 rw [Xl]; rfl
theorem Juj {l l' : List Bool} {i : Nat} {x y : Bool} (h1 : l[i]? = some x) (h2 : l'[i]? = some y) (h : x ≠ y) : l ≠ l' := fun e => by subst e; rw [h1] at h2; exact h (Option.some.inj h2)
theorem Juk {l l' : List Bool} {i : Nat} (hl : l.length = l'.length) (hi : l.length ≤ i) (h : ∀ j, j < i → l[j]? = l'[j]?) : l = l' := by
 apply List.ext_getElem?
 intro j
 by_cases hj : j < i
 ·exact h j hj
 ·rw [List.getElem?_eq_none (by omega), List.getElem?_eq_none (by omega)]
theorem Jul {m m' : List Vl} {i : Nat} {x y : Vl} (h1 : m[i]? = some x) (h2 : m'[i]? = some y) (h : Xl x y = false) : VD m m' = false := by
 cases hs : VD m m' with
 | false => rfl
 | true => rw [(VZ.1 hs).2 i x y h1 h2] at h; cases h
theorem Jum {m m' : List Vl} (h : m.length ≠ m'.length) : VD m m' = false := by
 cases hs : VD m m' with
 | false => rfl
 | true => exact absurd (VZ.1 hs).1 h
theorem Vo (n : Nat) : Pure Tryz.prog 103 [uV n].toArray (wV [n, 0, 0, 0]) := by
 refine Jk Tryz.func103 rfl rfl fun w => ?_; refine J8 ?_; refine Jo 2 rfl ?_; refine LN rfl fun r1 => ?_; refine JC 5 rfl ?_; refine LR rfl (Js (r := [_, _, _, _]) rfl rfl) ?_
 refine LT 0 rfl rfl ?_; refine Jx 3 rfl ?_; refine Jf rfl rfl (.cons (Jq (vs := [_, _, _, _]) rfl (kn 0 rfl) rfl rfl) .nil) (fun w1 hs1 => ?_); exact ⟨rfl, hs1.keep⟩
theorem Jpf {l : List Nat} {i : Nat} (hi : i < 32) : ((List.replicate (32 - i) (0 : UInt8) ++ Zf l i).map bV).set (31 - i) (bV (UInt8.ofNat (dg l i))) = (List.replicate (32 - (i + 1)) 0 ++ Zf l (i + 1)).map bV := by
 rw [← List.map_set, show 32 - i = (31 - i) + 1 from by omega, Jtj, show 32 - (i + 1) = 31 - i from by omega]
 rfl
theorem Q2 {l : List Nat} (hl : WOk l) : Pure Tryz.prog 59 [wV l].toArray (.string (bs (Zf l 32))) := by
 refine Jk Tryz.func59 rfl rfl fun w => ?_; refine J8 ?_; refine Jo 2 rfl ?_; refine JS (cs := (l.map uV).toArray) rfl rfl rfl rfl fun r1 => ?_; refine JC 5 rfl ?_; refine WN (n := 32) (b := 1) rfl rfl rfl rfl rfl rfl rfl rfl rfl (by decide) (by decide) fun r2 => ?_; refine JI 10 rfl ?_; refine J1 (σ := Nat) (fun i => i ≤ 32) (fun i => [(1, .pointer (some ⟨r1, 0, none⟩)), (3, .slice (some ⟨r2, 0, none⟩) 32 32), (6, .int .i64 (i : Int))]) (fun i => [(r2, .cells ((List.replicate (32 - i) (0 : UInt8) ++ Zf l i).map bV).toArray 5 (0, 0)), (r1, .cells (l.map uV).toArray 27 (0, 0))]) (fun _ _ _ => True) (fun i => 32 - i) 0 (Nat.zero_le _) (lK rfl) (List.Sublist.refl _) (fun _ _ h => h) ?_; intro i hi; refine JP 6 rfl ?_; refine cD (fun g => ?_) fun g => ?_
 refine Jo 14 rfl ?_; refine Je (by omega) (by omega) ?_; refine LS 2 [] rfl rfl ?_; refine Jm6 (by omega) (by omega) (by omega) ?_; refine LR rfl (JG (j := i / 8) (m := 1) (off' := i / 8) rfl rfl rfl rfl (by omega) (by omega) (by omega)) ?_; refine LR rfl (KG rfl (kn 1 rfl) rfl (Qe (by rw [hl.1]; omega))) ?_; refine LS 2 [] rfl rfl ?_; refine Jxu (by omega) ?_; refine Wo rfl (Je (by omega) (by omega) (LR rfl (vN (n := i % 8 * 8) rfl rfl (by omega) (show _ ≤ 64 from by omega) (by omega) (vk _ _)) ?_)); refine Wo rfl (J2 (show _ = bV (UInt8.ofNat (dg l i)) from vT _) (LR rfl (JH (j := 31 - i) (m := 1) (off' := 31 - i) rfl rfl rfl rfl (by omega) (by omega) (by omega)) ?_)); refine Qa (k := 0) (off := 31 - i) (xs := (List.replicate (32 - i) (0 : UInt8) ++ Zf l i).map bV) (ys := (List.replicate (32 - (i + 1)) 0 ++ Zf l (i + 1)).map bV) rfl rfl rfl rfl rfl rfl (by simp [V8]; omega) (Jpf (by omega)) rfl ?_; refine JC 5 rfl ?_; refine Je (by omega) (by omega) ?_; refine Jx 2 rfl ?_; refine Jz ?_; exact Jv (i + 1) (by omega) (by omega) (lK rfl) (List.Sublist.refl _) (fun _ _ h => h)
 ·refine JP 5 rfl ?_
  have hi32 : i = 32 := by omega
  subst hi32; refine Jo 3 rfl ?_; refine LR rfl (Q4 (b := Zf l 32) (row := some (r2, 32, [])) (e := 5) rfl ⟨rfl, rfl⟩ (fun p hp => .inl (by rw [List.mem_singleton.1 hp]; exact List.mem_cons_self)) rfl rfl rfl) ?_; refine Jx 4 rfl ?_; refine pT rfl rfl rfl fun w1 hs1 => ?_; exact ⟨rfl, hs1.keep⟩
theorem wt (s : List UInt8) : Pure Tryz.prog 110 [.string (bs s)].toArray (Jx1 (vU s)) := by
 refine Jk Tryz.func110 rfl rfl fun w => ?_; refine J8 ?_
 obtain ⟨f, hf⟩ : ∃ f : Nat → Nat, f = fun t => (s.getD (31 - t) 0).toNat := ⟨_, rfl⟩
 have hfl : ∀ i, f i < 256 := fun i => by rw [hf]; exact XS _
 have hfu : vR f 32 = Jky s := by rw [hf]; rfl
 refine Jo 2 rfl ?_; refine LN rfl fun r1 => ?_; refine JC 7 rfl ?_; refine LR rfl (Qm rfl rfl) ?_; refine JI 3 rfl ?_; refine cD (fun g => ?_) fun g => ?_
 refine Jo 2 rfl ?_; refine LR rfl (Js (r := [_, _, _, _]) rfl rfl) ?_
 refine LT 0 rfl rfl ?_; refine Jx 5 rfl ?_; refine Jf rfl rfl (.cons (Jq (vs := [_, _, _, _]) rfl (kn 0 rfl) rfl rfl) (.cons (Jj rfl) .nil)) (fun w1 hs1 => ?_); refine ⟨?_, hs1.keep⟩; rw [show vU s = (zW, 2) from by unfold vU; rw [if_neg (by omega)]]; rfl
 ·refine Jo 4 rfl ?_; refine LN rfl fun r2 => ?_; refine JI 9 rfl ?_; refine J1 (σ := Nat) (fun i => i ≤ 32) (fun i => [(0, .string (bs s)), (2, .pointer (some ⟨r1, 0, none⟩)), (4, .pointer (some ⟨r2, 0, none⟩)), (10, .int .i64 (i : Int))]) (fun i => [(r2, .cells ((vR f i).map uV).toArray 27 (0, 0)), (r1, .cells (zW.map uV).toArray 27 (0, 0))]) (fun _ _ _ => True) (fun i => 32 - i) 0 (Nat.zero_le _) (lK rfl) (List.Sublist.refl _) (fun _ _ h => h) ?_; intro i hi; refine JP 6 rfl ?_; refine cD (fun g => ?_) fun g => ?_
  refine JP 10 rfl ?_; refine JK 15 (by kernel_rfl) (by kernel_rfl) ?_; refine Jd rfl rfl rfl (Ji rfl) ?_; refine Jd rfl rfl rfl (J0 rfl rfl rfl) ?_; refine Jxt (by omega) (by omega) (by omega) ?_; refine Jd rfl rfl rfl (JG (j := i / 8) (m := 1) (off' := i / 8) rfl rfl rfl rfl (by omega) (by omega) (by omega)) ?_; refine Jd rfl rfl rfl (KG rfl (kn 0 rfl) rfl (Qe (by rw [Jho]; omega))) ?_; refine Jd rfl rfl rfl (Ji rfl) ?_; refine Jd rfl rfl rfl (Ji rfl) ?_; refine Jd rfl rfl rfl (J0 rfl rfl rfl) ?_; refine QH (by omega) (by omega) ?_; refine Jd rfl rfl rfl (yW (j := 31 - i) rfl rfl rfl (by omega) (by omega) rfl) ?_; refine Jd rfl rfl rfl (J0 rfl rfl rfl) ?_; refine Ql (show _ = Value.int .u64 ((f i : Nat) : Int) from by rw [hf]; exact congrArg (Value.int .u64) (wrap_u64 (by omega) (by have := XS (s.getD (31 - i) 0); omega))) ?_; refine Jd rfl rfl rfl (Ji rfl) ?_; refine Jd rfl rfl rfl (J0 rfl rfl rfl) ?_; refine Jxv (by omega) ?_; refine Jd rfl rfl rfl (J0 rfl rfl rfl) ?_; refine QH (by omega) (by omega) ?_; refine Jd rfl rfl rfl (Jb9 (n := i % 8 * 8) rfl rfl (by omega) (show _ ≤ 64 from by omega) (Jhq (Jcg (hfl i) (by omega)))) ?_; refine Jd rfl rfl rfl (V0 (op := .or) (b := (((vR f i).getD (i / 8) 0 + f i * 2 ^ (i % 8 * 8) : Nat) : Int)) rfl rfl rfl ((Jnp hfl i).get _) (Jcg (hfl i) (by omega)) (congrArg (fun z : Nat => (z : Int)) (by rw [Jhn f (by omega)]; exact Jx0 (Jnn hfl _ _)))) ?_; refine Jd rfl rfl rfl (JG (j := i / 8) (m := 1) (off' := i / 8) rfl rfl rfl rfl (by omega) (by omega) (by omega)) ?_; refine JW ?_; refine Qa (k := 0) (off := i / 8) (xs := (vR f i).map uV) (ys := (vR f (i + 1)).map uV) rfl rfl rfl rfl rfl rfl (by simp [Jho]; omega) (Ws (Jno f (by omega))) rfl ?_; refine JC 5 rfl ?_; refine Je (by omega) (by omega) ?_; refine Jx 2 rfl ?_; refine Jz ?_; exact Jv (i + 1) (by omega) (by omega) (lK rfl) (List.Sublist.refl _) (fun _ _ h => h)
  ·refine JP 6 rfl ?_
   have hi32 : i = 32 := by omega
   subst hi32; refine Jo 1 rfl ?_; refine LR rfl (Jb (xs := (vR f 32).map uV) rfl (kn 0 rfl) rfl rfl rfl) ?_; refine Jc (k := 1) (n := 4) (ys := (vR f 32).map uV) rfl rfl rfl rfl rfl rfl rfl rfl rfl ?_; refine Jx 4 rfl ?_; refine Jf rfl rfl (.cons (Jq (vs := [_, _, _, _]) rfl (kn 1 rfl) rfl rfl) (.cons (Jj rfl) .nil)) (fun w1 hs1 => ?_); refine ⟨?_, hs1.keep⟩; rw [show vU s = (Jky s, 0) from by unfold vU; rw [if_pos (by omega)], ← hfu]; rfl
theorem Jun {a b : List Nat} (ha : a.length = 4) (hb : b.length = 4) : PureE (α := Nat × Nat) Tryz.prog 378 [wV a, wV b].toArray (fun p => .func (.func 390) #[] #[.pointer (some ⟨p.1, 0, none⟩), .pointer (some ⟨p.2, 0, none⟩)])
  (fun p => [(p.2, .cells (b.map uV).toArray 27 (0, 0)), (p.1, .cells (a.map uV).toArray 27 (0, 0))]) := by
 refine JV Tryz.func378 rfl rfl fun w => ?_; refine J8 ?_; refine Jo 2 rfl ?_; refine JS (cs := (a.map uV).toArray) rfl rfl rfl rfl fun r1 => ?_; refine JS (cs := (b.map uV).toArray) rfl rfl rfl rfl fun r2 => ?_; refine JC 5 rfl ?_; refine LR rfl (JB rfl rfl) ?_; refine Jx 4 rfl ?_; refine pT rfl rfl rfl fun w1 hs1 => ?_; exact ⟨(r1, r2), rfl, hs1⟩
def Jpg (a b : List Nat) (i : Nat) : List Value := [.int .i64 (i : Int), .agg [.int .u64 ((a.getD i 0 : Nat) : Int), .int .u64 ((b.getD i 0 : Nat) : Int)].toArray]
theorem Juo {a b : List Nat} (ha : a.length = 4) (hb : b.length = 4) (p1 p2 : Nat) : jk Tryz.prog 390 [.pointer (some ⟨p1, 0, none⟩), .pointer (some ⟨p2, 0, none⟩)]
    [(p2, .cells (b.map uV).toArray 27 (0, 0)), (p1, .cells (a.map uV).toArray 27 (0, 0))] 0 (nxN (Jpg a b) 4) (yD 4) := by
  refine QY Tryz.func390 rfl rfl fun q xids w2 XI XF hY => ?_; refine J8 ?_; refine JP 6 rfl ?_; refine J1 (σ := Nat) (fun i => i ≤ 4) (fun i => [(0, .func (.yield q) #[] #[]), (1, .pointer (some ⟨p1, 0, none⟩)), (2, .pointer (some ⟨p2, 0, none⟩)), (5, .int .i64 (i : Int))]) (fun _ => []) (fun i => XI i) (fun i => 4 - i) 0 (Nat.zero_le _) (lK rfl) (List.nil_sublist _) (fun _ _ h => h) ?_; intro i hi; refine JP 6 rfl ?_; refine cD (fun g => ?_) fun g => ?_
  · refine JP 11 rfl ?_; refine JK 9 (by kernel_rfl) (by kernel_rfl) ?_; refine Jd rfl rfl rfl (Ji rfl) ?_; refine Jd rfl rfl rfl (Ji rfl) ?_; refine Jd rfl rfl rfl (Ji rfl) ?_; refine Jd rfl rfl rfl (JG (j := i) (m := 1) (off' := i) rfl rfl rfl rfl rfl (by omega) (by omega)) ?_; refine Jd rfl rfl rfl (KG rfl (Jy (k := 1) rfl) rfl (Qe (by omega))) ?_; refine Jd rfl rfl rfl (Ji rfl) ?_; refine Jd rfl rfl rfl (JG (j := i) (m := 1) (off' := i) rfl rfl rfl rfl rfl (by omega) (by omega)) ?_; refine Jd rfl rfl rfl (KG rfl (Jy (k := 0) rfl) rfl (Qe (by omega))) ?_; refine Jd rfl rfl rfl (Js (r := [_, _]) rfl rfl) ?_; refine JW ?_; refine Vy (XT := XI (i + 1)) (XF := XF) rfl rfl rfl rfl (hY i (Jpg a b i) (i + 1) ⟨by omega, rfl, rfl⟩) ?_ ?_
    all_goals (
     refine Jx 2 rfl (Y7 1 rfl ?_); refine Jw rfl (fun g => ?_) (fun g => ?_)
     · try exact Bool.noConfusion g
       all_goals try simp only [ZZ] at g
       all_goals (
        refine Kn 5 rfl ?_; refine Jf rfl rfl .nil (fun w1 hs1 => ?_)
        obtain ⟨xs1, hx1⟩ := hs1.now
        exact ⟨⟨_, rfl⟩, hs1.keep, .inr ⟨_, hx1⟩⟩
        skip)
     · try exact Bool.noConfusion g
       all_goals try simp only [ZZ] at g
       all_goals (
        refine Jo 5 rfl ?_; refine Je (by omega) (by omega) ?_; refine Jx 2 rfl ?_; refine Jz ?_; exact Jv (i + 1) (by omega) (by omega) (lK rfl) (List.nil_sublist _) (fun _ _ h => h)
        skip)
     skip)
  · refine Kn 4 rfl ?_; refine Kh rfl rfl .nil (fun w1 hs1 => ?_)
    obtain ⟨xs1, hx1⟩ := hs1.now
    exact ⟨⟨_, rfl⟩, hs1.keep, .inl ⟨i, _, (by show i = 4; omega), hx1⟩⟩
theorem Jup {g : FuncId} {F G : Nat → Nat → Nat → Nat} (C : Car Tryz.prog g F G) {a b : List Nat} (ha : WOk a) (hb : WOk b) : Pure Tryz.prog 363 [wV a, wV b, .func (.func g) #[] #[]].toArray (Jx1 (crR F G a b)) := by
 refine Jk Tryz.func363 rfl rfl fun w => ?_; refine J8 ?_; refine Jo 2 rfl ?_; refine JS (cs := (a.map uV).toArray) rfl rfl rfl rfl fun r1 => ?_; refine JS (cs := (b.map uV).toArray) rfl rfl rfl rfl fun r2 => ?_; refine LN rfl fun r3 => ?_; refine Qs (cs := (zW.map uV).toArray) rfl rfl rfl rfl fun r4 => ?_; refine JC 5 rfl ?_; refine Qs (cs := (zW.map uV).toArray) rfl rfl rfl rfl fun r5 => ?_; refine JC 4 rfl ?_; refine LN rfl fun r6 => ?_
 refine LT 0 rfl rfl ?_; refine JC 5 rfl ?_; refine LR rfl (Jb (xs := a.map uV) (n := 4) rfl (kn 5 rfl) rfl rfl (by rw [List.length_map, ha.1])) ?_; refine LR rfl (Jb (xs := b.map uV) (n := 4) rfl (kn 4 rfl) rfl rfl (by rw [List.length_map, hb.1])) ?_; refine JJ rfl rfl rfl (enters_of Tryz.func378 (by kernel_rfl) rfl) (Jun ha.1 hb.1) fun pp => ?_
 obtain ⟨p1, p2⟩ := pp
 change HL _ _ _ [(p2, _), (p1, _), (r6, _), (r5, _), (r4, _), (r3, _), (r2, _), (r1, _)] _ _ _ _; refine JI 3 rfl ?_; refine Vt [3, 2, 0, 1, 4, 5, 6, 7] (by decide) rfl ?_; refine Xh (τ := Unit) (fun i (s : List Nat × Nat) => s = yF F G a b i ∧ i ≤ 4) (fun s => [(r5, .cells (s.1.map uV).toArray 27 (0, 0)), (r6, .cells #[uV s.2] 25 (0, 0))]) (fun _ _ => False) (fun _ => []) [(p2, _), (p1, _), (r4, _), (r3, _), (r2, _), (r1, _)] (zW, 0) rfl rfl (enters_of Tryz.func390 (by kernel_rfl) rfl) (Juo ha.1 hb.1 p1 p2) (by rintro _ _ _ ⟨_, rfl, _⟩; rfl) rfl (by simp) rfl ⟨rfl, by decide⟩ ?_ ?_ ?_
 rintro q Xr Xb w3 i _ _ s ⟨hi, rfl, rfl⟩ ⟨hs, -⟩ Kr hKr; refine yE ?_
 have hs4 : s.1.length = 4 := by rw [hs]; exact Zg F G a b i
 have hs1 : s.2 ≤ 1 := by rw [hs]; exact (Jnr C ha hb i).2
 refine Jo 6 rfl ?_; refine LN rfl fun r1 => ?_
 refine LT 0 rfl rfl ?_; refine Jx 1 rfl ?_; refine hKr _ _ ?_; refine J8 ?_; clear hKr; refine Jo 3 rfl ?_; refine LR rfl (Jh rfl (Jy (k := 3) rfl) rfl rfl) ?_
 refine LR rfl (JG (j := 0) rfl rfl rfl rfl rfl (by first | decide | omega) (by first | (simp only [Nat.zero_add, Nat.reduceAdd, Nat.reduceMul, Nat.zero_mul, Nat.mul_one, Nat.add_zero]; exact rfl) | exact rfl)) ?_; refine LR rfl (Jh rfl (kn 0 rfl) rfl rfl) ?_
 refine LR rfl (JG (j := 1) rfl rfl rfl rfl rfl (by first | decide | omega) (by first | (simp only [Nat.zero_add, Nat.reduceAdd, Nat.reduceMul, Nat.zero_mul, Nat.mul_one, Nat.add_zero]; exact rfl) | exact rfl)) ?_; refine LS 2 [0, 2] rfl rfl ?_; refine LR rfl (Jte rfl rfl (fun w => C.run (a.getD i 0) (b.getD i 0) s.2 w hs1)) ?_; refine LS 3 [] rfl rfl ?_; refine LR rfl (JG (j := i) (m := 1) (off' := i) rfl rfl rfl rfl rfl (by omega) (by omega)) ?_; refine Qa (k := 1) (off := i) (xs := s.1.map uV) (ys := (s.1.set i (F (a.getD i 0) (b.getD i 0) s.2)).map uV) rfl rfl rfl rfl rfl rfl (by rw [List.length_map, hs4]; omega) (Ws rfl) rfl ?_
 refine LT 2 rfl rfl ?_; refine Jx 2 rfl ?_; refine KZ [1, 2] (L' := [_, _]) (by decide) rfl ?_; refine Kf (yF F G a b (i + 1)) ⟨rfl, by omega⟩ ?_; simp only [yF, ← hs]
 rintro D i s hfi ⟨hs, -⟩
 have hi4 : i = 4 := hfi
 subst hi4
 have hs4 : s.1.length = 4 := by rw [hs]; exact Zg F G a b 4
 have hcr : crR F G a b = if s.2 = 0 then (s.1, 0) else (zW, 6) := by rw [hs]; rfl
 refine Gqc 9 [2] rfl rfl ?_; refine cD (fun h9 => ?_) fun h9 => ?_
 refine Jo 2 rfl ?_; refine LR rfl (Js (r := [_, _, _, _]) rfl rfl) ?_
 refine LT 5 rfl rfl ?_; refine Jx 5 rfl ?_; refine Kq (k := 0) rfl rfl ?_
 (refine Jf rfl rfl (.cons (Jq (vs := [_, _, _, _]) rfl (kn 5 rfl) rfl rfl) (.cons (Jj rfl) .nil)) (fun w1 hs1 => ?_)
  exact ⟨by rw [hcr, if_neg (by omega)]; rfl, hs1.keep⟩)
 refine Jo 4 rfl ?_; refine LR rfl (Jb (xs := s.1.map uV) (n := 4) rfl (kn 1 rfl) rfl rfl (by rw [List.length_map, hs4])) ?_; refine Jc (k := 5) (n := 4) (ys := s.1.map uV) rfl rfl rfl rfl rfl (by rw [List.length_map, hs4]) rfl (by simp [uV, Q6, List.all_map, List.all_eq_true]) rfl ?_; refine Jx 4 rfl ?_; refine Kq (k := 0) rfl rfl ?_
 (refine Jf rfl rfl (.cons (Jq (vs := s.1.map uV) rfl (kn 5 rfl) rfl (by rw [List.length_map, hs4]; rfl)) (.cons (Jj rfl) .nil)) (fun w1 hs1 => ?_)
  exact ⟨by rw [hcr, if_pos (by omega)]; rfl, hs1.keep⟩)
 ·exact fun _ _ _ h => h.elim
theorem Juq : Car Tryz.prog 364 jq Zx := by
 refine ⟨fun x y c w hc => ?_, fun x y c => Nat.mod_lt _ (by decide), fun x y c hx hy hc => ?_⟩
 ·show (callFunc _ #[.int .u64 (x : Int), .int .u64 (y : Int), .int .u64 (c : Int)]).run _ _ = _
  rw [run_callFunc_extern Tryz.func364 (by kernel_rfl) (by kernel_rfl) (by kernel_rfl) (e := sub64Entry) (by kernel_rfl), run_sub64 x y c hc]
  rfl
 ·unfold Zx; split <;> omega
theorem Jf9 {a b : List Nat} (ha : WOk a) (hb : WOk b) : Pure Tryz.prog 336 [wV a, wV b].toArray (Jx1 (yG a b)) := by
 refine Jk Tryz.func336 rfl rfl fun w => ?_; refine J8 ?_; refine Jo 2 rfl ?_; refine JS (cs := (a.map uV).toArray) rfl rfl rfl rfl fun r1 => ?_; refine JS (cs := (b.map uV).toArray) rfl rfl rfl rfl fun r2 => ?_; refine Qs (cs := (zW.map uV).toArray) rfl rfl rfl rfl fun r3 => ?_; refine JC 5 rfl ?_; refine LR rfl (Jb (xs := a.map uV) (n := 4) rfl (kn 2 rfl) rfl rfl (by rw [List.length_map, ha.1])) ?_; refine LR rfl (Jb (xs := b.map uV) (n := 4) rfl (kn 1 rfl) rfl rfl (by rw [List.length_map, hb.1])) ?_; refine Jl rfl rfl rfl (enters_of Tryz.func363 (by kernel_rfl) rfl) (Jup Juq ha hb) ?_; refine LS 2 [] rfl rfl ?_; refine Jc (k := 0) (n := 4) (ys := (yG a b).1.map uV) rfl rfl rfl rfl rfl (by rw [List.length_map]; exact xE) rfl (YD _) rfl ?_; refine Jx 4 rfl ?_; refine Jf rfl rfl (.cons (Jq (vs := (yG a b).1.map uV) rfl (kn 0 rfl) rfl (by rw [List.length_map, show (yG a b).1.length = 4 from xE]; rfl)) (.cons (Jj rfl) .nil)) (fun w1 hs1 => ?_); exact ⟨rfl, hs1.keep⟩
theorem Jdn {a b : List Nat} (ha : WOk a) (hb : WOk b) : Pure Tryz.prog 278 [wV a, wV b].toArray (.bool (ze a b)) := by
 refine Jk Tryz.func278 rfl rfl fun w => ?_; refine J8 ?_; refine Jo 2 rfl ?_; refine JS (cs := (a.map uV).toArray) rfl rfl rfl rfl fun r1 => ?_; refine JS (cs := (b.map uV).toArray) rfl rfl rfl rfl fun r2 => ?_; refine JC 6 rfl ?_; refine LR rfl (Jb (xs := a.map uV) (n := 4) rfl (kn 1 rfl) rfl rfl (by rw [List.length_map, ha.1])) ?_; refine LR rfl (Jb (xs := b.map uV) (n := 4) rfl (kn 0 rfl) rfl rfl (by rw [List.length_map, hb.1])) ?_; refine LR rfl (xy (xs := a.map uV) (ys := b.map uV) (n := 4) rfl rfl rfl rfl rfl (by kernel_rfl) (by rw [List.length_map, ha.1]) (by rw [List.length_map, hb.1]) (yZ rfl a) (yZ rfl b)) ?_; refine J2 (congrArg Value.bool (xD (ha.1.trans hb.1.symm))) ?_; refine JI 2 rfl ?_; refine cD (fun g => ?_) fun g => ?_
 ·refine Kn 7 rfl ?_; refine pT rfl rfl rfl fun w1 hs1 => ?_; refine ⟨?_, hs1.keep⟩
  (have hab : a = b := by assumption
   unfold ze; simp [JA, hab]; done)
 ·refine Jo 4 rfl ?_; refine LR rfl (Jb (xs := a.map uV) (n := 4) rfl (kn 1 rfl) rfl rfl (by rw [List.length_map, ha.1])) ?_; refine LR rfl (Jb (xs := b.map uV) (n := 4) rfl (kn 0 rfl) rfl rfl (by rw [List.length_map, hb.1])) ?_; refine Jl rfl rfl rfl (enters_of Tryz.func336 (by kernel_rfl) rfl) (Jf9 ha hb) ?_; refine LS 3 [] rfl rfl ?_; refine Qs (cs := (zW.map uV).toArray) rfl rfl rfl rfl fun r3 => ?_; refine Jc (k := 0) (n := 4) (ys := (yG a b).1.map uV) rfl rfl rfl rfl rfl (by rw [List.length_map]; exact xE) rfl (YD _) rfl ?_; refine Jx 11 rfl ?_; refine pT rfl rfl rfl fun w1 hs1 => ?_; refine ⟨?_, hs1.keep⟩
  (have hab : ¬ a = b := by assumption
   unfold ze; simp [JA, hab])
end Go.Proofs.YtfaagelglpgpkaaGreatDoor
namespace Go.Proofs
open Go.Shelf
def Tryz.lays161_ren : Go.Shelf.Ren := ⟨fun | 161 => 260 | 231 => 327 | 227 => 328 | 233 => 329 | 235 => 330 | 228 => 358 | 197 => 359 | 151 => 360 | 260 => 372 | 152 => 373 | 137 => 384 | 119 => 385 | 224 => 386 | 225 => 387 | 217 => 391 | 266 => 392 | n => n, fun | 9 => 9 | 4 => 4 | 3 => 3 | 5 => 5 | 117 => 315 | 116 => 314 | 0 => 0 | 124 => 318 | 105 => 340 | 21 => 21 | 119 => 363 | 46 => 188 | 139 => 366 | 138 => 365 | n => n, fun | 3 => 1 | 4 => 2 | n => n⟩
theorem Tryz.lays161 : Go.Proofs.Lays.n161 Tryz.prog Tryz.lays161_ren := {
 mixed := by kernel_rfl
 f119 := Tryz.func385.trans (congrArg some (by kernel_rfl))
 f137 := Tryz.func384.trans (congrArg some (by kernel_rfl))
 f151 := Tryz.func360.trans (congrArg some (by kernel_rfl))
 f152 := Tryz.func373.trans (congrArg some (by kernel_rfl))
 f161 := Tryz.func260.trans (congrArg some (by kernel_rfl))
 f197 := Tryz.func359.trans (congrArg some (by kernel_rfl))
 f217 := Tryz.func391.trans (congrArg some (by kernel_rfl))
 f224 := Tryz.func386.trans (congrArg some (by kernel_rfl))
 f225 := Tryz.func387.trans (congrArg some (by kernel_rfl))
 f227 := Tryz.func328.trans (congrArg some (by kernel_rfl))
 f228 := Tryz.func358.trans (congrArg some (by kernel_rfl))
 f231 := Tryz.func327.trans (congrArg some (by kernel_rfl))
 f233 := Tryz.func329.trans (congrArg some (by kernel_rfl))
 f235 := Tryz.func330.trans (congrArg some (by kernel_rfl))
 f260 := Tryz.func372.trans (congrArg some (by kernel_rfl))
 f266 := Tryz.func392.trans (congrArg some (by kernel_rfl))
 t0 := Tryz.underlying0
 a0 := Tryz.isAgg0
 z0 := Tryz.sizeOf0
 v0 := Tryz.zeroValue0
 t3 := Tryz.underlying3
 a3 := Tryz.isAgg3
 z3 := Tryz.sizeOf3
 v3 := Tryz.zeroValue3
 t4 := Tryz.underlying4
 a4 := Tryz.isAgg4
 z4 := Tryz.sizeOf4
 v4 := Tryz.zeroValue4
 t5 := Tryz.underlying5
 a5 := Tryz.isAgg5
 z5 := Tryz.sizeOf5
 v5 := Tryz.zeroValue5
 t9 := Tryz.underlying9
 a9 := Tryz.isAgg9
 z9 := Tryz.sizeOf9
 v9 := Tryz.zeroValue9
 t21 := Tryz.underlying21
 a21 := Tryz.isAgg21
 z21 := Tryz.sizeOf21
 v21 := Tryz.zeroValue21
 t46 := Tryz.underlying188
 a46 := Tryz.isAgg188
 z46 := Tryz.sizeOf188
 v46 := Tryz.zeroValue188
 t105 := Tryz.underlying340
 a105 := Tryz.isAgg340
 z105 := Tryz.sizeOf340
 v105 := Tryz.zeroValue340
 t116 := Tryz.underlying314
 a116 := Tryz.isAgg314
 z116 := Tryz.sizeOf314
 t117 := Tryz.underlying315
 a117 := Tryz.isAgg315
 z117 := Tryz.sizeOf315
 v117 := Tryz.zeroValue315
 t119 := Tryz.underlying363
 a119 := Tryz.isAgg363
 z119 := Tryz.sizeOf363
 t124 := Tryz.underlying318
 a124 := Tryz.isAgg318
 z124 := Tryz.sizeOf318
 v124 := Tryz.zeroValue318
 t138 := Tryz.underlying365
 a138 := Tryz.isAgg365
 z138 := Tryz.sizeOf365
 v138 := Tryz.zeroValue365
 t139 := Tryz.underlying366
 a139 := Tryz.isAgg366
 z139 := Tryz.sizeOf366
 v139 := Tryz.zeroValue366
 g3 := by kernel_rfl
 g4 := by kernel_rfl }
open Go.RowKit in
theorem Tryz.strings_TrimLeft_one (s : ByteArray) (c : UInt8) (hc : c.toNat < 128) (w : World) :
  Calls Tryz.prog 260 #[.string s, .string ⟨#[c]⟩] w fun e w' => e = .returned (.string ⟨(Lib.trimLeftB s.data.toList c).toArray⟩) ∧ w' = w := Any.strings_TrimLeft_one Tryz.lays161 s c hc w
def Tryz.lays125_ren : Go.Shelf.Ren := ⟨fun | 125 => 174 | 128 => 234 | 129 => 235 | n => n, fun | 46 => 188 | 3 => 3 | 51 => 261 | 53 => 25 | 4 => 4 | 5 => 5 | 9 => 9 | n => n, fun | n => n⟩
theorem Tryz.lays125 : Go.Proofs.Lays.n125 Tryz.prog Tryz.lays125_ren := {
 mixed := by kernel_rfl
 f125 := Tryz.func174.trans (congrArg some (by kernel_rfl))
 f128 := Tryz.func234.trans (congrArg some (by kernel_rfl))
 f129 := Tryz.func235.trans (congrArg some (by kernel_rfl))
 t3 := Tryz.underlying3
 a3 := Tryz.isAgg3
 z3 := Tryz.sizeOf3
 v3 := Tryz.zeroValue3
 t4 := Tryz.underlying4
 a4 := Tryz.isAgg4
 z4 := Tryz.sizeOf4
 v4 := Tryz.zeroValue4
 t5 := Tryz.underlying5
 a5 := Tryz.isAgg5
 z5 := Tryz.sizeOf5
 v5 := Tryz.zeroValue5
 t9 := Tryz.underlying9
 a9 := Tryz.isAgg9
 z9 := Tryz.sizeOf9
 v9 := Tryz.zeroValue9
 t46 := Tryz.underlying188
 a46 := Tryz.isAgg188
 z46 := Tryz.sizeOf188
 v46 := Tryz.zeroValue188
 t51 := Tryz.underlying261
 a51 := Tryz.isAgg261
 z51 := Tryz.sizeOf261
 v51 := Tryz.zeroValue261
 t53 := Tryz.underlying25
 a53 := Tryz.isAgg25
 z53 := Tryz.sizeOf25
 v53 := Tryz.zeroValue25 }
theorem Tryz.bits_Len (x : Int) (w : World) (h0 : 0 ≤ x) (h1 : x ≤ 18446744073709551615) :
  Calls Tryz.prog 174 #[.int .u64 x] w fun e w' => e = .returned (.int .i64 (Lib.bitLen x.toNat)) ∧ w' = w := Any.bits_Len Tryz.lays125 x w h0 h1
def Tryz.lays189_ren : Go.Shelf.Ren := ⟨fun | 189 => 106 | 125 => 174 | 257 => 173 | 128 => 234 | 129 => 235 | 294 => 225 | 295 => 226 | 296 => 227 | 297 => 228 | 298 => 229 | 299 => 230 | 216 => 231 | 300 => 232 | 301 => 233 | 328 => 307 | 329 => 308 | 330 => 309 | 331 => 310 | 332 => 311 | 215 => 312 | 343 => 347 | n => n, fun | 28 => 92 | 3 => 3 | 46 => 188 | 0 => 0 | 51 => 261 | 53 => 25 | 4 => 4 | 183 => 254 | 182 => 253 | 131 => 258 | 5 => 5 | 9 => 9 | 218 => 293 | 222 => 297 | 228 => 327 | 229 => 328 | n => n, fun | n => n⟩
theorem Tryz.lays189 : Go.Proofs.Lays.n189 Tryz.prog Tryz.lays189_ren := {
 mixed := by kernel_rfl
 f125 := Tryz.func174.trans (congrArg some (by kernel_rfl))
 f128 := Tryz.func234.trans (congrArg some (by kernel_rfl))
 f129 := Tryz.func235.trans (congrArg some (by kernel_rfl))
 f189 := Tryz.func106.trans (congrArg some (by kernel_rfl))
 f215 := Tryz.func312.trans (congrArg some (by kernel_rfl))
 f216 := Tryz.func231.trans (congrArg some (by kernel_rfl))
 f257 := Tryz.func173.trans (congrArg some (by kernel_rfl))
 f294 := Tryz.func225.trans (congrArg some (by kernel_rfl))
 f295 := Tryz.func226.trans (congrArg some (by kernel_rfl))
 f296 := Tryz.func227.trans (congrArg some (by kernel_rfl))
 f297 := Tryz.func228.trans (congrArg some (by kernel_rfl))
 f298 := Tryz.func229.trans (congrArg some (by kernel_rfl))
 f299 := Tryz.func230.trans (congrArg some (by kernel_rfl))
 f300 := Tryz.func232.trans (congrArg some (by kernel_rfl))
 f301 := Tryz.func233.trans (congrArg some (by kernel_rfl))
 f328 := Tryz.func307.trans (congrArg some (by kernel_rfl))
 f329 := Tryz.func308.trans (congrArg some (by kernel_rfl))
 f330 := Tryz.func309.trans (congrArg some (by kernel_rfl))
 f331 := Tryz.func310.trans (congrArg some (by kernel_rfl))
 f332 := Tryz.func311.trans (congrArg some (by kernel_rfl))
 f343 := Tryz.func347.trans (congrArg some (by kernel_rfl))
 t0 := Tryz.underlying0
 a0 := Tryz.isAgg0
 z0 := Tryz.sizeOf0
 v0 := Tryz.zeroValue0
 t3 := Tryz.underlying3
 a3 := Tryz.isAgg3
 z3 := Tryz.sizeOf3
 v3 := Tryz.zeroValue3
 t4 := Tryz.underlying4
 a4 := Tryz.isAgg4
 z4 := Tryz.sizeOf4
 v4 := Tryz.zeroValue4
 t5 := Tryz.underlying5
 a5 := Tryz.isAgg5
 z5 := Tryz.sizeOf5
 v5 := Tryz.zeroValue5
 t9 := Tryz.underlying9
 a9 := Tryz.isAgg9
 z9 := Tryz.sizeOf9
 v9 := Tryz.zeroValue9
 t28 := Tryz.underlying92
 a28 := Tryz.isAgg92
 z28 := Tryz.sizeOf92
 v28 := Tryz.zeroValue92
 t46 := Tryz.underlying188
 a46 := Tryz.isAgg188
 z46 := Tryz.sizeOf188
 v46 := Tryz.zeroValue188
 t51 := Tryz.underlying261
 a51 := Tryz.isAgg261
 z51 := Tryz.sizeOf261
 v51 := Tryz.zeroValue261
 t53 := Tryz.underlying25
 a53 := Tryz.isAgg25
 z53 := Tryz.sizeOf25
 v53 := Tryz.zeroValue25
 t131 := Tryz.underlying258
 a131 := Tryz.isAgg258
 z131 := Tryz.sizeOf258
 v131 := Tryz.zeroValue258
 t182 := Tryz.underlying253
 a182 := Tryz.isAgg253
 z182 := Tryz.sizeOf253
 v182 := Tryz.zeroValue253
 t183 := Tryz.underlying254
 a183 := Tryz.isAgg254
 z183 := Tryz.sizeOf254
 v183 := Tryz.zeroValue254
 t218 := Tryz.underlying293
 a218 := Tryz.isAgg293
 z218 := Tryz.sizeOf293
 v218 := Tryz.zeroValue293
 t222 := Tryz.underlying297
 a222 := Tryz.isAgg297
 z222 := Tryz.sizeOf297
 v222 := Tryz.zeroValue297
 t228 := Tryz.underlying327
 a228 := Tryz.isAgg327
 z228 := Tryz.sizeOf327
 v228 := Tryz.zeroValue327
 t229 := Tryz.underlying328
 a229 := Tryz.isAgg328
 z229 := Tryz.sizeOf328
 v229 := Tryz.zeroValue328 }
open Go.Sort Go.RowKit in
theorem Tryz.slices_Sort_int (blk off cap : Nat) (zs : List Int) (w : World) (hH : Holds (Value.int .i64) w blk off zs.toArray) (hblk : blk < w.heap.size) (hsz : zs.length < 4611686018427387904) :
  Calls Tryz.prog 106 #[.slice (some ⟨blk, off, none⟩) zs.length cap] w fun e w' =>
   e = .returned (.tuple #[]) ∧ ∃ n os, w' = grow (putRow (Value.int .i64) (Sort.ahead w n) blk off (zs.mergeSort fun x y => decide (x ≤ y)).toArray) os := Any.slices_Sort_int Tryz.lays189 blk off cap zs w hH hblk hsz
def Tryz.lays105_ren : Go.Shelf.Ren := ⟨fun | 105 => 189 | 212 => 243 | 99 => 244 | 165 => 245 | 166 => 217 | 170 => 246 | 169 => 219 | 263 => 314 | 264 => 315 | 206 => 316 | 240 => 303 | 241 => 317 | 276 => 345 | 277 => 348 | n => n, fun | 9 => 9 | 3 => 3 | 4 => 4 | 20 => 20 | 0 => 0 | 46 => 188 | 109 => 268 | 5 => 5 | 72 => 243 | 76 => 246 | 51 => 261 | 146 => 300 | 53 => 25 | 148 => 302 | 70 => 241 | 37 => 66 | 75 => 245 | 127 => 292 | 164 => 325 | 80 => 109 | n => n, fun | n => n⟩
theorem Tryz.lays105 : Go.Proofs.Lays.n105 Tryz.prog Tryz.lays105_ren := {
 mixed := by kernel_rfl
 f99 := Tryz.func244.trans (congrArg some (by kernel_rfl))
 f105 := Tryz.func189.trans (congrArg some (by kernel_rfl))
 f165 := Tryz.func245.trans (congrArg some (by kernel_rfl))
 f166 := Tryz.func217.trans (congrArg some (by kernel_rfl))
 f169 := Tryz.func219.trans (congrArg some (by kernel_rfl))
 f170 := Tryz.func246.trans (congrArg some (by kernel_rfl))
 f206 := Tryz.func316.trans (congrArg some (by kernel_rfl))
 f212 := Tryz.func243.trans (congrArg some (by kernel_rfl))
 f240 := Tryz.func303.trans (congrArg some (by kernel_rfl))
 f241 := Tryz.func317.trans (congrArg some (by kernel_rfl))
 f263 := Tryz.func314.trans (congrArg some (by kernel_rfl))
 f264 := Tryz.func315.trans (congrArg some (by kernel_rfl))
 f276 := Tryz.func345.trans (congrArg some (by kernel_rfl))
 f277 := Tryz.func348.trans (congrArg some (by kernel_rfl))
 t0 := Tryz.underlying0
 a0 := Tryz.isAgg0
 z0 := Tryz.sizeOf0
 v0 := Tryz.zeroValue0
 t3 := Tryz.underlying3
 a3 := Tryz.isAgg3
 z3 := Tryz.sizeOf3
 v3 := Tryz.zeroValue3
 t4 := Tryz.underlying4
 a4 := Tryz.isAgg4
 z4 := Tryz.sizeOf4
 v4 := Tryz.zeroValue4
 t5 := Tryz.underlying5
 a5 := Tryz.isAgg5
 z5 := Tryz.sizeOf5
 v5 := Tryz.zeroValue5
 t9 := Tryz.underlying9
 a9 := Tryz.isAgg9
 z9 := Tryz.sizeOf9
 v9 := Tryz.zeroValue9
 t20 := Tryz.underlying20
 a20 := Tryz.isAgg20
 z20 := Tryz.sizeOf20
 v20 := Tryz.zeroValue20
 t37 := Tryz.underlying66
 a37 := Tryz.isAgg66
 z37 := Tryz.sizeOf66
 v37 := Tryz.zeroValue66
 t46 := Tryz.underlying188
 a46 := Tryz.isAgg188
 z46 := Tryz.sizeOf188
 v46 := Tryz.zeroValue188
 t51 := Tryz.underlying261
 a51 := Tryz.isAgg261
 z51 := Tryz.sizeOf261
 v51 := Tryz.zeroValue261
 t53 := Tryz.underlying25
 a53 := Tryz.isAgg25
 z53 := Tryz.sizeOf25
 v53 := Tryz.zeroValue25
 t70 := Tryz.underlying241
 a70 := Tryz.isAgg241
 z70 := Tryz.sizeOf241
 v70 := Tryz.zeroValue241
 t72 := Tryz.underlying243
 a72 := Tryz.isAgg243
 z72 := Tryz.sizeOf243
 v72 := Tryz.zeroValue243
 t75 := Tryz.underlying245
 a75 := Tryz.isAgg245
 z75 := Tryz.sizeOf245
 v75 := Tryz.zeroValue245
 t76 := Tryz.underlying246
 a76 := Tryz.isAgg246
 z76 := Tryz.sizeOf246
 v76 := Tryz.zeroValue246
 t109 := Tryz.underlying268
 a109 := Tryz.isAgg268
 z109 := Tryz.sizeOf268
 v109 := Tryz.zeroValue268
 t127 := Tryz.underlying292
 a127 := Tryz.isAgg292
 z127 := Tryz.sizeOf292
 v127 := Tryz.zeroValue292
 t146 := Tryz.underlying300
 a146 := Tryz.isAgg300
 z146 := Tryz.sizeOf300
 v146 := Tryz.zeroValue300
 t148 := Tryz.underlying302
 a148 := Tryz.isAgg302
 z148 := Tryz.sizeOf302
 v148 := Tryz.zeroValue302
 t164 := Tryz.underlying325
 a164 := Tryz.isAgg325
 z164 := Tryz.sizeOf325
 v164 := Tryz.zeroValue325 }
theorem Tryz.Builder_Extra_105 : Builder.Extra Tryz.prog Tryz.lays105_ren := {
 sizeBuilder := by kernel_rfl
 liesBuilder := by kernel_rfl
 t5 := Tryz.underlying5
 a5 := Tryz.isAgg5
 z5 := Tryz.sizeOf5
 v5 := Tryz.zeroValue5
 infoByte := by kernel_rfl
 cellsByte := by kernel_rfl
 sizeByte := by kernel_rfl
 neB5 := by decide }
open Go.RowKit Go.Lib in
theorem Tryz.strings_Repeat (s : ByteArray) (c : Nat) (w : World) (hc : c ≤ 9223372036854775807) (hlen : s.size * c ≤ 140737488355328) :
  Calls Tryz.prog 189 #[.string s, .int .i64 c] w fun e w' => e = .returned (.string ⟨(Lib.repeatL s.data.toList c).toArray⟩) ∧ Below w.heap.size w w' := Any.strings_Repeat Tryz.lays105 Tryz.Builder_Extra_105 s c w hc hlen
end Go.Proofs
namespace Go.Proofs.YtfaagelglpgpkaaGreatDoor
set_option linter.all false
open Go.SL Go.RowKit Go.Shelf
theorem Jdo (s : List UInt8) : Pure Tryz.prog 260 [.string (bs s), .string ⟨#[0]⟩].toArray (.string (bs (Lib.trimLeftB s 0))) := ⟨fun w => by
 have h := Tryz.strings_TrimLeft_one (bs s) 0 (by decide) w
 refine h.mono fun e w' ⟨h1, h2⟩ => ⟨?_, h2 ▸ Keep.refl _ _⟩
 rw [h1]; simp [bs]⟩
theorem zx {n : Nat} (hn : n ≤ 32) : Pure Tryz.prog 189 [.string ⟨#[0]⟩, .int .i64 (n : Int)].toArray (.string (bs (Lib.repeatL [0] n))) := ⟨fun w => by
 have hs : (ByteArray.mk #[0]).size = 1 := rfl
 have h := Tryz.strings_Repeat ⟨#[0]⟩ n w (by omega) (by rw [hs]; omega)
 refine h.mono fun e w' ⟨h1, h2⟩ => ⟨?_, Keep.of_below h2⟩
 rw [h1]; rfl⟩
def WC (l : List Nat) : List UInt8 := Lib.trimLeftB (Zf l 32) 0
theorem jE {l : List Nat} (hl : WOk l) : Pure Tryz.prog 200 [wV l].toArray (.string (bs (WC l))) := by
 refine Jk Tryz.func200 rfl rfl fun w => ?_; refine J8 ?_; refine Jo 2 rfl ?_; refine JS (cs := (l.map uV).toArray) rfl rfl rfl rfl fun r1 => ?_; refine JC 5 rfl ?_; refine LR rfl (Jb (xs := l.map uV) (n := 4) rfl (kn 0 rfl) rfl rfl (by rw [List.length_map, hl.1])) ?_; refine Jl rfl rfl rfl Jaf (Q2 hl) ?_; refine Jl rfl rfl rfl (enters_of Tryz.func260 (by kernel_rfl) rfl) (Jdo (Zf l 32)) ?_; refine Jx 4 rfl ?_; refine pT rfl rfl rfl fun w1 hs1 => ?_; exact ⟨rfl, hs1.keep⟩
def QJ (v : Vl) (num bits items pick : Bool) : Bool := (num || decide (v.num = [0, 0, 0, 0])) && (bits || decide (v.bits.length = 0)) && (items || decide (v.items.length = 0)) && (pick || decide (v.pick = 0))
def ofT (k n : Int) (m : Nat) (v : Vl) : Bool :=
 if k = 1 then QJ v true false false false && decide (((WC v.num).length : Int) ≤ n)
 else if k = 2 then QJ v true false false false && (decide (v.num = [0, 0, 0, 0]) || decide (v.num = [1, 0, 0, 0]))
 else if k = 3 then QJ v false false true false && decide ((v.items.length : Int) = n)
 else if k = 4 then QJ v false false true false
 else if k = 5 then QJ v false true false false && decide ((v.bits.length : Int) = n)
 else if k = 6 then QJ v false true false false
 else if k = 7 then QJ v false false true false && decide (v.items.length = m)
 else QJ v false false true true && decide (v.items.length = 1) && decide (0 ≤ v.pick) && decide (v.pick < m)
instance : Inhabited Ty := ⟨.mk 0 0 none []⟩
def X9 (k pick : Int) (i : Nat) : Nat := if k = 7 then i else if k = 8 then pick.toNat else 0
def JT (k pick : Int) (ins : List Ty) (i : Nat) : Ty := ins.getD (X9 k pick i) default
mutual
def KO : Vl → Ty → Int
 | .mk a b c d bits pb items pi pick, .mk k n p ins => if (k = 4 ∧ n < items.length) ∨ (k = 6 ∧ n < bits.length) then 5 else if ofT k n ins.length (.mk a b c d bits pb items pi pick) = false then 2 else QE items k pick ins 0
def QE : List Vl → Int → Int → List Ty → Nat → Int
 | [], _, _, _, _ => 0
 | x :: xs, k, pick, ins, i => if KO x (JT k pick ins i) = 0 then QE xs k pick ins (i + 1) else KO x (JT k pick ins i)
end
theorem qm {k n : Int} {p : Pl} {ins : List Ty} {dp : Int} {v : Vl} {i : Nat} (hc : chk (.mk k n p ins) dp = 0) (ho : ofT k n ins.length v = true) (hi : i < v.items.length) : X9 k v.pick i < ins.length := by
 obtain ⟨hk, hf, _, _⟩ := Va hc
 unfold ofT QJ at ho
 unfold Qc at hf
 unfold X9
 have h9 : k = 1 ∨ k = 2 ∨ k = 3 ∨ k = 4 ∨ k = 5 ∨ k = 6 ∨ k = 7 ∨ k = 8 := by omega
 have hl : ¬ v.items = [] := fun h => by rw [h] at hi; simp at hi
 rcases h9 with rfl | rfl | rfl | rfl | rfl | rfl | rfl | rfl
 all_goals simp [hl] at ho hf ⊢
 all_goals omega
theorem QR {k pick : Int} {ins : List Ty} {i : Nat} (h : X9 k pick i < ins.length) : ins[X9 k pick i]? = some (JT k pick ins i) ∧ JT k pick ins i ∈ ins := by
 unfold JT
 rw [List.getD_eq_getElem?_getD, List.getElem?_eq_getElem h]; exact ⟨rfl, List.getElem_mem h⟩
theorem Vf (a b c d : Nat) (bits : List Bool) (pb : Pl) (items : List Vl) (pi : Pl) (pick : Int) (h1 h2 h3 h4 : Bool) : QJ (.mk a b c d bits pb items pi pick) h1 h2 h3 h4 = ((h1 || decide ([a, b, c, d] = [0, 0, 0, 0])) && (h2 || decide (bits.length = 0)) && (h3 || decide (items.length = 0)) && (h4 || decide (pick = 0))) := rfl
theorem Vv (k n : Int) (m a b c d : Nat) (bits : List Bool) (pb : Pl) (items : List Vl) (pi : Pl) (pick : Int) (v : Vl) (hv : v = .mk a b c d bits pb items pi pick) : ofT k n m v =
 if k = 1 then QJ v true false false false && decide (((WC [a, b, c, d]).length : Int) ≤ n)
 else if k = 2 then QJ v true false false false && (decide ([a, b, c, d] = [0, 0, 0, 0]) || decide ([a, b, c, d] = [1, 0, 0, 0]))
 else if k = 3 then QJ v false false true false && decide ((items.length : Int) = n)
 else if k = 4 then QJ v false false true false
 else if k = 5 then QJ v false true false false && decide ((bits.length : Int) = n)
 else if k = 6 then QJ v false true false false
 else if k = 7 then QJ v false false true false && decide (items.length = m)
 else QJ v false false true true && decide (items.length = 1) && decide (0 ≤ pick) && decide (pick < m) := by subst hv; rfl
theorem Jxd {n : Int} {m : Nat} {v : Vl} (h : ofT 8 n m v = true) : 0 ≤ v.pick := by
 unfold ofT at h
 simp at h; omega
def V5 (t : Ty) (v : Vl) : Int := if chk t 0 = 0 then KO v t else chk t 0
theorem Jur (x y : Bool) : Pure Tryz.prog 375 [.bool x, .bool y].toArray (.bool (x == y)) := by
 refine Jk Tryz.func375 rfl rfl fun w => ?_; refine J8 ?_; refine Kn 14 rfl ?_; refine pT rfl rfl rfl fun w1 hs1 => ?_; exact ⟨rfl, hs1.keep⟩
def fV (f : FuncId) : Value := .func (.func f) #[] #[]
theorem Jph {R : Jm} {bits bits' : List Bool} {p p' : Pl} (hl : bits.length ≤ 9223372036854775807) (hl' : bits'.length ≤ 9223372036854775807) (hs : Seg R bits.length (jt bits) p) (hs' : Seg R bits'.length (jt bits') p') :
  PureR Tryz.prog 388 [KP bits.length p, KP bits'.length p', fV 375].toArray (.bool (decide (bits = bits'))) R := by
 refine Ja Tryz.func388 rfl rfl fun w => ?_; refine J8 ?_; refine Jo 9 rfl ?_; refine LR rfl (J3 rfl hs rfl) ?_; refine Qx rfl (LR rfl (J3 rfl hs' rfl) (JI 3 rfl ?_)); refine cD (fun g => ?_) fun g => ?_
 ·refine Kn 7 rfl ?_; refine pT rfl rfl rfl fun w1 hs1 => ?_; refine ⟨?_, hs1.keep⟩
  (have hse : bits ≠ bits' := fun e => by subst e; omega
   simp [JA, hse]; done)
 ·refine Jo 6 rfl ?_; refine LR rfl (J3 rfl hs rfl) ?_; refine JI 4 rfl ?_
  have hlb2 : bits.length = bits'.length := by omega
  refine J1 (σ := Nat) (fun i => i ≤ bits.length ∧ ∀ j, j < i → bits[j]? = bits'[j]?) (fun i => [(1, KP bits'.length p'), (2, fV 375), (15, KP bits.length p), (16, .int .i64 (bits.length : Int)), (17, .int .i64 (i : Int))]) (fun _ => []) (fun _ _ _ => True) (fun i => bits.length - i) 0 ⟨by omega, fun j hj => absurd hj (by omega)⟩ (lK rfl) (List.nil_sublist _) (fun _ _ h => h) ?_; rintro i ⟨hi1, hinv⟩; refine JP 6 rfl ?_; refine cD (fun g => ?_) fun g => ?_
  ·refine JP 5 rfl ?_
   obtain ⟨x, hx, hmx⟩ := QM (show i < bits.length by omega)
   obtain ⟨y, hy, hmy⟩ := QM (show i < bits'.length by omega)
   refine Jo 2 rfl ?_; refine LR rfl (Ju (j := i) rfl hs rfl rfl rfl rfl (by omega)) ?_; refine LR rfl (XU oR rfl hs hx rfl) ?_; refine JC 8 rfl ?_; refine LR rfl (Ju (j := i) rfl hs' rfl rfl rfl rfl (by omega)) ?_; refine LR rfl (XU oR rfl hs' hy rfl) ?_; refine JC 8 rfl ?_; refine Jl rfl rfl rfl (enters_of Tryz.func375 (by kernel_rfl) rfl) (Jur x y) ?_; refine JI 3 rfl ?_; refine cD (fun g => ?_) fun g => ?_
   ·refine Kn 11 rfl ?_; refine pT rfl rfl rfl fun w1 hs1 => ?_; refine ⟨?_, hs1.keep⟩
    (have hse : bits ≠ bits' := Juj hx hy (by simp_all)
     simp [JA, hse]; done)
   refine Jo 5 rfl ?_; refine Je (by omega) (by omega) ?_; refine Jx 2 rfl ?_; refine Jz ?_
   exact Jv (i + 1) ⟨by omega, fun j hj => by
    rcases Nat.lt_succ_iff_lt_or_eq.1 hj with hj | rfl
    exact hinv j hj
    rw [hx, hy]; simp_all⟩ (by omega) (lK rfl) (List.nil_sublist _) (fun _ _ h => h)
  ·refine Kn 11 rfl ?_; refine pT rfl rfl rfl fun w1 hs1 => ?_; refine ⟨?_, hs1.keep⟩
   (have hse : bits = bits' := Juk hlb2 (by omega) hinv
    simp [JA, hse]; done)
theorem Jpi {R : Jm} {items items' : List Vl} {p p' : Pl} {g : FuncId} (eg : Enters Tryz.prog g) (hg : ∀ x ∈ items, ∀ y ∈ items', PureR Tryz.prog g [x.val, y.val].toArray (.bool (Xl x y)) R) (hl : items.length ≤ 9223372036854775807) (hl' : items'.length ≤ 9223372036854775807) (hs : Seg R items.length (Q7 items) p) (hs' : Seg R items'.length (Q7 items') p') :
  PureR Tryz.prog 389 [KP items.length p, KP items'.length p', fV g].toArray (.bool (VD items items')) R := by
 refine Ja Tryz.func389 rfl rfl fun w => ?_; refine J8 ?_; refine Jo 9 rfl ?_; refine LR rfl (J3 rfl hs rfl) ?_; refine Qx rfl (LR rfl (J3 rfl hs' rfl) (JI 3 rfl ?_)); refine cD (fun h4 => ?_) fun h4 => ?_
 ·refine Kn 7 rfl ?_; refine pT rfl rfl rfl fun w1 hs1 => ?_; refine ⟨?_, hs1.keep⟩
  (have hse : VD items items' = false := Jum (by omega)
   simp [JA, hse]; done)
 ·refine Jo 6 rfl ?_; refine LR rfl (J3 rfl hs rfl) ?_; refine JI 4 rfl ?_
  have hl2 : items.length = items'.length := by omega
  refine J1 (σ := Nat) (fun i => i ≤ items.length ∧ ∀ q, q < i → ∀ x y, items[q]? = some x → items'[q]? = some y → Xl x y = true) (fun i => [(1, KP items'.length p'), (2, fV g), (15, KP items.length p), (16, .int .i64 (items.length : Int)), (17, .int .i64 (i : Int))]) (fun _ => []) (fun _ _ _ => True) (fun i => items.length - i) 0 ⟨by omega, fun j hj => absurd hj (by omega)⟩ (lK rfl) (List.nil_sublist _) (fun _ _ h => h) ?_; rintro i ⟨hi1, hinv⟩; refine JP 6 rfl ?_; refine cD (fun h10 => ?_) fun h10 => ?_
  ·refine JP 5 rfl ?_
   obtain ⟨x, hx, hmx⟩ := QM (show i < items.length by omega)
   obtain ⟨y, hy, hmy⟩ := QM (show i < items'.length by omega)
   refine Jo 2 rfl ?_; refine LR rfl (Ju (j := i) rfl hs rfl rfl rfl rfl (by omega)) ?_; refine LR rfl (Wt oR rfl hs hx rfl rfl) ?_; refine LN rfl fun r1 => ?_; refine Qx rfl (Jc (k := 0) (n := 7) (ys := x.cells) rfl rfl rfl rfl rfl x.len rfl x.one rfl (JC 6 rfl ?_)); refine LR rfl (Ju (j := i) rfl hs' rfl rfl rfl rfl (by omega)) ?_; refine LR rfl (Wt oR rfl hs' hy rfl rfl) ?_; refine LN rfl fun r2 => ?_; refine Jc (k := 0) (n := 7) (ys := y.cells) rfl rfl rfl rfl rfl y.len rfl y.one rfl ?_; refine JC 5 rfl ?_; refine LR rfl (Jb (xs := x.cells) (n := 7) rfl (kn 1 rfl) rfl rfl x.len) ?_; refine LR rfl (Jb (xs := y.cells) (n := 7) rfl (kn 0 rfl) rfl rfl y.len) ?_; refine Jg rfl rfl rfl eg (hg x hmx y hmy) oR ?_; refine JI 3 rfl ?_; refine cD (fun h15 => ?_) fun h15 => ?_
   ·refine Kn 11 rfl ?_; refine pT rfl rfl rfl fun w1 hs1 => ?_; refine ⟨?_, hs1.keep⟩
    (have hse : VD items items' = false := Jul hx hy (by assumption)
     simp [JA, hse]; done)
   refine Jo 5 rfl ?_; refine Je (by omega) (by omega) ?_; refine Jx 2 rfl ?_; refine Jz ?_
   exact Jv (i + 1) ⟨by omega, fun q hq u v hu hv => by
    rcases Nat.lt_succ_iff_lt_or_eq.1 hq with hq | rfl
    exact hinv q hq u v hu hv
    rw [hx] at hu; rw [hy] at hv; cases hu; cases hv; assumption⟩ (by omega) (lK rfl) (List.nil_sublist _) (fun _ _ h => h)
  ·refine Kn 11 rfl ?_; refine pT rfl rfl rfl fun w1 hs1 => ?_; refine ⟨?_, hs1.keep⟩
   (have hse : VD items items' = true := VZ.2 ⟨hl2, fun q x y hx hy => hinv q (by have := (List.getElem?_eq_some_iff.1 hx).1; omega) x y hx hy⟩
    simp [JA, hse]; done)
theorem Jus {R : Jm} {v0 v1 v2 v : Value} (h : PureR Tryz.prog 388 [v0, v1, v2].toArray v R) : PureR Tryz.prog 376 [v0, v1, v2].toArray v R := by
 refine Ja Tryz.func376 rfl rfl fun w => ?_; refine J8 ?_; refine Jo 10 rfl ?_; refine Jg rfl rfl rfl (enters_of Tryz.func388 (by kernel_rfl) rfl) h oR ?_; refine Jx 4 rfl ?_; refine pT rfl rfl rfl fun w1 hs1 => ?_; exact ⟨rfl, hs1.keep⟩
theorem Jut {R : Jm} {v0 v1 v2 v : Value} (h : PureR Tryz.prog 389 [v0, v1, v2].toArray v R) : PureR Tryz.prog 377 [v0, v1, v2].toArray v R := by
 refine Ja Tryz.func377 rfl rfl fun w => ?_; refine J8 ?_; refine Jo 10 rfl ?_; refine Jg rfl rfl rfl (enters_of Tryz.func389 (by kernel_rfl) rfl) h oR ?_; refine Jx 4 rfl ?_; refine pT rfl rfl rfl fun w1 hs1 => ?_; exact ⟨rfl, hs1.keep⟩
theorem Jyn {R : Jm} {u : Vl} (hu : u.In R) : ∀ v : Vl, v.In R → PureR Tryz.prog 362 [u.val, v.val].toArray (.bool (Xl u v)) R := by
 induction hu with
 | @mk a b c d bits pb items pi pick ha hb hc hd hlb hsb hl hs hp hi ih =>
 intro v hv
 cases hv with
 | @mk a' b' c' d' bits' pb' items' pi' pick' ha' hb' hc' hd' hlb' hsb' hl' hs' hp' hi' =>
 rw [YM]
 have h1 := Jus (Jph hlb hlb' hsb hsb')
 have h2 := Jut (Jpi (enters_of Tryz.func362 (by kernel_rfl) rfl) (fun x hx y hy => ih x hx y (hi' y hy)) hl hl' hs hs')
 refine Ja Tryz.func362 rfl rfl fun w => ?_; refine J8 ?_; refine Jo 2 rfl ?_; refine LN rfl fun r1 => ?_; refine LN rfl fun r2 => ?_; refine Xj 14 [1, 0] rfl rfl ?_; refine LR rfl (xy rfl rfl rfl rfl rfl (by kernel_rfl) rfl rfl rfl rfl) ?_
 first | (refine J2 (congrArg Value.bool (xD (a := [a, b, c, d]) (b := [a', b', c', d']) rfl)) ?_) | skip
 refine Qx rfl ?_
 refine J4 11 rfl (fun gb => ?_) (fun gb => ?_) <;> (try simp only [ZZ] at gb) <;> first | (refine LR rfl (JD rfl rfl rfl) ?_) | (refine LK rfl ?_)
 all_goals refine LW 1 [1] rfl rfl ?_
 all_goals first | refine LR rfl (JD rfl rfl rfl) ?_ | refine LK rfl ?_
 all_goals refine LW 4 [0] rfl rfl ?_
 all_goals first | refine LK rfl ?_ | (refine J4 18 rfl (fun gb => ?_) (fun gb => ?_) <;> (try simp only [ZZ] at gb) <;> first | (refine LR rfl (JD rfl rfl rfl) ?_) | (refine LK rfl ?_))
 all_goals refine LW 1 [1] rfl rfl ?_
 all_goals first | refine LR rfl (JD rfl rfl rfl) ?_ | refine LK rfl ?_
 all_goals refine LW 2 [0] rfl rfl ?_
 all_goals first | (refine Jg rfl rfl rfl (enters_of Tryz.func376 (by kernel_rfl) rfl) h1 oR ?_) | refine LK rfl ?_
 all_goals refine LW 2 [] rfl rfl ?_
 all_goals first | refine LK rfl ?_ | (refine J4 26 rfl (fun gb => ?_) (fun gb => ?_) <;> (try simp only [ZZ] at gb) <;> first | (refine LR rfl (JD rfl rfl rfl) ?_) | (refine LK rfl ?_))
 all_goals refine LW 1 [1] rfl rfl ?_
 all_goals first | refine LR rfl (JD rfl rfl rfl) ?_ | refine LK rfl ?_
 all_goals refine LW 1 [0] rfl rfl ?_
 all_goals first | (refine Jg rfl rfl rfl (enters_of Tryz.func377 (by kernel_rfl) rfl) h2 oR ?_) | refine LK rfl ?_
 all_goals (
  refine LW 2 [] rfl rfl (Jx 1 rfl (ZJ 2 rfl ?_)); refine pT rfl rfl rfl fun w1 hs1 => ?_; refine ⟨?_, hs1.keep⟩
  simp_all [JA]
  skip)
def kfs : List (Nat × Nat × Nat × Bool) := [(269, 272, 274, false), (275, 277, 279, false), (280, 283, 285, false), (287, 288, 0, true),
 (289, 290, 292, false), (293, 294, 0, true), (295, 296, 297, false), (298, 299, 0, true)]
def kAt (k : Int) : Nat × Nat × Nat × Bool := kfs.getD (k - 1).toNat (0, 0, 0, false)
def isK (k : Int) : Bool := decide (1 ≤ k) && decide (k ≤ 8)
def Jpj (k : Int) : FuncId := (kAt k).1
def ofF (k : Int) : FuncId := (kAt k).2.1
def Jpk (k : Int) : FuncId := (kAt k).2.2.1
def Jga (k : Int) : Bool := (kAt k).2.2.2
def fnV (b : Bool) (f : FuncId) : Value := if b then fV f else .nilFunc
def YN (k : Int) : List Value := [fnV (isK k) (Jpj k), fnV (isK k) (ofF k), fnV (isK k && !Jga k) (Jpk k), .bool (Jga k)]
def Jai (j : Nat) : MapEntry := { key := .int .i64 ((j : Int) + 1), val := .agg (YN ((j : Int) + 1)).toArray, born := j }
def kMap : Array MapEntry := #[Jai 0, Jai 1, Jai 2, Jai 3, Jai 4, Jai 5, Jai 6, Jai 7]
def Jlk : Obj := .map kMap 8
theorem YO : ∀ e ∈ kMap.toList, isI e.key := by
 intro e he; simp only [kMap, List.mem_cons, List.not_mem_nil, or_false] at he
 rcases he with rfl | rfl | rfl | rfl | rfl | rfl | rfl | rfl <;> exact ⟨_, rfl⟩
theorem Jdp (k : Int) : Kw XV (.int .i64 k) (kMap.toList.map QU) = if isK k then some (.agg (YN k).toArray) else none := by
 by_cases h : 1 ≤ k ∧ k ≤ 8
 ·have : k = 1 ∨ k = 2 ∨ k = 3 ∨ k = 4 ∨ k = 5 ∨ k = 6 ∨ k = 7 ∨ k = 8 := by omega
  rcases this with rfl | rfl | rfl | rfl | rfl | rfl | rfl | rfl <;> rfl
 ·have e : isK k = false := by unfold isK; simp; omega
  rw [e]
  have h1 : k ≠ 1 := by omega
  have h2 : k ≠ 2 := by omega
  have h3 : k ≠ 3 := by omega
  have h4 : k ≠ 4 := by omega
  have h5 : k ≠ 5 := by omega
  have h6 : k ≠ 6 := by omega
  have h7 : k ≠ 7 := by omega
  have h8 : k ≠ 8 := by omega
  simp [kMap, Jai, QU, Kw, Jn1, h1, h2, h3, h4, h5, h6, h7, h8]
theorem Jpl (k : Int) : (if true = true then Value.tuple #[((Kw XV (.int .i64 k) (kMap.toList.map QU)).getD (.agg #[.nilFunc, .nilFunc, .nilFunc, .bool false])), .bool (Kw XV (.int .i64 k) (kMap.toList.map QU)).isSome] else (Kw XV (.int .i64 k) (kMap.toList.map QU)).getD (.agg #[.nilFunc, .nilFunc, .nilFunc, .bool false])) =
  .tuple #[.agg (YN k).toArray, .bool (isK k)] := by
 rw [Jdp, if_pos rfl]
 cases h : isK k with
 | true => rfl
 | false =>
  have : Jga k = false := by
   unfold isK at h
   simp at h
   unfold Jga kAt
   by_cases h1 : 1 ≤ k
   ·have := h h1
    rw [List.getD_eq_getElem?_getD, List.getElem?_eq_none (by show 8 ≤ _; omega)]; rfl
   ·have : (k - 1).toNat = 0 := by omega
    rw [this]; rfl
  simp [YN, fnV, h, this]
theorem Zp {k : Int} (h : isK k = true) : (if false = true then Value.tuple #[((Kw XV (.int .i64 k) (kMap.toList.map QU)).getD (.agg #[.nilFunc, .nilFunc, .nilFunc, .bool false])), .bool (Kw XV (.int .i64 k) (kMap.toList.map QU)).isSome] else (Kw XV (.int .i64 k) (kMap.toList.map QU)).getD (.agg #[.nilFunc, .nilFunc, .nilFunc, .bool false])) =
  .agg (YN k).toArray := by
 rw [Jdp, h]; rfl
theorem jF : PureE (α := Nat) Tryz.prog 212 [].toArray (fun r => .map (some r)) (fun r => [(r, Jlk)]) := by
 refine JV Tryz.func212 rfl rfl fun w => ?_; refine J8 ?_; refine Jo 7 rfl ?_; refine ZK rfl rfl fun mr => ?_; refine LR rfl (Js (r := [_, _, _, _]) rfl rfl) ?_; refine KF (q := 0) (key := .int .i64 1) (Wa (t := 3) (by kernel_rfl)) rfl rfl rfl rfl rfl rfl ⟨_, rfl⟩ (by intro e he; simp at he) rfl rfl ?_; refine LR rfl (Js (r := [_, _, _, _]) rfl rfl) ?_
 refine KF (q := 0) (key := .int .i64 2) (Wa (t := 3) (by kernel_rfl)) rfl rfl rfl rfl rfl rfl ⟨_, rfl⟩ (by intro e he; simp at he; rcases he with rfl <;> exact ⟨_, rfl⟩) rfl rfl ?_; refine LR rfl (Js (r := [_, _, _, _]) rfl rfl) ?_
 refine KF (q := 0) (key := .int .i64 3) (Wa (t := 3) (by kernel_rfl)) rfl rfl rfl rfl rfl rfl ⟨_, rfl⟩ (by intro e he; simp at he; rcases he with rfl | rfl <;> exact ⟨_, rfl⟩) rfl rfl ?_; refine LR rfl (Js (r := [_, _, _, _]) rfl rfl) ?_
 refine KF (q := 0) (key := .int .i64 4) (Wa (t := 3) (by kernel_rfl)) rfl rfl rfl rfl rfl rfl ⟨_, rfl⟩ (by intro e he; simp at he; rcases he with rfl | rfl | rfl <;> exact ⟨_, rfl⟩) rfl rfl ?_; refine LR rfl (Js (r := [_, _, _, _]) rfl rfl) ?_
 refine KF (q := 0) (key := .int .i64 5) (Wa (t := 3) (by kernel_rfl)) rfl rfl rfl rfl rfl rfl ⟨_, rfl⟩ (by intro e he; simp at he; rcases he with rfl | rfl | rfl | rfl <;> exact ⟨_, rfl⟩) rfl rfl ?_; refine LR rfl (Js (r := [_, _, _, _]) rfl rfl) ?_
 refine KF (q := 0) (key := .int .i64 6) (Wa (t := 3) (by kernel_rfl)) rfl rfl rfl rfl rfl rfl ⟨_, rfl⟩ (by intro e he; simp at he; rcases he with rfl | rfl | rfl | rfl | rfl <;> exact ⟨_, rfl⟩) rfl rfl ?_; refine LR rfl (Js (r := [_, _, _, _]) rfl rfl) ?_
 refine KF (q := 0) (key := .int .i64 7) (Wa (t := 3) (by kernel_rfl)) rfl rfl rfl rfl rfl rfl ⟨_, rfl⟩ (by intro e he; simp at he; rcases he with rfl | rfl | rfl | rfl | rfl | rfl <;> exact ⟨_, rfl⟩) rfl rfl ?_; refine LR rfl (Js (r := [_, _, _, _]) rfl rfl) ?_
 refine KF (q := 0) (key := .int .i64 8) (Wa (t := 3) (by kernel_rfl)) rfl rfl rfl rfl rfl rfl ⟨_, rfl⟩ (by intro e he; simp at he; rcases he with rfl | rfl | rfl | rfl | rfl | rfl | rfl <;> exact ⟨_, rfl⟩) rfl rfl ?_; refine Jx 5 rfl ?_; refine pT rfl rfl rfl fun w1 hs1 => ?_; exact ⟨mr, rfl, hs1⟩
theorem YR {R : Jm} {k n : Int} {p : Pl} {ins : List Ty} (ht : Ty.In R (.mk k n p ins)) : PureR Tryz.prog 270 [Ty.val (.mk k n p ins)].toArray (.bool (decide (ins.length = 0))) R := by
 cases ht with
 | mk hk hn hl hs hi =>
 refine Ja Tryz.func270 rfl rfl fun w => ?_; refine J8 ?_; refine Jo 2 rfl ?_; refine LN rfl fun r1 => ?_; refine Xj 7 [0] rfl rfl ?_; refine LR rfl (J3 rfl hs rfl) ?_; refine Jx 5 rfl ?_; refine pT rfl rfl rfl fun w1 hs1 => ?_; exact ⟨congrArg (fun b => Ending.returned (Value.bool b)) (by rw [Bool.eq_iff_iff]; simp only [beq_iff_eq, decide_eq_true_eq]; omega), hs1.keep⟩
theorem XA {R : Jm} {k n : Int} {p : Pl} {ins : List Ty} (ht : Ty.In R (.mk k n p ins)) : PureR Tryz.prog 276 [Ty.val (.mk k n p ins)].toArray (.bool (decide (n = 0))) R := by
 cases ht with
 | mk hk hn hl hs hi =>
 refine Ja Tryz.func276 rfl rfl fun w => ?_; refine J8 ?_; refine Jo 2 rfl ?_; refine LN rfl fun r1 => ?_; refine Goq 12 [0] rfl rfl ?_; refine pT rfl rfl rfl fun w1 hs1 => ?_; refine ⟨?_, hs1.keep⟩
 simp_all [JA]
 first | done | rfl | omega | (rw [Bool.eq_iff_iff]; simp only [Bool.and_eq_true, Bool.or_eq_true, decide_eq_true_eq, beq_iff_eq]; omega) | (simp only [decide_eq_true_eq, decide_eq_false_iff_not]; omega)
theorem qH {R : Jm} {k n : Int} {p : Pl} {ins : List Ty} (ht : Ty.In R (.mk k n p ins)) : PureR Tryz.prog 282 [Ty.val (.mk k n p ins)].toArray (.bool (decide (1 ≤ n) && decide (n ≤ 512))) R := by
 cases ht with
 | mk hk hn hl hs hi =>
 refine Ja Tryz.func282 rfl rfl fun w => ?_; refine J8 ?_; refine Jo 2 rfl ?_; refine LN rfl fun r1 => ?_; refine Xj 9 [0] rfl rfl ?_
 refine J4 6 rfl (fun gb => ?_) (fun gb => ?_) <;> (try simp only [ZZ] at gb) <;> first | (refine LR rfl (JD rfl rfl rfl) ?_) | (refine LK rfl ?_)
 all_goals (
  refine LW 4 [0] rfl rfl (Jx 1 rfl (ZJ 2 rfl ?_)); refine pT rfl rfl rfl fun w1 hs1 => ?_; refine ⟨?_, hs1.keep⟩
  simp_all [JA]
  all_goals first | done | rfl | omega | (rw [Bool.eq_iff_iff]; simp only [Bool.and_eq_true, Bool.or_eq_true, decide_eq_true_eq, beq_iff_eq]; omega) | (simp only [decide_eq_true_eq, decide_eq_false_iff_not]; omega)
  skip)
theorem YU {R : Jm} {k n : Int} {p : Pl} {ins : List Ty} (ht : Ty.In R (.mk k n p ins)) (most : Int) : PureR Tryz.prog 281 [Ty.val (.mk k n p ins), .int .i64 most].toArray (.bool (decide (1 ≤ ins.length) && decide ((ins.length : Int) ≤ most))) R := by
 cases ht with
 | mk hk hn hl hs hi =>
 refine Ja Tryz.func281 rfl rfl fun w => ?_; refine J8 ?_; refine Jo 2 rfl ?_; refine LN rfl fun r1 => ?_; refine Xj 7 [0] rfl rfl ?_; refine LR rfl (J3 rfl hs rfl) ?_; refine LS 2 [] rfl rfl ?_
 refine J4 9 rfl (fun gb => ?_) (fun gb => ?_) <;> (try simp only [ZZ] at gb) <;> first | (refine LR rfl (JD rfl rfl rfl) ?_) | (refine LK rfl ?_)
 all_goals refine LW 1 [0] rfl rfl ?_
 all_goals first | refine LR rfl (J3 rfl hs rfl) ?_ | refine LK rfl ?_
 all_goals (
  refine LW 4 [] rfl rfl (Jx 1 rfl (ZJ 2 rfl ?_)); refine pT rfl rfl rfl fun w1 hs1 => ?_; refine ⟨?_, hs1.keep⟩
  simp_all [JA]
  first | done | rfl | omega | (rw [Bool.eq_iff_iff]; simp only [Bool.and_eq_true, Bool.or_eq_true, decide_eq_true_eq, beq_iff_eq]; omega) | (simp only [decide_eq_true_eq, decide_eq_false_iff_not]; omega)
  skip)
def Jaj : List Int → Int → Int → Int
 | [], _, _ => -1
 | y :: ys, x, j => if x = y then j else Jaj ys x (j + 1)
def Jpm (l : List Int) : List Value := l.map (Value.int .i64)
theorem Juu {R : Jm} {xs : List Int} {p : Pl} (x : Int) (hl : xs.length ≤ 9223372036854775807) (hs : Seg R xs.length (Jpm xs) p) : PureR Tryz.prog 333 [KP xs.length p, .int .i64 x].toArray (.int .i64 (Jaj xs x 0)) R := by
 refine Ja Tryz.func333 rfl rfl fun w => ?_; refine J8 ?_; refine Jo 9 rfl ?_; refine LR rfl (J3 rfl hs rfl) ?_; refine JI 4 rfl ?_; refine J1 (σ := Nat) (fun i => i ≤ xs.length ∧ Jaj (xs.drop i) x (i : Int) = Jaj xs x 0) (fun i => [(0, KP xs.length p), (1, .int .i64 x), (7, .int .i64 (xs.length : Int)), (8, .int .i64 (i : Int))]) (fun _ => []) (fun _ _ _ => True) (fun i => xs.length - i) 0 ⟨by omega, rfl⟩ (lK rfl) (List.nil_sublist _) (fun _ _ h => h) ?_; rintro i ⟨hi1, hinv⟩; refine JP 6 rfl ?_; refine cD (fun g => ?_) fun g => ?_
 refine JP 11 rfl ?_
 obtain ⟨y, hy, hmy⟩ := QM (show i < xs.length by omega)
 rw [ZB hy, Jaj] at hinv; refine Jo 4 rfl ?_; refine LR rfl (Ju (j := i) rfl hs rfl rfl rfl rfl (by omega)) ?_; refine LR rfl (VY (v := .int .i64 y) (j := i) oR rfl hs (by omega) rfl (by unfold Jpm; rw [List.getElem?_map, hy]; rfl)) ?_; refine JI 3 rfl ?_; refine cD (fun g => ?_) fun g => ?_
 refine Kn 12 rfl ?_; refine pT rfl rfl rfl fun w1 hs1 => ?_; refine ⟨?_, hs1.keep⟩; rw [← hinv, if_pos (by assumption)]; rfl
 refine Jo 5 rfl ?_; refine Je (by omega) (by omega) ?_; refine Jx 2 rfl ?_; refine Jz ?_; exact Jv (i + 1) ⟨by omega, by rw [if_neg (by assumption)] at hinv; exact hinv⟩ (by omega) (lK rfl) (List.nil_sublist _) (fun _ _ h => h)
 ·refine Kn 11 rfl ?_; refine pT rfl rfl rfl fun w1 hs1 => ?_; refine ⟨?_, hs1.keep⟩; rw [← hinv, List.drop_of_length_le (by omega), Jaj]; rfl
theorem Jgb {R : Jm} {xs : List Int} {p : Pl} (x : Int) (hl : xs.length ≤ 9223372036854775807) (hs : Seg R xs.length (Jpm xs) p) : PureR Tryz.prog 271 [KP xs.length p, .int .i64 x].toArray (.bool (decide (0 ≤ Jaj xs x 0))) R := by
 have h := Juu x hl hs
 refine Ja Tryz.func271 rfl rfl fun w => ?_; refine J8 ?_; refine Jo 9 rfl ?_; refine Jg rfl rfl rfl (enters_of Tryz.func333 (by kernel_rfl) rfl) h oR ?_; refine Jx 5 rfl ?_; refine pT rfl rfl rfl fun w1 hs1 => ?_; exact ⟨rfl, hs1.keep⟩
theorem J2o (n : Int) : decide (0 ≤ Jaj [1, 2, 4, 8, 32] n 0) = (decide (n = 1) || decide (n = 2) || decide (n = 4) || decide (n = 8) || decide (n = 32)) := by
 simp only [Jaj]
 by_cases h1 : n = 1
 ·simp [h1]
 by_cases h2 : n = 2
 ·simp [h2]
 by_cases h4 : n = 4
 ·simp [h4]
 by_cases h8 : n = 8
 ·simp [h8]
 by_cases h32 : n = 32
 ·simp [h32]
 simp [h1, h2, h4, h8, h32]
theorem F_1 {R : Jm} {n : Int} {p : Pl} {ins : List Ty} (ht : Ty.In R (.mk 1 n p ins)) : PureR Tryz.prog 269 [Ty.val (.mk 1 n p ins)].toArray (.bool (Qc 1 n ins.length)) R := by
 have hno := YR ht
 have hpl := XA ht
 have hro := qH ht
 have hma := fun m => YU ht m
 cases ht with
 | mk hk hn hl hs hi =>
 refine Ja Tryz.func269 rfl rfl fun w => ?_; refine J8 ?_; refine Jo 2 rfl ?_; refine LN rfl fun r1 => ?_; refine JC 5 rfl ?_; refine LR rfl (Jp (vs := [_, _, _]) rfl (kn 0 rfl) rfl rfl rfl rfl) ?_; refine Jg rfl rfl rfl Jiq hno oR ?_; refine Qx rfl ?_
 refine J4 5 rfl (fun gb => ?_) (fun gb => ?_) <;> (try simp only [ZZ] at gb) <;> first | (refine JN (vs := [_, _, _, _, _]) (zs := [_, _, _, _, _]) (r := [_, _, _, _, _]) rfl rfl rfl rfl rfl rfl rfl rfl rfl (by show (madeCells #[_] _).toList = _; rw [QX]; exact rfl) rfl fun r2 => ?_) | (refine LK rfl ?_)
 all_goals first | refine LR rfl (JD rfl rfl rfl) ?_ | refine LK rfl ?_
 all_goals refine LW 1 [1] rfl rfl ?_
 all_goals first | (refine Jg rfl rfl rfl (enters_of Tryz.func271 (by kernel_rfl) rfl) (Jgb (R := [(r2, _)]) (xs := [1, 2, 4, 8, 32]) (p := some (⟨r2, 0, none⟩, 5)) n (by decide) ⟨by decide, fun _ => ⟨rfl, _, _, _, List.mem_cons_self, rfl⟩⟩) (fun q hq => .inl (by rw [List.mem_singleton.1 hq]; exact List.mem_cons_self)) ?_; refine J2 (congrArg Value.bool (J2o n)) ?_) | refine LK rfl ?_
 all_goals (
  refine LW 2 [] rfl rfl (Jx 1 rfl (ZJ 2 rfl ?_)); refine pT rfl rfl rfl fun w1 hs1 => ?_; refine ⟨?_, hs1.keep⟩
  unfold Qc
  simp_all [JA]
  skip)
theorem F_2 {R : Jm} {n : Int} {p : Pl} {ins : List Ty} (ht : Ty.In R (.mk 2 n p ins)) : PureR Tryz.prog 275 [Ty.val (.mk 2 n p ins)].toArray (.bool (Qc 2 n ins.length)) R := by
 have hno := YR ht
 have hpl := XA ht
 have hro := qH ht
 have hma := fun m => YU ht m
 cases ht with
 | mk hk hn hl hs hi =>
 refine Ja Tryz.func275 rfl rfl fun w => ?_; refine J8 ?_; refine Jo 2 rfl ?_; refine LN rfl fun r1 => ?_; refine JC 5 rfl ?_; refine LR rfl (Jp (vs := [_, _, _]) rfl (kn 0 rfl) rfl rfl rfl rfl) ?_; refine Jg rfl rfl rfl Jiq hno oR ?_; refine Qx rfl ?_
 refine J4 5 rfl (fun gb => ?_) (fun gb => ?_) <;> (try simp only [ZZ] at gb) <;> first | (refine LR rfl (Jp (vs := [_, _, _]) rfl (kn 0 rfl) rfl rfl rfl rfl) ?_) | (refine LK rfl ?_)
 all_goals first | (refine Jg rfl rfl rfl Jpc hpl oR ?_) | refine LK rfl ?_
 all_goals (
  refine LW 2 [] rfl rfl (Jx 1 rfl (ZJ 2 rfl ?_)); refine pT rfl rfl rfl fun w1 hs1 => ?_; refine ⟨?_, hs1.keep⟩
  unfold Qc
  simp_all [JA]
  skip)
theorem F_3 {R : Jm} {n : Int} {p : Pl} {ins : List Ty} (ht : Ty.In R (.mk 3 n p ins)) : PureR Tryz.prog 280 [Ty.val (.mk 3 n p ins)].toArray (.bool (Qc 3 n ins.length)) R := by
 have hno := YR ht
 have hpl := XA ht
 have hro := qH ht
 have hma := fun m => YU ht m
 cases ht with
 | mk hk hn hl hs hi =>
 refine Ja Tryz.func280 rfl rfl fun w => ?_; refine J8 ?_; refine Jo 2 rfl ?_; refine LN rfl fun r1 => ?_; refine JC 5 rfl ?_; refine LR rfl (Jp (vs := [_, _, _]) rfl (kn 0 rfl) rfl rfl rfl rfl) ?_; refine Jg rfl rfl rfl Jir (hma 1) oR ?_; refine Qx rfl ?_
 refine J4 5 rfl (fun gb => ?_) (fun gb => ?_) <;> (try simp only [ZZ] at gb) <;> first | (refine LR rfl (Jp (vs := [_, _, _]) rfl (kn 0 rfl) rfl rfl rfl rfl) ?_) | (refine LK rfl ?_)
 all_goals first | (refine Jg rfl rfl rfl Jis hro oR ?_) | refine LK rfl ?_
 all_goals (
  refine LW 2 [] rfl rfl (Jx 1 rfl (ZJ 2 rfl ?_)); refine pT rfl rfl rfl fun w1 hs1 => ?_; refine ⟨?_, hs1.keep⟩
  unfold Qc
  simp_all [JA]
  first | done | rfl | omega | (rw [Bool.eq_iff_iff]; simp only [Bool.and_eq_true, Bool.or_eq_true, decide_eq_true_eq, beq_iff_eq]; omega) | (simp only [decide_eq_true_eq, decide_eq_false_iff_not]; omega)
  skip)
theorem F_4 {R : Jm} {n : Int} {p : Pl} {ins : List Ty} (ht : Ty.In R (.mk 4 n p ins)) : PureR Tryz.prog 287 [Ty.val (.mk 4 n p ins)].toArray (.bool (Qc 4 n ins.length)) R := by
 have hno := YR ht
 have hpl := XA ht
 have hro := qH ht
 have hma := fun m => YU ht m
 cases ht with
 | mk hk hn hl hs hi =>
 refine Ja Tryz.func287 rfl rfl fun w => ?_; refine J8 ?_; refine Jo 2 rfl ?_; refine LN rfl fun r1 => ?_; refine JC 5 rfl ?_; refine LR rfl (Jp (vs := [_, _, _]) rfl (kn 0 rfl) rfl rfl rfl rfl) ?_; refine Jg rfl rfl rfl Jir (hma 1) oR ?_; refine Qx rfl ?_
 refine J4 5 rfl (fun gb => ?_) (fun gb => ?_) <;> (try simp only [ZZ] at gb) <;> first | (refine LR rfl (Jp (vs := [_, _, _]) rfl (kn 0 rfl) rfl rfl rfl rfl) ?_) | (refine LK rfl ?_)
 all_goals first | (refine Jg rfl rfl rfl Jis hro oR ?_) | refine LK rfl ?_
 all_goals (
  refine LW 2 [] rfl rfl (Jx 1 rfl (ZJ 2 rfl ?_)); refine pT rfl rfl rfl fun w1 hs1 => ?_; refine ⟨?_, hs1.keep⟩
  unfold Qc
  simp_all [JA]
  first | done | rfl | omega | (rw [Bool.eq_iff_iff]; simp only [Bool.and_eq_true, Bool.or_eq_true, decide_eq_true_eq, beq_iff_eq]; omega) | (simp only [decide_eq_true_eq, decide_eq_false_iff_not]; omega)
  skip)
theorem F_5 {R : Jm} {n : Int} {p : Pl} {ins : List Ty} (ht : Ty.In R (.mk 5 n p ins)) : PureR Tryz.prog 289 [Ty.val (.mk 5 n p ins)].toArray (.bool (Qc 5 n ins.length)) R := by
 have hno := YR ht
 have hpl := XA ht
 have hro := qH ht
 have hma := fun m => YU ht m
 cases ht with
 | mk hk hn hl hs hi =>
 refine Ja Tryz.func289 rfl rfl fun w => ?_; refine J8 ?_; refine Jo 2 rfl ?_; refine LN rfl fun r1 => ?_; refine JC 5 rfl ?_; refine LR rfl (Jp (vs := [_, _, _]) rfl (kn 0 rfl) rfl rfl rfl rfl) ?_; refine Jg rfl rfl rfl Jiq hno oR ?_; refine Qx rfl ?_
 refine J4 5 rfl (fun gb => ?_) (fun gb => ?_) <;> (try simp only [ZZ] at gb) <;> first | (refine LR rfl (Jp (vs := [_, _, _]) rfl (kn 0 rfl) rfl rfl rfl rfl) ?_) | (refine LK rfl ?_)
 all_goals first | (refine Jg rfl rfl rfl Jis hro oR ?_) | refine LK rfl ?_
 all_goals (
  refine LW 2 [] rfl rfl (Jx 1 rfl (ZJ 2 rfl ?_)); refine pT rfl rfl rfl fun w1 hs1 => ?_; refine ⟨?_, hs1.keep⟩
  unfold Qc
  simp_all [JA]
  skip)
theorem F_6 {R : Jm} {n : Int} {p : Pl} {ins : List Ty} (ht : Ty.In R (.mk 6 n p ins)) : PureR Tryz.prog 293 [Ty.val (.mk 6 n p ins)].toArray (.bool (Qc 6 n ins.length)) R := by
 have hno := YR ht
 have hpl := XA ht
 have hro := qH ht
 have hma := fun m => YU ht m
 cases ht with
 | mk hk hn hl hs hi =>
 refine Ja Tryz.func293 rfl rfl fun w => ?_; refine J8 ?_; refine Jo 2 rfl ?_; refine LN rfl fun r1 => ?_; refine JC 5 rfl ?_; refine LR rfl (Jp (vs := [_, _, _]) rfl (kn 0 rfl) rfl rfl rfl rfl) ?_; refine Jg rfl rfl rfl Jiq hno oR ?_; refine Qx rfl ?_
 refine J4 5 rfl (fun gb => ?_) (fun gb => ?_) <;> (try simp only [ZZ] at gb) <;> first | (refine LR rfl (Jp (vs := [_, _, _]) rfl (kn 0 rfl) rfl rfl rfl rfl) ?_) | (refine LK rfl ?_)
 all_goals first | (refine Jg rfl rfl rfl Jis hro oR ?_) | refine LK rfl ?_
 all_goals (
  refine LW 2 [] rfl rfl (Jx 1 rfl (ZJ 2 rfl ?_)); refine pT rfl rfl rfl fun w1 hs1 => ?_; refine ⟨?_, hs1.keep⟩
  unfold Qc
  simp_all [JA]
  skip)
theorem F_7 {R : Jm} {n : Int} {p : Pl} {ins : List Ty} (ht : Ty.In R (.mk 7 n p ins)) : PureR Tryz.prog 295 [Ty.val (.mk 7 n p ins)].toArray (.bool (Qc 7 n ins.length)) R := by
 have hno := YR ht
 have hpl := XA ht
 have hro := qH ht
 have hma := fun m => YU ht m
 cases ht with
 | mk hk hn hl hs hi =>
 refine Ja Tryz.func295 rfl rfl fun w => ?_; refine J8 ?_; refine Jo 2 rfl ?_; refine LN rfl fun r1 => ?_; refine JC 5 rfl ?_; refine LR rfl (Jp (vs := [_, _, _]) rfl (kn 0 rfl) rfl rfl rfl rfl) ?_; refine Jg rfl rfl rfl Jir (hma 16) oR ?_; refine Qx rfl ?_
 refine J4 5 rfl (fun gb => ?_) (fun gb => ?_) <;> (try simp only [ZZ] at gb) <;> first | (refine LR rfl (Jp (vs := [_, _, _]) rfl (kn 0 rfl) rfl rfl rfl rfl) ?_) | (refine LK rfl ?_)
 all_goals first | (refine Jg rfl rfl rfl Jpc hpl oR ?_) | refine LK rfl ?_
 all_goals (
  refine LW 2 [] rfl rfl (Jx 1 rfl (ZJ 2 rfl ?_)); refine pT rfl rfl rfl fun w1 hs1 => ?_; refine ⟨?_, hs1.keep⟩
  unfold Qc
  simp_all [JA]
  first | done | rfl | omega | (rw [Bool.eq_iff_iff]; simp only [Bool.and_eq_true, Bool.or_eq_true, decide_eq_true_eq, beq_iff_eq]; omega) | (simp only [decide_eq_true_eq, decide_eq_false_iff_not]; omega)
  skip)
theorem F_8 {R : Jm} {n : Int} {p : Pl} {ins : List Ty} (ht : Ty.In R (.mk 8 n p ins)) : PureR Tryz.prog 298 [Ty.val (.mk 8 n p ins)].toArray (.bool (Qc 8 n ins.length)) R := by
 have hno := YR ht
 have hpl := XA ht
 have hro := qH ht
 have hma := fun m => YU ht m
 cases ht with
 | mk hk hn hl hs hi =>
 refine Ja Tryz.func298 rfl rfl fun w => ?_; refine J8 ?_; refine Jo 2 rfl ?_; refine LN rfl fun r1 => ?_; refine JC 5 rfl ?_; refine LR rfl (Jp (vs := [_, _, _]) rfl (kn 0 rfl) rfl rfl rfl rfl) ?_; refine Jg rfl rfl rfl Jir (hma 8) oR ?_; refine Qx rfl ?_
 refine J4 5 rfl (fun gb => ?_) (fun gb => ?_) <;> (try simp only [ZZ] at gb) <;> first | (refine LR rfl (Jp (vs := [_, _, _]) rfl (kn 0 rfl) rfl rfl rfl rfl) ?_) | (refine LK rfl ?_)
 all_goals first | (refine Jg rfl rfl rfl Jpc hpl oR ?_) | refine LK rfl ?_
 all_goals (
  refine LW 2 [] rfl rfl (Jx 1 rfl (ZJ 2 rfl ?_)); refine pT rfl rfl rfl fun w1 hs1 => ?_; refine ⟨?_, hs1.keep⟩
  unfold Qc
  simp_all [JA]
  first | done | rfl | omega | (rw [Bool.eq_iff_iff]; simp only [Bool.and_eq_true, Bool.or_eq_true, decide_eq_true_eq, beq_iff_eq]; omega) | (simp only [decide_eq_true_eq, decide_eq_false_iff_not]; omega)
  skip)
theorem Wk {k : Int} : isK k = true ↔ 1 ≤ k ∧ k ≤ 8 := by unfold isK; simp
theorem J0z {R : Jm} {k n : Int} {p : Pl} {ins : List Ty} (ht : Ty.In R (.mk k n p ins)) (h : isK k = true) : Enters Tryz.prog (Jpj k) ∧ PureR Tryz.prog (Jpj k) [Ty.val (.mk k n p ins)].toArray (.bool (Qc k n ins.length)) R := by
 have := Wk.1 h
 have : k = 1 ∨ k = 2 ∨ k = 3 ∨ k = 4 ∨ k = 5 ∨ k = 6 ∨ k = 7 ∨ k = 8 := by omega
 rcases this with rfl | rfl | rfl | rfl | rfl | rfl | rfl | rfl
 ·exact ⟨enters_of Tryz.func269 (by kernel_rfl) rfl, F_1 ht⟩
 ·exact ⟨enters_of Tryz.func275 (by kernel_rfl) rfl, F_2 ht⟩
 ·exact ⟨enters_of Tryz.func280 (by kernel_rfl) rfl, F_3 ht⟩
 ·exact ⟨enters_of Tryz.func287 (by kernel_rfl) rfl, F_4 ht⟩
 ·exact ⟨enters_of Tryz.func289 (by kernel_rfl) rfl, F_5 ht⟩
 ·exact ⟨enters_of Tryz.func293 (by kernel_rfl) rfl, F_6 ht⟩
 ·exact ⟨enters_of Tryz.func295 (by kernel_rfl) rfl, F_7 ht⟩
 ·exact ⟨enters_of Tryz.func298 (by kernel_rfl) rfl, F_8 ht⟩
theorem Jgc (k : Int) : (YN k).all Q6 = true := by
 unfold YN fnV
 cases isK k <;> cases Jga k <;> rfl
theorem Zq {k : Int} (h : isK k = false) : k < 1 ∨ 8 < k := by unfold isK at h; simp at h; omega
theorem Jiv {b : Bool} {f : FuncId} (h : b = true) : fnV b f = .func (.func f) #[] #[] := by rw [h]; rfl
theorem Jiw {k : Int} (h : isK k = true) : Jga k = (decide (k = 4) || decide (k = 6) || decide (k = 8)) := by
 have := Wk.1 h
 have : k = 1 ∨ k = 2 ∨ k = 3 ∨ k = 4 ∨ k = 5 ∨ k = 6 ∨ k = 7 ∨ k = 8 := by omega
 rcases this with rfl | rfl | rfl | rfl | rfl | rfl | rfl | rfl <;> rfl
theorem Juv {R : Jm} {t : Ty} (ht : t.In R) : ∀ d : Int, 0 ≤ d → d ≤ 1000 → PureR Tryz.prog 211 [t.val, .int .i64 d].toArray (.int .i64 (chk t d)) R := by
  induction ht with
  | @mk k n p ins hk hn hl hs hi ih =>
  intro d hd0 hd1
  have hF := fun h => J0z (.mk hk hn hl hs hi : Ty.In R (.mk k n p ins)) h
  refine Ja Tryz.func211 rfl rfl fun w => ?_; refine J8 ?_; refine Jo 2 rfl ?_; refine LN rfl fun r1 => ?_; refine JI 4 rfl ?_
  refine JL [] [(0, .grow (Qf 0 (fun r : Nat => Value.map (some r)) (fun r => [(r, Jlk)]))), (1, .pure), (4, .pure), (5, .pure), (6, .pure), (7, .grow (V2 qU (.cells #[.nilFunc, .nilFunc, .nilFunc, .bool false] 235 (0, 0)))), (8, .turn), (9, .pure)] 10 [1, 2, 0, 3, 4, 5, 6, 7, 8, 9] (by kernel_rfl) (by kernel_rfl) (by first | exact (fun _ h => absurd h List.not_mem_nil) | simp [SubS] | (intro p hp; simp [hp])) ?_
  refine Jn (k := 1) rfl rfl rfl rfl rfl (fun _ hS => (JD rfl rfl rfl)) ?_; refine KB (k := 2) rfl rfl rfl rfl rfl (Jh rfl (kn 0 rfl) rfl rfl) ?_; refine WY (k := 0) rfl rfl rfl rfl rfl Jdm jF fun mr => ?_; refine KB (k := 3) rfl rfl rfl rfl rfl (Vz (Wa (t := 3) (by kernel_rfl)) rfl rfl (kn 0 rfl) rfl rfl ⟨_, rfl⟩ YO (Jpl k)) ?_; refine Jn (k := 4) rfl rfl rfl rfl rfl (fun _ hS => (Ji rfl)) ?_; refine Jn (k := 5) rfl rfl rfl rfl rfl (fun _ hS => (JM rfl rfl)) ?_; refine Jn (k := 6) rfl rfl rfl rfl rfl (fun _ hS => (JM rfl rfl)) ?_; refine VL (k := 7) (cs := #[_, _, _, _]) rfl rfl rfl rfl rfl rfl fun r2 => ?_
  refine QI (k := 8) (q := 0) (n := 4) (ys := YN k) rfl rfl rfl rfl rfl rfl rfl rfl rfl (Jgc k) (by first | (simp only [List.set_cons_zero, List.set_cons_succ]; exact rfl) | exact rfl) (by first | exact (fun _ h => nomatch h) | simp [SubS]) ?_; refine Jn (k := 9) rfl rfl rfl rfl rfl (fun _ hS => (J9 rfl)) ?_; refine Ko ?_; refine JI 11 rfl ?_; refine cD (fun g => ?_) fun g => ?_
  refine Kn 8 rfl ?_; refine pT rfl rfl rfl fun w1 hs1 => ?_; refine ⟨?_, hs1.keep⟩; rw [chk, if_pos (Zq (by assumption))]; rfl
  · refine X6 4 [0] rfl rfl ?_; refine J2 (Jiv (by assumption)) ?_; refine LR rfl (Jp (vs := [_, _, _]) rfl (kn 2 rfl) rfl rfl rfl rfl) ?_; refine Jg rfl rfl rfl (hF (by assumption)).1 (hF (by assumption)).2 oR ?_; refine JI 4 rfl ?_; refine cD (fun g => ?_) fun g => ?_
    refine Kn 8 rfl ?_; refine pT rfl rfl rfl fun w1 hs1 => ?_; refine ⟨?_, hs1.keep⟩
    first
      | (rw [chk, if_pos (Zq (by assumption))]; rfl)
      | (have hkk := Wk.1 (by assumption)
         rw [chk, if_neg (by omega)]
         first
         | (rw [if_pos (by assumption)]; rfl)
         | (rw [if_neg (by simp_all), if_pos (by omega)]; rfl)
         | (rw [if_neg (by simp_all), if_neg (by omega), ← hinv, if_neg (by assumption)]; rfl)
         | (rw [if_neg (by simp_all), if_neg (by omega), ← hinv, List.drop_of_length_le (by omega), XJ]; rfl))
    · refine JP 7 rfl ?_; refine cD (fun g => ?_) fun g => ?_
      refine Kn 8 rfl ?_; refine pT rfl rfl rfl fun w1 hs1 => ?_; refine ⟨?_, hs1.keep⟩
      first
        | (rw [chk, if_pos (Zq (by assumption))]; rfl)
        | (have hkk := Wk.1 (by assumption)
           rw [chk, if_neg (by omega)]
           first
           | (rw [if_pos (by assumption)]; rfl)
           | (rw [if_neg (by simp_all), if_pos (by omega)]; rfl)
           | (rw [if_neg (by simp_all), if_neg (by omega), ← hinv, if_neg (by assumption)]; rfl)
           | (rw [if_neg (by simp_all), if_neg (by omega), ← hinv, List.drop_of_length_le (by omega), XJ]; rfl))
      · refine X6 8 [2] rfl rfl ?_; refine LR rfl (J3 rfl hs rfl) ?_; refine JI 4 rfl ?_; refine J1 (σ := Nat) (fun i => i ≤ ins.length ∧ XJ (ins.drop i) (d + 1) = XJ ins (d + 1)) (fun i => [(1, .int .i64 d), (30, KP ins.length p), (31, .int .i64 (ins.length : Int)), (32, .int .i64 (i : Int))]) (fun _ => []) (fun _ _ _ => True) (fun i => ins.length - i) 0 ⟨by omega, rfl⟩ (lK rfl) (List.nil_sublist _) (fun _ _ h => h) ?_; rintro i ⟨hi1, hinv⟩; refine JP 6 rfl ?_; refine cD (fun g => ?_) fun g => ?_
        refine JP 5 rfl ?_
        obtain ⟨y, hy, hmem⟩ := QM (show i < ins.length by omega)
        rw [ZB hy, XJ] at hinv; refine Jo 1 rfl ?_; refine LR rfl (Ju (j := i) rfl hs rfl rfl rfl rfl (by omega)) ?_; refine LR rfl (Qp oR rfl hs hy rfl rfl) ?_; refine LN rfl fun r3 => ?_; refine Jc (k := 0) (n := 3) (ys := y.cells) rfl rfl rfl rfl rfl y.len rfl y.one rfl ?_; refine JC 4 rfl ?_; refine LR rfl (Jb (xs := y.cells) (n := 3) rfl (kn 0 rfl) rfl rfl y.len) ?_; refine LS 2 [] rfl rfl ?_; refine Je (by omega) (by omega) ?_; refine Jg rfl rfl rfl (enters_of Tryz.func211 (by kernel_rfl) rfl) (ih y hmem (d + 1) (by omega) (by omega)) oR ?_; refine JI 9 rfl ?_; refine cD (fun g => ?_) fun g => ?_
        refine Kn 12 rfl ?_; refine pT rfl rfl rfl fun w1 hs1 => ?_; refine ⟨?_, hs1.keep⟩
        first
          | (rw [chk, if_pos (Zq (by assumption))]; rfl)
          | (have hkk := Wk.1 (by assumption)
             rw [chk, if_neg (by omega)]
             first
             | (rw [if_pos (by assumption)]; rfl)
             | (rw [if_neg (by simp_all), if_pos (by omega)]; rfl)
             | (rw [if_neg (by simp_all), if_neg (by omega), ← hinv, if_neg (by assumption)]; rfl)
             | (rw [if_neg (by simp_all), if_neg (by omega), ← hinv, List.drop_of_length_le (by omega), XJ]; rfl))
        refine Jo 5 rfl ?_; refine Je (by omega) (by omega) ?_; refine Jx 2 rfl ?_; refine Jz ?_; exact Jv (i + 1) ⟨by omega, by rw [if_pos (by assumption)] at hinv; exact hinv⟩ (by omega) (lK rfl) (List.nil_sublist _) (fun _ _ h => h)
        · refine Kn 11 rfl ?_; refine pT rfl rfl rfl fun w1 hs1 => ?_; refine ⟨?_, hs1.keep⟩
          (have hkk := Wk.1 (by assumption)
           rw [chk, if_neg (by omega)]
           first
           | (rw [if_pos (by assumption)]; rfl)
           | (rw [if_neg (by simp_all), if_pos (by omega)]; rfl)
           | (rw [if_neg (by simp_all), if_neg (by omega), ← hinv, if_neg (by assumption)]; rfl)
           | (rw [if_neg (by simp_all), if_neg (by omega), ← hinv, List.drop_of_length_le (by omega), XJ]; rfl))
theorem Jix {R : Jm} {t : Ty} (ht : t.In R) : PureR Tryz.prog 157 [t.val].toArray (.int .i64 (chk t 0)) R := by
 have h1 := Juv ht 0 (by omega) (by omega)
 obtain ⟨k, n, p, ins⟩ := t
 refine Ja Tryz.func157 rfl rfl fun w => ?_; refine J8 ?_; refine Jo 2 rfl ?_; refine LN rfl fun r1 => ?_; refine JC 5 rfl ?_; refine LR rfl (Jp (vs := [_, _, _]) rfl (kn 0 rfl) rfl rfl rfl rfl) ?_; refine Jg rfl rfl rfl (enters_of Tryz.func211 (by kernel_rfl) rfl) h1 oR ?_; refine Jx 4 rfl ?_; refine pT rfl rfl rfl fun w1 hs1 => ?_; exact ⟨rfl, hs1.keep⟩
def Jdq {α : Type} (b : α → Bool) : List α → Int → Int
 | [], _ => -1
 | y :: ys, j => if b y = true then j else Jdq b ys (j + 1)
theorem Jdr {α : Type} {b : α → Bool} : ∀ {l : List α} {j : Int}, 0 ≤ j → decide (0 ≤ Jdq b l j) = l.any b
 | [], _, _ => rfl
 | y :: ys, j, h => by
  rw [Jdq, List.any_cons]
  split
  ·rename_i hb; rw [hb]; simp [h]
  ·rename_i hb; rw [Jdr (by omega)]; simp [hb]
theorem Jak {R : Jm} {ins : List Ty} {p : Pl} {g : FuncId} {b : Ty → Bool} (eg : Enters Tryz.prog g) (hg : ∀ x ∈ ins, PureR Tryz.prog g [x.val].toArray (.bool (b x)) R) (hl : ins.length ≤ 9223372036854775807) (hs : Seg R ins.length (Jco ins) p) :
  PureR Tryz.prog 381 [KP ins.length p, fV g].toArray (.int .i64 (Jdq b ins 0)) R := by
 refine Ja Tryz.func381 rfl rfl fun w => ?_; refine J8 ?_; refine Jo 9 rfl ?_; refine LR rfl (J3 rfl hs rfl) ?_; refine JI 4 rfl ?_; refine J1 (σ := Nat) (fun i => i ≤ ins.length ∧ Jdq b (ins.drop i) (i : Int) = Jdq b ins 0) (fun i => [(0, KP ins.length p), (1, fV g), (7, .int .i64 (ins.length : Int)), (8, .int .i64 (i : Int))]) (fun _ => []) (fun _ _ _ => True) (fun i => ins.length - i) 0 ⟨by omega, rfl⟩ (lK rfl) (List.nil_sublist _) (fun _ _ h => h) ?_; rintro i ⟨hi1, hinv⟩; refine JP 6 rfl ?_; refine cD (fun h6 => ?_) fun h6 => ?_
 refine JP 11 rfl ?_
 obtain ⟨y, hy, hmem⟩ := QM (show i < ins.length by omega)
 rw [ZB hy, Jdq] at hinv; refine Jo 4 rfl ?_; refine LR rfl (Ju (j := i) rfl hs rfl rfl rfl rfl (by omega)) ?_; refine LR rfl (Qp oR rfl hs hy rfl rfl) ?_; refine Jg rfl rfl rfl eg (hg y hmem) oR ?_; refine JI 2 rfl ?_; refine cD (fun h10 => ?_) fun h10 => ?_
 refine Kn 12 rfl ?_; refine pT rfl rfl rfl fun w1 hs1 => ?_; refine ⟨?_, hs1.keep⟩; rw [← hinv, if_pos (by assumption)]; rfl
 refine Jo 5 rfl ?_; refine Je (by omega) (by omega) ?_; refine Jx 2 rfl ?_; refine Jz ?_; exact Jv (i + 1) ⟨by omega, by rw [if_neg (by simp_all)] at hinv; exact hinv⟩ (by omega) (lK rfl) (List.nil_sublist _) (fun _ _ h => h)
 ·refine Kn 11 rfl ?_; refine pT rfl rfl rfl fun w1 hs1 => ?_; refine ⟨?_, hs1.keep⟩; rw [← hinv, List.drop_of_length_le (by omega), Jdq]; rfl
theorem qZ {R : Jm} {ins : List Ty} {p : Pl} {g : FuncId} {b : Ty → Bool} (eg : Enters Tryz.prog g) (hg : ∀ x ∈ ins, PureR Tryz.prog g [x.val].toArray (.bool (b x)) R) (hl : ins.length ≤ 9223372036854775807) (hs : Seg R ins.length (Jco ins) p) :
  PureR Tryz.prog 368 [KP ins.length p, fV g].toArray (.bool (ins.any b)) R := by
 have h := Jak (b := b) eg hg hl hs
 rw [← Jdr (b := b) (l := ins) (Int.le_refl 0)]; refine Ja Tryz.func368 rfl rfl fun w => ?_; refine J8 ?_; refine Jo 9 rfl ?_; refine Jg rfl rfl rfl (enters_of Tryz.func381 (by kernel_rfl) rfl) h oR ?_; refine Jx 5 rfl ?_; refine pT rfl rfl rfl fun w1 hs1 => ?_; exact ⟨rfl, hs1.keep⟩
theorem Jiy : ∀ ins : List Ty, (ins.any fun x => !Xk x) = !qd ins
 | [] => rfl
 | x :: xs => by rw [List.any_cons, Jiy xs, qd, Bool.not_and]
theorem Juw {R : Jm} {t : Ty} (ht : t.In R) : ∀ d : Int, chk t d = 0 → PureR Tryz.prog 346 [t.val].toArray (.bool (Xk t)) R := by
 induction ht with
 | @mk k n p ins hk hn hl hs hi ih =>
 intro d hc
 obtain ⟨hk8, ho, h6, hci⟩ := Va hc
 have hkk := Wk.2 hk8
 have hcl : ∀ x ∈ ins, PureR Tryz.prog 369 [x.val].toArray (.bool (!Xk x)) R := fun x hx => by
  have h1 := ih x hx (d + 1) (hci x hx)
  obtain ⟨xk, xn, xp, xi⟩ := x
  refine Ja Tryz.func369 rfl rfl fun w => ?_; refine J8 ?_; refine Jo 2 rfl ?_; refine LN rfl fun r1 => ?_; refine JC 5 rfl ?_; refine LR rfl (Jp (vs := [_, _, _]) rfl (kn 0 rfl) rfl rfl rfl rfl) ?_; refine Jg rfl rfl rfl (enters_of Tryz.func346 (by kernel_rfl) rfl) h1 oR ?_; refine Jx 5 rfl ?_; refine pT rfl rfl rfl fun w1 hs1 => ?_; exact ⟨rfl, hs1.keep⟩
 have hany := qZ (b := fun x => !Xk x) (enters_of Tryz.func369 (by kernel_rfl) rfl) hcl hl hs
 rw [Jiy] at hany
 have hvb := Jiw hkk
 rw [Xk]; refine Ja Tryz.func346 rfl rfl fun w => ?_; refine J8 ?_; refine Jo 2 rfl ?_; refine LN rfl fun r1 => ?_; refine JI 4 rfl ?_
 refine JL [] [(0, .grow (Qf 0 (fun r : Nat => Value.map (some r)) (fun r => [(r, Jlk)]))), (1, .pure), (4, .pure), (5, .pure), (6, .pure), (7, .pure), (10, .pure), (11, .pure), (12, .pure)] 13 [1, 2, 0, 3, 4, 5, 6, 7, 8, 9, 10, 11, 12] (by kernel_rfl) (by kernel_rfl) (by first | exact (fun _ h => absurd h List.not_mem_nil) | simp [SubS] | (intro p hp; simp [hp])) ?_
 refine Jn (k := 1) rfl rfl rfl rfl rfl (fun _ hS => (JD rfl rfl rfl)) ?_; refine KB (k := 2) rfl rfl rfl rfl rfl (Jh rfl (kn 0 rfl) rfl rfl) ?_; refine WY (k := 0) rfl rfl rfl rfl rfl Jdm jF fun mr => ?_; refine KB (k := 3) rfl rfl rfl rfl rfl (Vz (Wa (t := 3) (by kernel_rfl)) rfl rfl (kn 0 rfl) rfl rfl ⟨_, rfl⟩ YO (Zp hkk)) ?_; refine Jn (k := 4) rfl rfl rfl rfl rfl (fun _ hS => (J0 rfl rfl rfl)) ?_; refine Jn (k := 5) rfl rfl rfl rfl rfl (fun _ hS => (J0 rfl rfl rfl)) ?_; refine Jn (k := 6) rfl rfl rfl rfl rfl (fun _ hS => (Ji rfl)) ?_
 refine Jtn 9 rfl (fun gb => ?_) (fun gb => ?_) <;> (try simp only [ZZ] at gb) <;> first | (refine Jn (k := 7) rfl rfl rfl rfl rfl (fun _ hS => (JD rfl rfl rfl)) ?_) | (refine vo (k := 7) rfl rfl rfl rfl ?_)
 all_goals first | refine KB (k := 8) rfl rfl rfl rfl rfl (Jh rfl (kn 1 rfl) rfl rfl) ?_ | refine vo (k := 8) rfl rfl rfl rfl ?_
 all_goals first | (refine KH (k := 9) rfl rfl rfl rfl rfl (enters_of Tryz.func368 (by kernel_rfl) rfl) hany oR ?_) | refine vo (k := 9) rfl rfl rfl rfl ?_
 all_goals first | refine Jn (k := 10) rfl rfl rfl rfl rfl (fun _ hS => (J0 rfl rfl rfl)) ?_ | refine vo (k := 10) rfl rfl rfl rfl ?_
 all_goals first | refine Jn (k := 11) rfl rfl rfl rfl rfl (fun _ hS => (ja rfl rfl)) ?_ | refine Jn (k := 11) rfl rfl rfl rfl rfl (fun _ hS => (jb rfl rfl)) ?_
 all_goals (
  refine Jn (k := 12) rfl rfl rfl rfl rfl (fun _ hS => (J9 rfl)) (Ko (Jx 1 rfl (ZJ 2 rfl ?_))); refine pT rfl rfl rfl fun w1 hs1 => ?_; refine ⟨?_, hs1.keep⟩
  simp_all [JA]
  all_goals first | done | (intros; omega)
  skip)
theorem Jiz {R : Jm} {t : Ty} (ht : t.In R) : PureR Tryz.prog 304 [t.val].toArray (.bool (V1 t)) R := by
 have h1 := Jix ht
 have h2 := Juw ht 0
 obtain ⟨k, n, p, ins⟩ := t
 refine Ja Tryz.func304 rfl rfl fun w => ?_; refine J8 ?_; refine Jo 2 rfl ?_; refine LN rfl fun r1 => ?_; refine JC 5 rfl ?_; refine LR rfl (Jp (vs := [_, _, _]) rfl (kn 0 rfl) rfl rfl rfl rfl) ?_; refine Jg rfl rfl rfl (enters_of Tryz.func157 (by kernel_rfl) rfl) h1 oR ?_; refine LS 2 [] rfl rfl ?_
 refine J4 6 rfl (fun gb => ?_) (fun gb => ?_) <;> (try simp only [ZZ] at gb) <;> first | (refine LR rfl (Jp (vs := [_, _, _]) rfl (kn 0 rfl) rfl rfl rfl rfl) ?_) | (refine LK rfl ?_)
 all_goals first | (refine Jg rfl rfl rfl (enters_of Tryz.func346 (by kernel_rfl) rfl) (h2 (by assumption)) oR ?_) | refine LK rfl ?_
 all_goals (
  refine LW 2 [] rfl rfl (Jx 1 rfl (ZJ 2 rfl ?_)); refine pT rfl rfl rfl fun w1 hs1 => ?_; refine ⟨?_, hs1.keep⟩
  simp_all [V1, JA]
  skip)
theorem Jux {R : Jm} {k n : Int} {p : Pl} {ins : List Ty} (ht : Ty.In R (.mk k n p ins)) (hsub : ∀ x ∈ ins, PureR Tryz.prog 305 [x.val].toArray (.int .i64 (KV x)) R) (hpos : ∀ x ∈ ins, 1 ≤ KV x) (hb : VP ins ≤ 2251799813685248) :
  PureR Tryz.prog 286 [Ty.val (.mk k n p ins)].toArray (.int .i64 (VP ins)) R := by
 cases ht with
 | mk hk hn hl hs hi =>
 have hdp : ∀ i, 0 ≤ VP (ins.drop i) := fun i => by
  have : ∀ l : List Ty, (∀ x ∈ l, 1 ≤ KV x) → 0 ≤ VP l := by
   intro l
   induction l with
   | nil => intro _; rw [VP]; omega
   | cons x xs ih => intro h; rw [VP]; have h1 := h x (by simp); have h2 := ih fun y hy => h y (by simp [hy]); omega
  exact this _ fun x hx => hpos x (List.mem_of_mem_drop hx)
 refine Ja Tryz.func286 rfl rfl fun w => ?_; refine J8 ?_; refine Jo 2 rfl ?_; refine LN rfl fun r1 => ?_; refine Xj 13 [0] rfl rfl ?_; refine LR rfl (J3 rfl hs rfl) ?_; refine JI 4 rfl ?_; refine J1 (σ := Nat × Int) (fun s => s.1 ≤ ins.length ∧ 0 ≤ s.2 ∧ s.2 + VP (ins.drop s.1) = VP ins) (fun s => [(3, .int .i64 s.2), (7, KP ins.length p), (8, .int .i64 (ins.length : Int)), (9, .int .i64 (s.1 : Int))]) (fun _ => []) (fun _ _ _ => True) (fun s => ins.length - s.1) (0, 0) ⟨by omega, by omega, by simp⟩ (lK rfl) (List.nil_sublist _) (fun _ _ h => h) ?_; rintro ⟨i, m⟩ ⟨hi1, hm, hinv⟩; simp only at hinv hi1 hm; refine JP 6 rfl ?_; refine cD (fun g => ?_) fun g => ?_
 refine JP 5 rfl ?_
 obtain ⟨y, hy, hmem⟩ := QM (show i < ins.length by omega)
 have hdi := hdp (i + 1)
 have hyp := hpos y hmem
 rw [ZB hy, VP] at hinv; refine Jo 1 rfl ?_; refine LR rfl (Ju (j := i) rfl hs rfl rfl rfl rfl (by omega)) ?_; refine LR rfl (Qp oR rfl hs hy rfl rfl) ?_; refine LN rfl fun r2 => ?_; refine Jc (k := 0) (n := 3) (ys := y.cells) rfl rfl rfl rfl rfl y.len rfl y.one rfl ?_; refine JC 4 rfl ?_; refine LR rfl (Jb (xs := y.cells) (n := 3) rfl (kn 0 rfl) rfl rfl y.len) ?_; refine Jg rfl rfl rfl (enters_of Tryz.func305 (by kernel_rfl) rfl) (hsub y hmem) oR ?_; refine Wo rfl (Je (by omega) (by omega) (JC 6 rfl ?_)); refine Je (by omega) (by omega) ?_; refine Jx 2 rfl ?_; refine Jz ?_; exact Jv (i + 1, m + KV y) ⟨by omega, by simp only; omega, by simp only; omega⟩ (by simp only; omega) (lK rfl) (List.nil_sublist _) (fun _ _ h => h)
 ·refine Kn 12 rfl ?_; refine pT rfl rfl rfl fun w1 hs1 => ?_; refine ⟨?_, hs1.keep⟩; rw [← hinv, List.drop_of_length_le (by omega), VP, Int.add_zero]; rfl
theorem Jpn {k n : Int} {p : Pl} {ins : List Ty} {d : Int} (hd : 0 ≤ d) (hc : chk (.mk k n p ins) d = 0) (hf : Xk (.mk k n p ins) = true) : (∀ x ∈ ins, 1 ≤ KV x) ∧ VP ins ≤ 2251799813685248 ∧ (k = 3 → 0 ≤ n * VP ins ∧ n * VP ins ≤ 2251799813685248) := by
 have hsz := Jfj _ d hd hc hf
 have hb5 := Jn0 (show (5 - d).toNat ≤ 5 by omega)
 obtain ⟨hk8, ho, h6, hci⟩ := Va hc
 rw [Xk, Bool.and_eq_true] at hf
 have hfi := jv.1 hf.2
 have hsub : ∀ x ∈ ins, 1 ≤ KV x ∧ KV x ≤ bnd (5 - (d + 1)).toNat := fun x hx => Jfj x (d + 1) (by omega) (hci x hx) (hfi x hx)
 have hL := xI hsub
 refine ⟨fun x hx => (hsub x hx).1, ?_, fun h3 => ?_⟩
 ·by_cases he : ins = []
  ·subst he; rw [VP]; omega
  ·have hd5 : d < 5 := by
    obtain ⟨x, hx⟩ := List.exists_mem_of_ne_nil _ he
    cases x with
    | mk a b c e => have := (Va (hci _ hx)).2.2.1; omega
   have hlen : ins.length ≤ 16 := by
    have h9 : k = 1 ∨ k = 2 ∨ k = 3 ∨ k = 4 ∨ k = 5 ∨ k = 6 ∨ k = 7 ∨ k = 8 := by omega
    unfold Qc at ho
    rcases h9 with rfl | rfl | rfl | rfl | rfl | rfl | rfl | rfl <;> simp [he] at ho <;> omega
   have e : (5 - d).toNat = (5 - (d + 1)).toNat + 1 := by omega
   rw [e, bnd] at hb5
   have hb2 := vn (5 - (d + 1)).toNat
   generalize bnd (5 - (d + 1)).toNat = B at *
   have : (ins.length : Int) * B ≤ 16 * B := Int.mul_le_mul_of_nonneg_right (by omega) (by omega)
   omega
 ·subst h3
  have : KV (.mk 3 n p ins) = n * VP ins := by rw [KV, if_neg (by decide), if_neg (by decide), if_neg (by decide), if_pos rfl]
  rw [this] at hsz; omega
theorem J00 {R : Jm} {k n : Int} {p : Pl} {ins : List Ty} {d : Int} (ht : Ty.In R (.mk k n p ins)) (hd : 0 ≤ d) (hc : chk (.mk k n p ins) d = 0) (hf : Xk (.mk k n p ins) = true)
  (hsub : ∀ x ∈ ins, PureR Tryz.prog 305 [x.val].toArray (.int .i64 (KV x)) R) : Enters Tryz.prog (Jpk k) ∧ PureR Tryz.prog (Jpk k) [Ty.val (.mk k n p ins)].toArray (.int .i64 (KV (.mk k n p ins))) R := by
 obtain ⟨hpos, hb, h3⟩ := Jpn hd hc hf
 have hp := Jux ht hsub hpos hb
 obtain ⟨hk8, ho, h6, hci⟩ := Va hc
 rw [Xk, Bool.and_eq_true] at hf
 have hne : (k ≠ 4 ∧ k ≠ 6) ∧ k ≠ 8 := by simpa using hf.1
 have h9 : k = 1 ∨ k = 2 ∨ k = 3 ∨ k = 5 ∨ k = 7 := by omega
 rcases h9 with rfl | rfl | rfl | rfl | rfl
 refine ⟨enters_of Tryz.func274 (by kernel_rfl) rfl, ?_⟩
 show PureR Tryz.prog 274 _ _ R
 rw [KV, if_pos rfl]; refine Ja Tryz.func274 rfl rfl fun w => ?_; refine J8 ?_; refine Jo 2 rfl ?_; refine LN rfl fun r1 => ?_; refine Goq 11 [0] rfl rfl ?_; refine pT rfl rfl rfl fun w1 hs1 => ?_; exact ⟨rfl, hs1.keep⟩
 refine ⟨enters_of Tryz.func279 (by kernel_rfl) rfl, ?_⟩
 show PureR Tryz.prog 279 _ _ R
 rw [KV, if_neg (by decide), if_pos rfl]; refine Ja Tryz.func279 rfl rfl fun w => ?_; refine J8 ?_; refine Jo 2 rfl ?_; refine LN rfl fun r1 => ?_; refine Jx 9 rfl ?_; refine pT rfl rfl rfl fun w1 hs1 => ?_; exact ⟨rfl, hs1.keep⟩
 refine ⟨enters_of Tryz.func285 (by kernel_rfl) rfl, ?_⟩
 show PureR Tryz.prog 285 _ _ R
 have h3' := h3 rfl
 rw [KV, if_neg (by decide), if_neg (by decide), if_neg (by decide), if_pos rfl]; refine Ja Tryz.func285 rfl rfl fun w => ?_; refine J8 ?_; refine Jo 2 rfl ?_; refine LN rfl fun r1 => ?_; refine JI 4 rfl ?_; refine JK 6 (by kernel_rfl) (by kernel_rfl) ?_
 refine Jd rfl rfl rfl (JD rfl rfl rfl) ?_; refine Jd rfl rfl rfl (Jh rfl (kn 0 rfl) rfl rfl) ?_; refine Jd rfl rfl rfl (Jp (vs := [_, _, _]) rfl (kn 0 rfl) rfl rfl rfl rfl) ?_; refine QZ rfl rfl rfl (enters_of Tryz.func286 (by kernel_rfl) rfl) hp oR ?_; refine Jd rfl rfl rfl (J0 rfl rfl rfl) ?_; refine QH (by omega) (by omega) ?_; refine Jd rfl rfl rfl (J9 rfl) ?_; refine JW ?_; refine Jx 3 rfl ?_; refine pT rfl rfl rfl fun w1 hs1 => ?_; exact ⟨rfl, hs1.keep⟩
 refine ⟨enters_of Tryz.func292 (by kernel_rfl) rfl, ?_⟩
 show PureR Tryz.prog 292 _ _ R
 have hbit : 1 ≤ n ∧ n ≤ 512 := by simp [Qc] at ho; omega
 rw [KV, if_neg (by decide), if_neg (by decide), if_pos rfl]; refine Ja Tryz.func292 rfl rfl fun w => ?_; refine J8 ?_; refine Jo 2 rfl ?_; refine LN rfl fun r1 => ?_; refine Xj 8 [0] rfl rfl ?_; refine Je (by omega) (by omega) ?_; refine Wo rfl (Je (by omega) (by omega) ?_); refine Wo rfl (Jm6 (by omega) (by omega) (by omega) (Jx 4 rfl ?_)); refine pT rfl rfl rfl fun w1 hs1 => ?_; exact ⟨congrArg (fun z => Ending.returned (Value.int .i64 z)) (by omega), hs1.keep⟩
 ·refine ⟨enters_of Tryz.func297 (by kernel_rfl) rfl, ?_⟩
  show PureR Tryz.prog 297 _ _ R
  rw [KV, if_neg (by decide), if_neg (by decide), if_neg (by decide), if_neg (by decide)]; refine Ja Tryz.func297 rfl rfl fun w => ?_; refine J8 ?_; refine Jo 2 rfl ?_; refine LN rfl fun r1 => ?_; refine JC 5 rfl ?_; refine LR rfl (Jp (vs := [_, _, _]) rfl (kn 0 rfl) rfl rfl rfl rfl) ?_; refine Jg rfl rfl rfl (enters_of Tryz.func286 (by kernel_rfl) rfl) hp oR ?_; refine Jx 4 rfl ?_; refine pT rfl rfl rfl fun w1 hs1 => ?_; exact ⟨rfl, hs1.keep⟩
theorem Jyo {R : Jm} {t : Ty} (ht : t.In R) : ∀ d : Int, 0 ≤ d → chk t d = 0 → Xk t = true → PureR Tryz.prog 305 [t.val].toArray (.int .i64 (KV t)) R := by
 induction ht with
 | @mk k n p ins hk hn hl hs hi ih =>
 intro d hd hc hf
 obtain ⟨hk8, ho, h6, hci⟩ := Va hc
 have hkk := Wk.2 hk8
 have hf0 := hf
 rw [Xk, Bool.and_eq_true] at hf0
 have hfi := jv.1 hf0.2
 have hz := J00 (.mk hk hn hl hs hi : Ty.In R (.mk k n p ins)) hd hc hf fun x hx => ih x hx (d + 1) (by omega) (hci x hx) (hfi x hx)
 have hvb : (isK k && !Jga k) = true := by rw [hkk, Jiw hkk]; exact hf0.1
 refine Ja Tryz.func305 rfl rfl fun w => ?_; refine J8 ?_; refine Jo 2 rfl ?_; refine LN rfl fun r1 => ?_; refine JI 4 rfl ?_
 refine JL [] [(0, .grow (Qf 0 (fun r : Nat => Value.map (some r)) (fun r => [(r, Jlk)]))), (1, .pure), (4, .pure), (7, .pure)] 8 [1, 2, 5, 0, 3, 4, 6, 7] (by kernel_rfl) (by kernel_rfl) (by first | exact (fun _ h => absurd h List.not_mem_nil) | simp [SubS] | (intro p hp; simp [hp])) ?_
 refine Jn (k := 1) rfl rfl rfl rfl rfl (fun _ hS => (JD rfl rfl rfl)) ?_; refine KB (k := 2) rfl rfl rfl rfl rfl (Jh rfl (kn 0 rfl) rfl rfl) ?_; refine KB (k := 5) rfl rfl rfl rfl rfl (Jp (vs := [_, _, _]) rfl (kn 0 rfl) rfl rfl rfl rfl) ?_; refine WY (k := 0) rfl rfl rfl rfl rfl Jdm jF fun mr => ?_; refine KB (k := 3) rfl rfl rfl rfl rfl (Vz (Wa (t := 3) (by kernel_rfl)) rfl rfl (kn 0 rfl) rfl rfl ⟨_, rfl⟩ YO (Zp hkk)) ?_; refine Jn (k := 4) rfl rfl rfl rfl rfl (fun _ hS => (J0 rfl rfl rfl)) ?_; refine Wu (Jiv hvb) ?_; refine KH (k := 6) rfl rfl rfl rfl rfl hz.1 hz.2 oR ?_; refine Jn (k := 7) rfl rfl rfl rfl rfl (fun _ hS => (J9 rfl)) ?_; refine Ko ?_; refine Jx 3 rfl ?_; refine pT rfl rfl rfl fun w1 hs1 => ?_; exact ⟨rfl, hs1.keep⟩
theorem Jpo {R : Jm} {t : Ty} (ht : t.In R) : PureR Tryz.prog 221 [t.val].toArray (.int .i64 (zg t)) R := by
 have h1 := Jiz ht
 have h2 := Jyo ht 0 (by omega)
 obtain ⟨k, n, p, ins⟩ := t
 refine Ja Tryz.func221 rfl rfl fun w => ?_; refine J8 ?_; refine Jo 2 rfl ?_; refine LN rfl fun r1 => ?_; refine JC 6 rfl ?_; refine LR rfl (Jp (vs := [_, _, _]) rfl (kn 0 rfl) rfl rfl rfl rfl) ?_; refine Jg rfl rfl rfl (enters_of Tryz.func304 (by kernel_rfl) rfl) h1 oR ?_; refine JI 3 rfl ?_; refine cD (fun g => ?_) fun g => ?_
 refine Kn 7 rfl ?_; refine pT rfl rfl rfl fun w1 hs1 => ?_; refine ⟨?_, hs1.keep⟩
 simp_all [zg, JA]
 ·refine Jo 4 rfl ?_; refine LR rfl (Jp (vs := [_, _, _]) rfl (kn 0 rfl) rfl rfl rfl rfl) ?_; refine Jg rfl rfl rfl (enters_of Tryz.func305 (by kernel_rfl) rfl) (h2 (Yc.1 (by assumption)).1 (Yc.1 (by assumption)).2) oR ?_; refine Jx 4 rfl ?_; refine pT rfl rfl rfl fun w1 hs1 => ?_; refine ⟨?_, hs1.keep⟩
  simp_all [zg, JA]
def Xz (r : Nat) (v : Vl) : Nat × Obj := (r, .cells v.cells.toArray 89 (0, 0))
def zVl : Vl := .mk 0 0 0 0 [] none [] none 0
def clV (f : FuncId) (r : Nat) : Value := .func (.func f) #[] #[.pointer (some ⟨r, 0, none⟩)]
def Jds (f : FuncId) (v out : Vl) : Prop := ∀ r1 rr : Nat, r1 ≠ rr → PureMR Tryz.prog f [.pointer (some ⟨rr, 0, none⟩), .pointer (some ⟨r1, 0, none⟩)].toArray (.tuple #[]) rr (Xz rr zVl).2 (Xz rr out).2 [Xz r1 v]
theorem Jpp (a b c d : Nat) (bits : List Bool) (pb : Pl) (items : List Vl) (pi : Pl) (pick : Int) : Jds 335 (.mk a b c d bits pb items pi pick) (.mk a b c d [] none [] none 0) := fun r1 rr hne => by
 refine WP (fun p hp => by rw [List.mem_singleton.1 hp]; exact hne) Tryz.func335 rfl rfl fun w => ?_; refine J8 ?_; refine Jo 3 rfl ?_; refine LR rfl (Jp (vs := [_, _, _, _]) rfl (Jy (k := 0) rfl) rfl rfl rfl rfl) ?_; refine LS 2 [] rfl rfl ?_
 refine LT 0 rfl rfl ?_; refine Jx 1 rfl ?_; refine Kh rfl rfl .nil (fun w1 hs1 => ?_); exact ⟨rfl, _, List.mem_cons_self, hs1⟩
theorem Juy (a b c d : Nat) (bits : List Bool) (pb : Pl) (items : List Vl) (pi : Pl) (pick : Int) : Jds 337 (.mk a b c d bits pb items pi pick) (.mk 0 0 0 0 [] none items pi 0) := fun r1 rr hne => by
 refine WP (fun p hp => by rw [List.mem_singleton.1 hp]; exact hne) Tryz.func337 rfl rfl fun w => ?_; refine J8 ?_; refine Jo 3 rfl ?_; refine LR rfl (Jh rfl (Jy (k := 0) rfl) rfl rfl) ?_; refine LS 2 [] rfl rfl ?_
 refine LT 0 rfl rfl ?_; refine Jx 1 rfl ?_; refine Kh rfl rfl .nil (fun w1 hs1 => ?_); exact ⟨rfl, _, List.mem_cons_self, hs1⟩
theorem Jyp (a b c d : Nat) (bits : List Bool) (pb : Pl) (items : List Vl) (pi : Pl) (pick : Int) : Jds 338 (.mk a b c d bits pb items pi pick) (.mk 0 0 0 0 bits pb [] none 0) := fun r1 rr hne => by
 refine WP (fun p hp => by rw [List.mem_singleton.1 hp]; exact hne) Tryz.func338 rfl rfl fun w => ?_; refine J8 ?_; refine Jo 3 rfl ?_; refine LR rfl (Jh rfl (Jy (k := 0) rfl) rfl rfl) ?_; refine LS 2 [] rfl rfl ?_
 refine LT 0 rfl rfl ?_; refine Jx 1 rfl ?_; refine Kh rfl rfl .nil (fun w1 hs1 => ?_); exact ⟨rfl, _, List.mem_cons_self, hs1⟩
theorem Jyq (a b c d : Nat) (bits : List Bool) (pb : Pl) (items : List Vl) (pi : Pl) (pick : Int) : Jds 339 (.mk a b c d bits pb items pi pick) (.mk 0 0 0 0 [] none items pi pick) := fun r1 rr hne => by
 refine WP (fun p hp => by rw [List.mem_singleton.1 hp]; exact hne) Tryz.func339 rfl rfl fun w => ?_; refine J8 ?_
 refine JL [] [(0, .pure), (1, .pure), (2, .pure), (3, .pure), (4, .pure), (5, .pure), (6, .pure), (7, .pure), (8, .turn), (9, .pure), (10, .pure), (11, .turn)] 12 [0, 1, 2, 3, 4, 5, 6, 7, 8, 9, 10, 11] (by kernel_rfl) (by kernel_rfl) (by first | exact (fun _ h => absurd h List.not_mem_nil) | simp [SubS] | (intro p hp; simp [hp])) ?_; refine Jn (k := 0) rfl rfl rfl rfl rfl (fun _ hS => (Ji rfl)) ?_; refine Jn (k := 1) rfl rfl rfl rfl rfl (fun _ hS => (Ji rfl)) ?_
 refine Jn (k := 2) rfl rfl rfl rfl rfl (fun _ hS => (JD rfl rfl rfl)) ?_; refine Jn (k := 3) rfl rfl rfl rfl rfl (fun _ hS => (Jh rfl (Jy (k := 0) rfl) rfl rfl)) ?_
 refine Jn (k := 4) rfl rfl rfl rfl rfl (fun _ hS => (JD rfl rfl rfl)) ?_; refine Jn (k := 5) rfl rfl rfl rfl rfl (fun _ hS => (Jh rfl (Jy (k := 0) rfl) rfl rfl)) ?_; refine Jn (k := 6) rfl rfl rfl rfl rfl (fun _ hS => (J0 rfl rfl rfl)) ?_
 refine Jn (k := 7) rfl rfl rfl rfl rfl (fun _ hS => (JD rfl rfl rfl)) ?_
 refine XW (k := 8) (q := 0) rfl rfl rfl rfl rfl rfl rfl rfl rfl (by first | (simp only [List.setIfInBounds_toArray, List.set_cons_zero, List.set_cons_succ]; exact rfl) | exact rfl) (by first | (simp only [List.set_cons_zero, List.set_cons_succ]; exact rfl) | exact rfl) (by first | exact (fun _ h => absurd h List.not_mem_nil) | simp [SubS] | (intro p hp; simp [hp])) ?_; refine Jn (k := 9) rfl rfl rfl rfl rfl (fun _ hS => (J0 rfl rfl rfl)) ?_
 refine Jn (k := 10) rfl rfl rfl rfl rfl (fun _ hS => (JD rfl rfl rfl)) ?_
 refine XW (k := 11) (q := 0) rfl rfl rfl rfl rfl rfl rfl rfl rfl (by first | (simp only [List.setIfInBounds_toArray, List.set_cons_zero, List.set_cons_succ]; exact rfl) | exact rfl) (by first | (simp only [List.set_cons_zero, List.set_cons_succ]; exact rfl) | exact rfl) (by first | exact (fun _ h => absurd h List.not_mem_nil) | simp [SubS] | (intro p hp; simp [hp])) ?_; refine Ko ?_; refine Jx 1 rfl ?_; refine Kh rfl rfl .nil (fun w1 hs1 => ?_); exact ⟨rfl, _, List.mem_cons_self, hs1⟩
theorem Jal {R : Jm} {v out : Vl} {f : FuncId} {rv : Nat} (ef : Enters Tryz.prog f) (hv : v.In R) (ho : out.In R) (hk : Jds f v out) (hr : Xz rv v ∈ R) : PureR Tryz.prog 334 [v.val, clV f rv].toArray (.bool (Xl v out)) R := by
 have hsm := Jyn hv out ho
 obtain ⟨a, b, c, d, bits, pb, items, pi, pick⟩ := v
 obtain ⟨a', b', c', d', bits', pb', items', pi', pick'⟩ := out
 refine Ja Tryz.func334 rfl rfl fun w => ?_; refine J8 ?_; refine Jo 2 rfl ?_; refine LN rfl fun r1 => ?_; refine JC 5 rfl ?_; refine LN rfl fun r2 => ?_; refine JC 5 rfl ?_; refine Jk1 (k := 0) rfl rfl rfl ef rfl (fun hne => hk rv r2 (hne _ List.mem_cons_self)) (fun q hq => by rw [List.mem_singleton.1 hq]; exact hr) rfl ?_; refine Xj 6 [1, 0] rfl rfl ?_; refine Jg rfl rfl rfl (enters_of Tryz.func362 (by kernel_rfl) rfl) hsm oR ?_; refine Jx 4 rfl ?_; refine pT rfl rfl rfl fun w1 hs1 => ?_; exact ⟨rfl, hs1.keep⟩
theorem vv {R : Jm} {a b c d : Nat} {bits : List Bool} {pb : Pl} {items : List Vl} {pi : Pl} {pick : Int} (h : Vl.In R (.mk a b c d bits pb items pi pick)) : Vl.In R (.mk a b c d [] none [] none 0) ∧ Vl.In R (.mk 0 0 0 0 [] none items pi 0) ∧ Vl.In R (.mk 0 0 0 0 bits pb [] none 0) ∧ Vl.In R (.mk 0 0 0 0 [] none items pi pick) := by
 cases h with
 | mk ha hb hc hd hlb hsb hl hs hp hi =>
 have z : VK 0 := by unfold VK; omega
 have i0 : q9 0 := by unfold q9; omega
 refine ⟨.mk ha hb hc hd (by simp) rfl (by simp) rfl i0 (by simp), .mk z z z z (by simp) rfl hl hs i0 hi, .mk z z z z hlb hsb (by simp) rfl i0 (by simp), .mk z z z z (by simp) rfl hl hs hp hi⟩
theorem wu (l : List Vl) : VD l l = true := VZ.2 ⟨rfl, fun i x y hx hy => by rw [hx] at hy; cases hy; exact Jfk x⟩
theorem zy (l : List Vl) : VD l [] = decide (l.length = 0) := by cases l <;> simp [VD]
theorem Jdt {a b c d : Nat} {bits : List Bool} {pb : Pl} {items : List Vl} {pi : Pl} {pick : Int} : Xl (.mk a b c d bits pb items pi pick) (.mk a b c d [] none [] none 0) = QJ (.mk a b c d bits pb items pi pick) true false false false := by
 rw [YM, Vf, zy]
 by_cases h1 : bits = [] <;> by_cases h2 : items = [] <;> by_cases h3 : pick = 0 <;> simp [h1, h2, h3]
theorem Jgd {a b c d : Nat} {bits : List Bool} {pb : Pl} {items : List Vl} {pi : Pl} {pick : Int} : Xl (.mk a b c d bits pb items pi pick) (.mk 0 0 0 0 [] none items pi 0) = QJ (.mk a b c d bits pb items pi pick) false false true false := by
 rw [YM, Vf, wu]
 by_cases h1 : bits = [] <;> by_cases h3 : pick = 0 <;> simp [h1, h3]
theorem Jll {a b c d : Nat} {bits : List Bool} {pb : Pl} {items : List Vl} {pi : Pl} {pick : Int} : Xl (.mk a b c d bits pb items pi pick) (.mk 0 0 0 0 bits pb [] none 0) = QJ (.mk a b c d bits pb items pi pick) false true false false := by
 rw [YM, Vf, zy]
 by_cases h2 : items = [] <;> by_cases h3 : pick = 0 <;> simp [h2, h3]
theorem Jlm {a b c d : Nat} {bits : List Bool} {pb : Pl} {items : List Vl} {pi : Pl} {pick : Int} : Xl (.mk a b c d bits pb items pi pick) (.mk 0 0 0 0 [] none items pi pick) = QJ (.mk a b c d bits pb items pi pick) false false true true := by
 rw [YM, Vf, wu]
 by_cases h1 : bits = [] <;> simp [h1]
theorem Wz {R : Jm} {v : Vl} (hv : v.In R) : PureR Tryz.prog 273 [v.val].toArray (.bool (QJ v true false false false)) R := by
 obtain ⟨a, b, c, d, bits, pb, items, pi, pick⟩ := v
 have hb4 := vv hv
 refine Ja Tryz.func273 rfl rfl fun w => ?_; refine J8 ?_; rw [← Jdt (pb := pb) (pi := pi)]; refine Jo 2 rfl ?_; refine LN rfl fun r1 => ?_; refine JC 5 rfl ?_; refine LR rfl (Jp (vs := [_, _, _, _, _, _, _]) rfl (kn 0 rfl) rfl rfl rfl rfl) ?_; refine LR rfl (JB rfl rfl) ?_
 refine Jg (Rl := Xz r1 (.mk a b c d bits pb items pi pick) :: R) rfl rfl rfl Jiu (Jal (enters_of Tryz.func335 (by kernel_rfl) rfl) (hv.mono fun q hq => List.mem_cons_of_mem _ hq) (hb4.1.mono fun q hq => List.mem_cons_of_mem _ hq) (Jpp a b c d bits pb items pi pick) List.mem_cons_self) (fun q hq => by rcases List.mem_cons.1 hq with rfl | hq; exact .inl List.mem_cons_self; exact .inr hq) ?_; refine Jx 4 rfl ?_; refine pT rfl rfl rfl fun w1 hs1 => ?_; exact ⟨rfl, hs1.keep⟩
theorem XB {R : Jm} {v : Vl} (hv : v.In R) : PureR Tryz.prog 284 [v.val].toArray (.bool (QJ v false false true false)) R := by
 obtain ⟨a, b, c, d, bits, pb, items, pi, pick⟩ := v
 have hb4 := vv hv
 refine Ja Tryz.func284 rfl rfl fun w => ?_; refine J8 ?_; rw [← Jgd (pb := pb) (pi := pi)]; refine Jo 2 rfl ?_; refine LN rfl fun r1 => ?_; refine JC 5 rfl ?_; refine LR rfl (Jp (vs := [_, _, _, _, _, _, _]) rfl (kn 0 rfl) rfl rfl rfl rfl) ?_; refine LR rfl (JB rfl rfl) ?_
 refine Jg (Rl := Xz r1 (.mk a b c d bits pb items pi pick) :: R) rfl rfl rfl Jiu (Jal (enters_of Tryz.func337 (by kernel_rfl) rfl) (hv.mono fun q hq => List.mem_cons_of_mem _ hq) (hb4.2.1.mono fun q hq => List.mem_cons_of_mem _ hq) (Juy a b c d bits pb items pi pick) List.mem_cons_self) (fun q hq => by rcases List.mem_cons.1 hq with rfl | hq; exact .inl List.mem_cons_self; exact .inr hq) ?_; refine Jx 4 rfl ?_; refine pT rfl rfl rfl fun w1 hs1 => ?_; exact ⟨rfl, hs1.keep⟩
theorem YV {R : Jm} {v : Vl} (hv : v.In R) : PureR Tryz.prog 291 [v.val].toArray (.bool (QJ v false true false false)) R := by
 obtain ⟨a, b, c, d, bits, pb, items, pi, pick⟩ := v
 have hb4 := vv hv
 refine Ja Tryz.func291 rfl rfl fun w => ?_; refine J8 ?_; rw [← Jll (pb := pb) (pi := pi)]; refine Jo 2 rfl ?_; refine LN rfl fun r1 => ?_; refine JC 5 rfl ?_; refine LR rfl (Jp (vs := [_, _, _, _, _, _, _]) rfl (kn 0 rfl) rfl rfl rfl rfl) ?_; refine LR rfl (JB rfl rfl) ?_
 refine Jg (Rl := Xz r1 (.mk a b c d bits pb items pi pick) :: R) rfl rfl rfl Jiu (Jal (enters_of Tryz.func338 (by kernel_rfl) rfl) (hv.mono fun q hq => List.mem_cons_of_mem _ hq) (hb4.2.2.1.mono fun q hq => List.mem_cons_of_mem _ hq) (Jyp a b c d bits pb items pi pick) List.mem_cons_self) (fun q hq => by rcases List.mem_cons.1 hq with rfl | hq; exact .inl List.mem_cons_self; exact .inr hq) ?_; refine Jx 4 rfl ?_; refine pT rfl rfl rfl fun w1 hs1 => ?_; exact ⟨rfl, hs1.keep⟩
theorem YW {R : Jm} {v : Vl} (hv : v.In R) : PureR Tryz.prog 300 [v.val].toArray (.bool (QJ v false false true true)) R := by
 obtain ⟨a, b, c, d, bits, pb, items, pi, pick⟩ := v
 have hb4 := vv hv
 refine Ja Tryz.func300 rfl rfl fun w => ?_; refine J8 ?_; rw [← Jlm (pb := pb) (pi := pi)]; refine Jo 2 rfl ?_; refine LN rfl fun r1 => ?_; refine JC 5 rfl ?_; refine LR rfl (Jp (vs := [_, _, _, _, _, _, _]) rfl (kn 0 rfl) rfl rfl rfl rfl) ?_; refine LR rfl (JB rfl rfl) ?_
 refine Jg (Rl := Xz r1 (.mk a b c d bits pb items pi pick) :: R) rfl rfl rfl Jiu (Jal (enters_of Tryz.func339 (by kernel_rfl) rfl) (hv.mono fun q hq => List.mem_cons_of_mem _ hq) (hb4.2.2.2.mono fun q hq => List.mem_cons_of_mem _ hq) (Jyq a b c d bits pb items pi pick) List.mem_cons_self) (fun q hq => by rcases List.mem_cons.1 hq with rfl | hq; exact .inl List.mem_cons_self; exact .inr hq) ?_; refine Jx 4 rfl ?_; refine pT rfl rfl rfl fun w1 hs1 => ?_; exact ⟨rfl, hs1.keep⟩
theorem qI {l : List Nat} (hl : WOk l) : (!ze [1, 0, 0, 0] l) = (decide (l = [0, 0, 0, 0]) || decide (l = [1, 0, 0, 0])) := by
 have h0 : WOk [0, 0, 0, 0] := ⟨rfl, fun x hx => by simp at hx; omega⟩
 have h1 : WOk [1, 0, 0, 0] := ⟨rfl, fun x hx => by simp at hx; omega⟩
 rw [Jnu h1 hl, show wN [1, 0, 0, 0] = 1 from rfl]
 by_cases e0 : l = [0, 0, 0, 0]
 ·subst e0; rfl
 by_cases e1 : l = [1, 0, 0, 0]
 ·subst e1; rfl
 have n0 : wN l ≠ 0 := fun h => e0 (Jns hl h0 h)
 have n1 : wN l ≠ 1 := fun h => e1 (Jns hl h1 h)
 simp [e0, e1]
 omega
theorem O_1 {R : Jm} {n : Int} {p : Pl} {ins : List Ty} {v : Vl} (ht : Ty.In R (.mk 1 n p ins)) (hv : v.In R) : PureR Tryz.prog 272 [Ty.val (.mk 1 n p ins), v.val].toArray (.bool (ofT 1 n ins.length v)) R := by
 have hnu := Wz hv
 have hit := XB hv
 have hbi := YV hv
 have hpk := YW hv
 cases ht with
 | mk hk hn hlt hst hit0 =>
 cases hv with
 | @mk a b c d bits pb items pi pick ha hb hc hd hlb hsb hl hs hp hi =>
 have hw : WOk [a, b, c, d] := ⟨rfl, fun x hx => by simp at hx; rcases hx with rfl | rfl | rfl | rfl <;> assumption⟩
 have hw1 : WOk [1, 0, 0, 0] := ⟨rfl, fun x hx => by simp at hx; omega⟩
 have hl1 := qI hw
 rw [Vv _ n ins.length a b c d bits pb items pi pick _ rfl]; refine Ja Tryz.func272 rfl rfl fun w => ?_; refine J8 ?_; refine Jo 2 rfl ?_; refine LN rfl fun r1 => ?_; refine LN rfl fun r2 => ?_; refine JI 4 rfl ?_; refine JK 12 (by kernel_rfl) (by kernel_rfl) ?_; refine Jd rfl rfl rfl (Jp (vs := [_, _, _, _, _, _, _]) rfl (kn 0 rfl) rfl rfl rfl rfl) ?_; refine QZ rfl rfl rfl (enters_of Tryz.func273 (by kernel_rfl) rfl) hnu oR ?_; refine Jd rfl rfl rfl (Ji rfl) ?_
 refine Jhf 7 rfl (fun gb => ?_) (fun gb => ?_) <;> (try simp only [ZZ] at gb) <;> first | (refine Jd rfl rfl rfl (JD rfl rfl rfl) ?_) | (refine V7 rfl rfl rfl ?_)
 all_goals first | refine Jd rfl rfl rfl (Jp (vs := [_, _, _, _]) rfl (kn 0 rfl) rfl rfl rfl rfl) ?_ | refine V7 rfl rfl rfl ?_
 all_goals first | (refine Kz rfl rfl rfl (enters_of Tryz.func200 (by kernel_rfl) rfl) (jE hw) ?_) | refine V7 rfl rfl rfl ?_
 all_goals first | refine Jd rfl rfl rfl (Qm rfl rfl) ?_ | refine V7 rfl rfl rfl ?_
 all_goals first | refine Jd rfl rfl rfl (JD rfl rfl rfl) ?_ | refine V7 rfl rfl rfl ?_
 all_goals first | refine Jd rfl rfl rfl (Jh rfl (kn 1 rfl) rfl rfl) ?_ | refine V7 rfl rfl rfl ?_
 all_goals first | refine Jd rfl rfl rfl (J0 rfl rfl rfl) ?_ | refine V7 rfl rfl rfl ?_
 all_goals first | refine Jd rfl rfl rfl (ja rfl rfl) ?_ | refine Jd rfl rfl rfl (jb rfl rfl) ?_
 all_goals (
  refine Jd rfl rfl rfl (J9 rfl) (JW (Jx 1 rfl (ZJ 2 rfl ?_))); refine pT rfl rfl rfl fun w1 hs1 => ?_; refine ⟨?_, hs1.keep⟩
  simp_all [JA]
  skip)
theorem O_2 {R : Jm} {n : Int} {p : Pl} {ins : List Ty} {v : Vl} (ht : Ty.In R (.mk 2 n p ins)) (hv : v.In R) : PureR Tryz.prog 277 [Ty.val (.mk 2 n p ins), v.val].toArray (.bool (ofT 2 n ins.length v)) R := by
 have hnu := Wz hv
 have hit := XB hv
 have hbi := YV hv
 have hpk := YW hv
 cases ht with
 | mk hk hn hlt hst hit0 =>
 cases hv with
 | @mk a b c d bits pb items pi pick ha hb hc hd hlb hsb hl hs hp hi =>
 have hw : WOk [a, b, c, d] := ⟨rfl, fun x hx => by simp at hx; rcases hx with rfl | rfl | rfl | rfl <;> assumption⟩
 have hw1 : WOk [1, 0, 0, 0] := ⟨rfl, fun x hx => by simp at hx; omega⟩
 have hl1 := qI hw
 rw [Vv _ n ins.length a b c d bits pb items pi pick _ rfl]; refine Ja Tryz.func277 rfl rfl fun w => ?_; refine J8 ?_; refine Jo 2 rfl ?_; refine LN rfl fun r1 => ?_; refine LN rfl fun r2 => ?_; refine JI 4 rfl ?_; refine JK 10 (by kernel_rfl) (by kernel_rfl) ?_; refine Jd rfl rfl rfl (Jp (vs := [_, _, _, _, _, _, _]) rfl (kn 0 rfl) rfl rfl rfl rfl) ?_; refine QZ rfl rfl rfl (enters_of Tryz.func273 (by kernel_rfl) rfl) hnu oR ?_; refine Jd rfl rfl rfl (Ji rfl) ?_
 refine Jhf 7 rfl (fun gb => ?_) (fun gb => ?_) <;> (try simp only [ZZ] at gb) <;> first | (refine Kz rfl rfl rfl jD (Vo ..) ?_) | (refine V7 rfl rfl rfl ?_)
 all_goals first | refine Jd rfl rfl rfl (JD rfl rfl rfl) ?_ | refine V7 rfl rfl rfl ?_
 all_goals first | refine Jd rfl rfl rfl (Jp (vs := [_, _, _, _]) rfl (kn 0 rfl) rfl rfl rfl rfl) ?_ | refine V7 rfl rfl rfl ?_
 all_goals first | (refine Kz rfl rfl rfl (enters_of Tryz.func278 (by kernel_rfl) rfl) (Jdn hw1 hw) ?_) | refine V7 rfl rfl rfl ?_
 all_goals first | refine Jd rfl rfl rfl (J0 rfl rfl rfl) ?_ | refine V7 rfl rfl rfl ?_
 all_goals first | refine Jd rfl rfl rfl (ja rfl rfl) ?_ | refine Jd rfl rfl rfl (jb rfl rfl) ?_
 all_goals (
  refine Jd rfl rfl rfl (J9 rfl) (JW (Jx 1 rfl (ZJ 2 rfl ?_))); refine pT rfl rfl rfl fun w1 hs1 => ?_; refine ⟨?_, hs1.keep⟩
  simp_all [JA]
  skip)
theorem O_3 {R : Jm} {n : Int} {p : Pl} {ins : List Ty} {v : Vl} (ht : Ty.In R (.mk 3 n p ins)) (hv : v.In R) : PureR Tryz.prog 283 [Ty.val (.mk 3 n p ins), v.val].toArray (.bool (ofT 3 n ins.length v)) R := by
 have hnu := Wz hv
 have hit := XB hv
 have hbi := YV hv
 have hpk := YW hv
 cases ht with
 | mk hk hn hlt hst hit0 =>
 cases hv with
 | @mk a b c d bits pb items pi pick ha hb hc hd hlb hsb hl hs hp hi =>
 have hw : WOk [a, b, c, d] := ⟨rfl, fun x hx => by simp at hx; rcases hx with rfl | rfl | rfl | rfl <;> assumption⟩
 have hw1 : WOk [1, 0, 0, 0] := ⟨rfl, fun x hx => by simp at hx; omega⟩
 have hl1 := qI hw
 rw [Vv _ n ins.length a b c d bits pb items pi pick _ rfl]; refine Ja Tryz.func283 rfl rfl fun w => ?_; refine J8 ?_; refine Jo 2 rfl ?_; refine LN rfl fun r1 => ?_; refine LN rfl fun r2 => ?_; refine JC 5 rfl ?_; refine LR rfl (Jp (vs := [_, _, _, _, _, _, _]) rfl (kn 0 rfl) rfl rfl rfl rfl) ?_; refine Jg rfl rfl rfl Jpd hit oR ?_; refine Qx rfl ?_
 refine J4 7 rfl (fun gb => ?_) (fun gb => ?_) <;> (try simp only [ZZ] at gb) <;> first | (refine LR rfl (JD rfl rfl rfl) ?_) | (refine LK rfl ?_)
 all_goals refine LW 1 [0] rfl rfl ?_
 all_goals first | refine LR rfl (J3 rfl hs rfl) ?_ | refine LK rfl ?_
 all_goals first | refine LR rfl (JD rfl rfl rfl) ?_ | refine LK rfl ?_
 all_goals (
  refine LW 4 [1] rfl rfl (Jx 1 rfl (ZJ 2 rfl ?_)); refine pT rfl rfl rfl fun w1 hs1 => ?_; refine ⟨?_, hs1.keep⟩
  simp_all [JA]
  all_goals first | done | rfl | omega | (rw [Bool.eq_iff_iff]; simp only [Bool.and_eq_true, Bool.or_eq_true, decide_eq_true_eq, beq_iff_eq]; omega) | (simp only [decide_eq_true_eq, decide_eq_false_iff_not]; omega)
  skip)
theorem O_4 {R : Jm} {n : Int} {p : Pl} {ins : List Ty} {v : Vl} (ht : Ty.In R (.mk 4 n p ins)) (hv : v.In R) : PureR Tryz.prog 288 [Ty.val (.mk 4 n p ins), v.val].toArray (.bool (ofT 4 n ins.length v)) R := by
 have hnu := Wz hv
 have hit := XB hv
 have hbi := YV hv
 have hpk := YW hv
 cases ht with
 | mk hk hn hlt hst hit0 =>
 cases hv with
 | @mk a b c d bits pb items pi pick ha hb hc hd hlb hsb hl hs hp hi =>
 have hw : WOk [a, b, c, d] := ⟨rfl, fun x hx => by simp at hx; rcases hx with rfl | rfl | rfl | rfl <;> assumption⟩
 have hw1 : WOk [1, 0, 0, 0] := ⟨rfl, fun x hx => by simp at hx; omega⟩
 have hl1 := qI hw
 rw [Vv _ n ins.length a b c d bits pb items pi pick _ rfl]; refine Ja Tryz.func288 rfl rfl fun w => ?_; refine J8 ?_; refine Jo 2 rfl ?_; refine LN rfl fun r1 => ?_; refine LN rfl fun r2 => ?_; refine JC 5 rfl ?_; refine LR rfl (Jp (vs := [_, _, _, _, _, _, _]) rfl (kn 0 rfl) rfl rfl rfl rfl) ?_; refine Jg rfl rfl rfl Jpd hit oR ?_; refine Jx 4 rfl ?_; refine pT rfl rfl rfl fun w1 hs1 => ?_; refine ⟨?_, hs1.keep⟩
 simp_all [JA]
theorem O_5 {R : Jm} {n : Int} {p : Pl} {ins : List Ty} {v : Vl} (ht : Ty.In R (.mk 5 n p ins)) (hv : v.In R) : PureR Tryz.prog 290 [Ty.val (.mk 5 n p ins), v.val].toArray (.bool (ofT 5 n ins.length v)) R := by
 have hnu := Wz hv
 have hit := XB hv
 have hbi := YV hv
 have hpk := YW hv
 cases ht with
 | mk hk hn hlt hst hit0 =>
 cases hv with
 | @mk a b c d bits pb items pi pick ha hb hc hd hlb hsb hl hs hp hi =>
 have hw : WOk [a, b, c, d] := ⟨rfl, fun x hx => by simp at hx; rcases hx with rfl | rfl | rfl | rfl <;> assumption⟩
 have hw1 : WOk [1, 0, 0, 0] := ⟨rfl, fun x hx => by simp at hx; omega⟩
 have hl1 := qI hw
 rw [Vv _ n ins.length a b c d bits pb items pi pick _ rfl]; refine Ja Tryz.func290 rfl rfl fun w => ?_; refine J8 ?_; refine Jo 2 rfl ?_; refine LN rfl fun r1 => ?_; refine LN rfl fun r2 => ?_; refine JC 5 rfl ?_; refine LR rfl (Jp (vs := [_, _, _, _, _, _, _]) rfl (kn 0 rfl) rfl rfl rfl rfl) ?_; refine Jg rfl rfl rfl (enters_of Tryz.func291 (by kernel_rfl) rfl) hbi oR ?_; refine Qx rfl ?_
 refine J4 7 rfl (fun gb => ?_) (fun gb => ?_) <;> (try simp only [ZZ] at gb) <;> first | (refine LR rfl (JD rfl rfl rfl) ?_) | (refine LK rfl ?_)
 all_goals refine LW 1 [0] rfl rfl ?_
 all_goals first | refine LR rfl (J3 rfl hsb rfl) ?_ | refine LK rfl ?_
 all_goals first | refine LR rfl (JD rfl rfl rfl) ?_ | refine LK rfl ?_
 all_goals (
  refine LW 4 [1] rfl rfl (Jx 1 rfl (ZJ 2 rfl ?_)); refine pT rfl rfl rfl fun w1 hs1 => ?_; refine ⟨?_, hs1.keep⟩
  simp_all [JA]
  all_goals first | done | rfl | omega | (rw [Bool.eq_iff_iff]; simp only [Bool.and_eq_true, Bool.or_eq_true, decide_eq_true_eq, beq_iff_eq]; omega) | (simp only [decide_eq_true_eq, decide_eq_false_iff_not]; omega)
  skip)
theorem O_6 {R : Jm} {n : Int} {p : Pl} {ins : List Ty} {v : Vl} (ht : Ty.In R (.mk 6 n p ins)) (hv : v.In R) : PureR Tryz.prog 294 [Ty.val (.mk 6 n p ins), v.val].toArray (.bool (ofT 6 n ins.length v)) R := by
 have hnu := Wz hv
 have hit := XB hv
 have hbi := YV hv
 have hpk := YW hv
 cases ht with
 | mk hk hn hlt hst hit0 =>
 cases hv with
 | @mk a b c d bits pb items pi pick ha hb hc hd hlb hsb hl hs hp hi =>
 have hw : WOk [a, b, c, d] := ⟨rfl, fun x hx => by simp at hx; rcases hx with rfl | rfl | rfl | rfl <;> assumption⟩
 have hw1 : WOk [1, 0, 0, 0] := ⟨rfl, fun x hx => by simp at hx; omega⟩
 have hl1 := qI hw
 rw [Vv _ n ins.length a b c d bits pb items pi pick _ rfl]; refine Ja Tryz.func294 rfl rfl fun w => ?_; refine J8 ?_; refine Jo 2 rfl ?_; refine LN rfl fun r1 => ?_; refine LN rfl fun r2 => ?_; refine JC 5 rfl ?_; refine LR rfl (Jp (vs := [_, _, _, _, _, _, _]) rfl (kn 0 rfl) rfl rfl rfl rfl) ?_; refine Jg rfl rfl rfl (enters_of Tryz.func291 (by kernel_rfl) rfl) hbi oR ?_; refine Jx 4 rfl ?_; refine pT rfl rfl rfl fun w1 hs1 => ?_; refine ⟨?_, hs1.keep⟩
 simp_all [JA]
theorem O_7 {R : Jm} {n : Int} {p : Pl} {ins : List Ty} {v : Vl} (ht : Ty.In R (.mk 7 n p ins)) (hv : v.In R) : PureR Tryz.prog 296 [Ty.val (.mk 7 n p ins), v.val].toArray (.bool (ofT 7 n ins.length v)) R := by
 have hnu := Wz hv
 have hit := XB hv
 have hbi := YV hv
 have hpk := YW hv
 cases ht with
 | mk hk hn hlt hst hit0 =>
 cases hv with
 | @mk a b c d bits pb items pi pick ha hb hc hd hlb hsb hl hs hp hi =>
 have hw : WOk [a, b, c, d] := ⟨rfl, fun x hx => by simp at hx; rcases hx with rfl | rfl | rfl | rfl <;> assumption⟩
 have hw1 : WOk [1, 0, 0, 0] := ⟨rfl, fun x hx => by simp at hx; omega⟩
 have hl1 := qI hw
 rw [Vv _ n ins.length a b c d bits pb items pi pick _ rfl]; refine Ja Tryz.func296 rfl rfl fun w => ?_; refine J8 ?_; refine Jo 2 rfl ?_; refine LN rfl fun r1 => ?_; refine LN rfl fun r2 => ?_; refine JC 5 rfl ?_; refine LR rfl (Jp (vs := [_, _, _, _, _, _, _]) rfl (kn 0 rfl) rfl rfl rfl rfl) ?_; refine Jg rfl rfl rfl Jpd hit oR ?_; refine Qx rfl ?_
 refine J4 7 rfl (fun gb => ?_) (fun gb => ?_) <;> (try simp only [ZZ] at gb) <;> first | (refine LR rfl (JD rfl rfl rfl) ?_) | (refine LK rfl ?_)
 all_goals refine LW 1 [0] rfl rfl ?_
 all_goals first | refine LR rfl (J3 rfl hs rfl) ?_ | refine LK rfl ?_
 all_goals first | refine LR rfl (JD rfl rfl rfl) ?_ | refine LK rfl ?_
 all_goals refine LW 1 [1] rfl rfl ?_
 all_goals first | refine LR rfl (J3 rfl hst rfl) ?_ | refine LK rfl ?_
 all_goals (
  refine LW 3 [] rfl rfl (Jx 1 rfl (ZJ 2 rfl ?_)); refine pT rfl rfl rfl fun w1 hs1 => ?_; refine ⟨?_, hs1.keep⟩
  simp_all [JA]
  all_goals first | done | rfl | omega | (rw [Bool.eq_iff_iff]; simp only [Bool.and_eq_true, Bool.or_eq_true, decide_eq_true_eq, beq_iff_eq]; omega) | (simp only [decide_eq_true_eq, decide_eq_false_iff_not]; omega)
  skip)
theorem O_8 {R : Jm} {n : Int} {p : Pl} {ins : List Ty} {v : Vl} (ht : Ty.In R (.mk 8 n p ins)) (hv : v.In R) : PureR Tryz.prog 299 [Ty.val (.mk 8 n p ins), v.val].toArray (.bool (ofT 8 n ins.length v)) R := by
 have hnu := Wz hv
 have hit := XB hv
 have hbi := YV hv
 have hpk := YW hv
 cases ht with
 | mk hk hn hlt hst hit0 =>
 cases hv with
 | @mk a b c d bits pb items pi pick ha hb hc hd hlb hsb hl hs hp hi =>
 have hw : WOk [a, b, c, d] := ⟨rfl, fun x hx => by simp at hx; rcases hx with rfl | rfl | rfl | rfl <;> assumption⟩
 have hw1 : WOk [1, 0, 0, 0] := ⟨rfl, fun x hx => by simp at hx; omega⟩
 have hl1 := qI hw
 rw [Vv _ n ins.length a b c d bits pb items pi pick _ rfl]; refine Ja Tryz.func299 rfl rfl fun w => ?_; refine J8 ?_; refine Jo 2 rfl ?_; refine LN rfl fun r1 => ?_; refine LN rfl fun r2 => ?_; refine JC 5 rfl ?_; refine LR rfl (Jp (vs := [_, _, _, _, _, _, _]) rfl (kn 0 rfl) rfl rfl rfl rfl) ?_; refine Jg rfl rfl rfl (enters_of Tryz.func300 (by kernel_rfl) rfl) hpk oR ?_; refine Qx rfl ?_
 refine J4 7 rfl (fun gb => ?_) (fun gb => ?_) <;> (try simp only [ZZ] at gb) <;> first | (refine LR rfl (JD rfl rfl rfl) ?_) | (refine LK rfl ?_)
 all_goals refine LW 1 [0] rfl rfl ?_
 all_goals first | refine LR rfl (J3 rfl hs rfl) ?_ | refine LK rfl ?_
 all_goals refine LW 3 [] rfl rfl ?_
 all_goals first | refine LK rfl ?_ | (refine J4 13 rfl (fun gb => ?_) (fun gb => ?_) <;> (try simp only [ZZ] at gb) <;> first | (refine LR rfl (JD rfl rfl rfl) ?_) | (refine LK rfl ?_))
 all_goals refine LW 4 [0] rfl rfl ?_
 all_goals first | refine LK rfl ?_ | (refine J4 18 rfl (fun gb => ?_) (fun gb => ?_) <;> (try simp only [ZZ] at gb) <;> first | (refine LR rfl (JD rfl rfl rfl) ?_) | (refine LK rfl ?_))
 all_goals refine LW 1 [0] rfl rfl ?_
 all_goals first | refine LR rfl (JD rfl rfl rfl) ?_ | refine LK rfl ?_
 all_goals refine LW 1 [1] rfl rfl ?_
 all_goals first | refine LR rfl (J3 rfl hst rfl) ?_ | refine LK rfl ?_
 all_goals (
  refine LW 3 [] rfl rfl (Jx 1 rfl (ZJ 2 rfl ?_)); refine pT rfl rfl rfl fun w1 hs1 => ?_; refine ⟨?_, hs1.keep⟩
  simp_all [JA]
  all_goals first | done | rfl | omega | (rw [Bool.eq_iff_iff]; simp only [Bool.and_eq_true, Bool.or_eq_true, decide_eq_true_eq, beq_iff_eq]; omega) | (simp only [decide_eq_true_eq, decide_eq_false_iff_not]; omega)
  skip)
theorem J01 {R : Jm} {k n : Int} {p : Pl} {ins : List Ty} {v : Vl} (ht : Ty.In R (.mk k n p ins)) (hv : v.In R) (h : isK k = true) : Enters Tryz.prog (ofF k) ∧ PureR Tryz.prog (ofF k) [Ty.val (.mk k n p ins), v.val].toArray (.bool (ofT k n ins.length v)) R := by
 have := Wk.1 h
 have : k = 1 ∨ k = 2 ∨ k = 3 ∨ k = 4 ∨ k = 5 ∨ k = 6 ∨ k = 7 ∨ k = 8 := by omega
 rcases this with rfl | rfl | rfl | rfl | rfl | rfl | rfl | rfl
 ·exact ⟨enters_of Tryz.func272 (by kernel_rfl) rfl, O_1 ht hv⟩
 ·exact ⟨enters_of Tryz.func277 (by kernel_rfl) rfl, O_2 ht hv⟩
 ·exact ⟨enters_of Tryz.func283 (by kernel_rfl) rfl, O_3 ht hv⟩
 ·exact ⟨enters_of Tryz.func288 (by kernel_rfl) rfl, O_4 ht hv⟩
 ·exact ⟨enters_of Tryz.func290 (by kernel_rfl) rfl, O_5 ht hv⟩
 ·exact ⟨enters_of Tryz.func294 (by kernel_rfl) rfl, O_6 ht hv⟩
 ·exact ⟨enters_of Tryz.func296 (by kernel_rfl) rfl, O_7 ht hv⟩
 ·exact ⟨enters_of Tryz.func299 (by kernel_rfl) rfl, O_8 ht hv⟩
def WD (r : Nat) (t : Ty) : Nat × Obj := (r, .cells t.cells.toArray 84 (0, 0))
instance : Inhabited Vl := ⟨zVl⟩
def XC (l : List Vl) (i : Nat) : Vl := l.getD i default
theorem XD {l : List Vl} {i : Nat} (h : i < l.length) : l[i]? = some (XC l i) ∧ XC l i ∈ l := by
 unfold XC
 rw [List.getD_eq_getElem?_getD, List.getElem?_eq_getElem h]; exact ⟨rfl, List.getElem_mem h⟩
theorem Jdu (t : Ty) (v : Vl) : PureE (α := Nat × Nat) Tryz.prog 213 [t.val, v.val].toArray (fun p => .func (.func 301) #[] #[.pointer (some ⟨p.2, 0, none⟩), .pointer (some ⟨p.1, 0, none⟩)])
  (fun p => [Xz p.2 v, WD p.1 t]) := by
 obtain ⟨k, n, p, ins⟩ := t
 obtain ⟨a, b, c, d, bits, pb, items, pi, pick⟩ := v
 refine JV Tryz.func213 rfl rfl fun w => ?_; refine J8 ?_; refine Jo 2 rfl ?_; refine LN rfl fun r1 => ?_; refine LN rfl fun r2 => ?_; refine JC 5 rfl ?_; refine LR rfl (JB rfl rfl) ?_; refine Jx 4 rfl ?_; refine pT rfl rfl rfl fun w1 hs1 => ?_; exact ⟨(r1, r2), rfl, hs1⟩
def zz (k pick : Int) (ins : List Ty) (items : List Vl) (i : Nat) : List Value := [(JT k pick ins i).val, (XC items i).val]
theorem Jdv {R : Jm} {k n : Int} {p : Pl} {ins : List Ty} {a b c d : Nat} {bits : List Bool} {pb : Pl} {items : List Vl} {pi : Pl} {pick : Int} (hl : items.length ≤ 9223372036854775807) (hlt : ins.length ≤ 9223372036854775807) (hs : Seg R items.length (Q7 items) pi) (hst : Seg R ins.length (Jco ins) p)
    (hx : ∀ i, i < items.length → X9 k pick i < ins.length) (hp8 : k = 8 → 0 ≤ pick) (rt rv : Nat) :
    jk Tryz.prog 301 [.pointer (some ⟨rv, 0, none⟩), .pointer (some ⟨rt, 0, none⟩)] (Xz rv (.mk a b c d bits pb items pi pick) :: WD rt (.mk k n p ins) :: R) 0 (nxN (zz k pick ins items) items.length) (yD items.length) := by
  have hs := hs.mono (R' := Xz rv (.mk a b c d bits pb items pi pick) :: WD rt (.mk k n p ins) :: R) fun q hq => List.mem_cons_of_mem _ (List.mem_cons_of_mem _ hq)
  have hst := hst.mono (R' := Xz rv (.mk a b c d bits pb items pi pick) :: WD rt (.mk k n p ins) :: R) fun q hq => List.mem_cons_of_mem _ (List.mem_cons_of_mem _ hq)
  refine QY Tryz.func301 rfl rfl fun q xids w2 XI XF hY => ?_; refine J8 ?_; refine Jo 3 rfl ?_; refine LR rfl (Jh rfl (Jy (k := 0) rfl) rfl rfl) ?_; refine LR rfl (J3 rfl hs rfl) ?_; refine JI 4 rfl ?_; refine J1 (σ := Nat) (fun i => i ≤ items.length) (fun i => [(0, .func (.yield q) #[] #[]), (1, .pointer (some ⟨rv, 0, none⟩)), (2, .pointer (some ⟨rt, 0, none⟩)), (8, KP items.length pi), (9, .int .i64 (items.length : Int)), (10, .int .i64 (i : Int))]) (fun _ => []) (fun i => XI i) (fun i => items.length - i) 0 (Nat.zero_le _) (lK rfl) (List.nil_sublist _) (fun _ _ h => h) ?_; intro i hi; refine JP 6 rfl ?_; refine cD (fun g => ?_) fun g => ?_
  · refine JP 5 rfl ?_
    have hil : i < items.length := by omega
    have hix := XD hil
    have hty := QR (hx i hil)
    refine Jo 2 rfl ?_; refine LR rfl (Ju (j := i) rfl hs rfl rfl rfl rfl (by omega)) ?_; refine LR rfl (Wt oR rfl hs hix.1 rfl rfl) ?_; refine LN rfl fun r1 => ?_; refine Qx rfl (Jc (k := 0) (n := 7) (ys := (XC items i).cells) rfl rfl rfl rfl rfl (XC items i).len rfl (XC items i).one rfl (JC 11 rfl ?_)); refine LR rfl (Jh rfl (Jy (k := 1) rfl) rfl rfl) ?_; refine JI 9 rfl ?_; refine cD (fun g => ?_) fun g => ?_
    · refine JP 7 rfl ?_; refine JK 7 (by kernel_rfl) (by kernel_rfl) ?_; refine Jd rfl rfl rfl (Ji rfl) ?_
      refine Jd rfl rfl rfl (JD rfl rfl rfl) ?_; refine Jd rfl rfl rfl (Jh rfl (Jy (k := 1) rfl) rfl rfl) ?_; refine Jd rfl rfl rfl (Ji rfl) ?_
      refine Jd rfl rfl rfl (Ju (j := X9 k pick i) rfl hst rfl rfl rfl (by unfold X9; first | (rw [if_pos (by assumption)]) | (rw [if_neg (by assumption), if_pos (by assumption)]; have := hp8 (by assumption); omega) | (rw [if_neg (by assumption), if_neg (by assumption)]; rfl)) (hx i hil)) ?_; refine Jd rfl rfl rfl (Qp oR rfl hst hty.1 rfl rfl) ?_; refine Jd rfl rfl rfl (Jb (xs := (XC items i).cells) (n := 7) rfl (kn 0 rfl) rfl rfl (XC items i).len) ?_; refine JW ?_; refine Vy (XT := XI (i + 1)) (XF := XF) rfl rfl rfl rfl (hY i (zz k pick ins items i) (i + 1) ⟨hil, rfl, rfl⟩) ?_ ?_
      all_goals (
       refine Jx 2 rfl (Y7 1 rfl ?_); refine Jw rfl (fun g => ?_) (fun g => ?_)
       · try exact Bool.noConfusion g
         all_goals try simp only [ZZ] at g
         all_goals (
          refine Kn 5 rfl ?_; refine Jf rfl rfl .nil (fun w1 hs1 => ?_)
          obtain ⟨xs1, hx1⟩ := hs1.now
          exact ⟨⟨_, rfl⟩, hs1.keep, .inr ⟨_, hx1⟩⟩
          skip)
       · try exact Bool.noConfusion g
         all_goals try simp only [ZZ] at g
         all_goals (
          refine Jo 5 rfl ?_; refine Je (by omega) (by omega) ?_; refine Jx 2 rfl ?_; refine Jz ?_; exact Jv (i + 1) (by omega) (by omega) (lK rfl) (List.nil_sublist _) (fun _ _ h => h)
          skip)
       skip)
    · refine JP 6 rfl ?_; refine cD (fun g => ?_) fun g => ?_
      · refine Jo 2 rfl ?_; refine LR rfl (Jh rfl (Jy (k := 0) rfl) rfl rfl) ?_; refine JI 5 rfl ?_; refine JK 7 (by kernel_rfl) (by kernel_rfl) ?_; refine Jd rfl rfl rfl (Ji rfl) ?_
        refine Jd rfl rfl rfl (JD rfl rfl rfl) ?_; refine Jd rfl rfl rfl (Jh rfl (Jy (k := 1) rfl) rfl rfl) ?_; refine Jd rfl rfl rfl (Ji rfl) ?_
        refine Jd rfl rfl rfl (Ju (j := X9 k pick i) rfl hst rfl rfl rfl (by unfold X9; first | (rw [if_pos (by assumption)]) | (rw [if_neg (by assumption), if_pos (by assumption)]; have := hp8 (by assumption); omega) | (rw [if_neg (by assumption), if_neg (by assumption)]; rfl)) (hx i hil)) ?_; refine Jd rfl rfl rfl (Qp oR rfl hst hty.1 rfl rfl) ?_; refine Jd rfl rfl rfl (Jb (xs := (XC items i).cells) (n := 7) rfl (kn 0 rfl) rfl rfl (XC items i).len) ?_; refine JW ?_; refine Vy (XT := XI (i + 1)) (XF := XF) rfl rfl rfl rfl (hY i (zz k pick ins items i) (i + 1) ⟨hil, rfl, rfl⟩) ?_ ?_
        all_goals (
         refine Jx 2 rfl (Y7 1 rfl ?_); refine Jw rfl (fun g => ?_) (fun g => ?_)
         · try exact Bool.noConfusion g
           all_goals try simp only [ZZ] at g
           all_goals (
            refine Kn 5 rfl ?_; refine Jf rfl rfl .nil (fun w1 hs1 => ?_)
            obtain ⟨xs1, hx1⟩ := hs1.now
            exact ⟨⟨_, rfl⟩, hs1.keep, .inr ⟨_, hx1⟩⟩
            skip)
         · try exact Bool.noConfusion g
           all_goals try simp only [ZZ] at g
           all_goals (
            refine Jo 5 rfl ?_; refine Je (by omega) (by omega) ?_; refine Jx 2 rfl ?_; refine Jz ?_; exact Jv (i + 1) (by omega) (by omega) (lK rfl) (List.nil_sublist _) (fun _ _ h => h)
            skip)
         skip)
      · refine JP 4 rfl ?_; refine JK 7 (by kernel_rfl) (by kernel_rfl) ?_; refine Jd rfl rfl rfl (Ji rfl) ?_
        refine Jd rfl rfl rfl (JD rfl rfl rfl) ?_; refine Jd rfl rfl rfl (Jh rfl (Jy (k := 1) rfl) rfl rfl) ?_; refine Jd rfl rfl rfl (Ji rfl) ?_
        refine Jd rfl rfl rfl (Ju (j := X9 k pick i) rfl hst rfl rfl rfl (by unfold X9; first | (rw [if_pos (by assumption)]) | (rw [if_neg (by assumption), if_pos (by assumption)]; have := hp8 (by assumption); omega) | (rw [if_neg (by assumption), if_neg (by assumption)]; rfl)) (hx i hil)) ?_; refine Jd rfl rfl rfl (Qp oR rfl hst hty.1 rfl rfl) ?_; refine Jd rfl rfl rfl (Jb (xs := (XC items i).cells) (n := 7) rfl (kn 0 rfl) rfl rfl (XC items i).len) ?_; refine JW ?_; refine Vy (XT := XI (i + 1)) (XF := XF) rfl rfl rfl rfl (hY i (zz k pick ins items i) (i + 1) ⟨hil, rfl, rfl⟩) ?_ ?_
        all_goals (
         refine Jx 2 rfl (Y7 1 rfl ?_); refine Jw rfl (fun g => ?_) (fun g => ?_)
         · try exact Bool.noConfusion g
           all_goals try simp only [ZZ] at g
           all_goals (
            refine Kn 5 rfl ?_; refine Jf rfl rfl .nil (fun w1 hs1 => ?_)
            obtain ⟨xs1, hx1⟩ := hs1.now
            exact ⟨⟨_, rfl⟩, hs1.keep, .inr ⟨_, hx1⟩⟩
            skip)
         · try exact Bool.noConfusion g
           all_goals try simp only [ZZ] at g
           all_goals (
            refine Jo 5 rfl ?_; refine Je (by omega) (by omega) ?_; refine Jx 2 rfl ?_; refine Jz ?_; exact Jv (i + 1) (by omega) (by omega) (lK rfl) (List.nil_sublist _) (fun _ _ h => h)
            skip)
         skip)
  · refine Kn 4 rfl ?_; refine Kh rfl rfl .nil (fun w1 hs1 => ?_)
    obtain ⟨xs1, hx1⟩ := hs1.now
    exact ⟨⟨_, rfl⟩, hs1.keep, .inl ⟨i, _, (by show i = items.length; omega), hx1⟩⟩
theorem qn {a b c d : Nat} {bits : List Bool} {pb : Pl} {items : List Vl} {pi : Pl} {pick k n : Int} {p : Pl} {ins : List Ty} (h1 : ¬ ((k = 4 ∧ n < items.length) ∨ (k = 6 ∧ n < bits.length))) (h2 : ofT k n ins.length (.mk a b c d bits pb items pi pick) = true) : KO (.mk a b c d bits pb items pi pick) (.mk k n p ins) = QE items k pick ins 0 := by
 rw [KO, if_neg h1, if_neg (by rw [h2]; simp)]
theorem Jyr {R : Jm} {v : Vl} (hv : v.In R) : ∀ (t : Ty) (dp : Int), t.In R → chk t dp = 0 → PureR Tryz.prog 158 [t.val, v.val].toArray (.int .i64 (KO v t)) R := by
  have hv0 := hv
  induction hv with
  | @mk a b c d bits pb items pi pick ha hb hc hd hlb hsb hl hs hp hi ih =>
  intro t dp ht hck
  have ht0 := ht
  cases ht with
  | @mk k n p ins hk hn hlt hst hit =>
  obtain ⟨hk8, ho, h6, hci⟩ := Va hck
  have hkk := Wk.2 hk8
  have hO := J01 ht0 hv0 hkk
  refine Ja Tryz.func158 rfl rfl fun w => ?_; refine J8 ?_; refine Jo 2 rfl ?_; refine LN rfl fun r1 => ?_; refine LN rfl fun r2 => ?_; refine LN rfl fun r3 => ?_; refine Xj 11 [2] rfl rfl ?_
  refine J4 12 rfl (fun gb => ?_) (fun gb => ?_) <;> (try simp only [ZZ] at gb) <;> first | (refine LR rfl (JD rfl rfl rfl) ?_) | (refine LK rfl ?_)
  all_goals refine LW 1 [1] rfl rfl ?_
  all_goals first | refine LR rfl (J3 rfl hs rfl) ?_ | refine LK rfl ?_
  all_goals first | refine LR rfl (JD rfl rfl rfl) ?_ | refine LK rfl ?_
  all_goals (
   refine LW 4 [2] rfl rfl (Jx 1 rfl (Y7 1 rfl ?_)); refine Jw rfl (fun g => ?_) (fun g => ?_)
   · try exact Bool.noConfusion g
     all_goals try simp only [ZZ] at g
     all_goals (
      refine JP 2 rfl ?_; refine cD (fun g => ?_) fun g => ?_
      refine Jo 2 rfl ?_
      refine LT 0 rfl rfl ?_; refine Jx 5 rfl ?_
      first
        | (refine Kq (k := 0) rfl rfl ?_
           refine Jf rfl rfl (.cons (JQ rfl (kn 1 rfl) rfl rfl) .nil) (fun w1 hs1 => ?_)
           first | exact ⟨by rw [hfo, ← he]; rfl, hs1.keep⟩ | exact ⟨by rw [hfo, hz]; rfl, hs1.keep⟩)
        | (refine Jf rfl rfl (.cons (JQ rfl (kn 0 rfl) rfl rfl) .nil) (fun w1 hs1 => ?_)
           first | exact ⟨by rw [KO, if_pos (by omega)]; rfl, hs1.keep⟩ | exact ⟨by rw [KO, if_neg (by omega), if_pos (by assumption)]; rfl, hs1.keep⟩)
        | (refine Jf rfl rfl (.cons (JQ rfl (kn 1 rfl) rfl rfl) .nil) (fun w1 hs1 => ?_)
           first | exact ⟨by rw [KO, if_pos (by omega)]; rfl, hs1.keep⟩ | exact ⟨by rw [KO, if_neg (by omega), if_pos (by assumption)]; rfl, hs1.keep⟩)
      refine JP 1 rfl ?_
      refine JL [] [(0, .grow (Qf 0 (fun r : Nat => Value.map (some r)) (fun r => [(r, Jlk)]))), (1, .pure), (4, .pure), (8, .pure), (9, .pure)] 10 [1, 2, 5, 6, 0, 3, 4, 7, 8, 9] (by kernel_rfl) (by kernel_rfl) (by first | exact (fun _ h => absurd h List.not_mem_nil) | simp [SubS] | (intro p hp; simp [hp])) ?_
      refine Jn (k := 1) rfl rfl rfl rfl rfl (fun _ hS => (JD rfl rfl rfl)) ?_; refine KB (k := 2) rfl rfl rfl rfl rfl (Jh rfl (kn 2 rfl) rfl rfl) ?_; refine KB (k := 5) rfl rfl rfl rfl rfl (Jp (vs := [_, _, _]) rfl (kn 2 rfl) rfl rfl rfl rfl) ?_; refine KB (k := 6) rfl rfl rfl rfl rfl (Jp (vs := [_, _, _, _, _, _, _]) rfl (kn 1 rfl) rfl rfl rfl rfl) ?_; refine WY (k := 0) rfl rfl rfl rfl rfl Jdm jF fun mr => ?_; refine KB (k := 3) rfl rfl rfl rfl rfl (Vz (Wa (t := 3) (by kernel_rfl)) rfl rfl (kn 0 rfl) rfl rfl ⟨_, rfl⟩ YO (Zp hkk)) ?_; refine Jn (k := 4) rfl rfl rfl rfl rfl (fun _ hS => (J0 rfl rfl rfl)) ?_; refine Wu (Jiv hkk) ?_; refine KH (k := 7) rfl rfl rfl rfl rfl hO.1 hO.2 oR ?_; refine Jn (k := 8) rfl rfl rfl rfl rfl (fun _ hS => (J0 rfl rfl rfl)) ?_; refine Jn (k := 9) rfl rfl rfl rfl rfl (fun _ hS => (J9 rfl)) ?_; refine Ko ?_; refine JI 2 rfl ?_; refine cD (fun g => ?_) fun g => ?_
      refine Jo 2 rfl ?_
      refine LT 1 rfl rfl ?_; refine Jx 5 rfl ?_
      (refine Jf rfl rfl (.cons (JQ rfl (kn 1 rfl) rfl rfl) .nil) (fun w1 hs1 => ?_)
       first | exact ⟨by rw [KO, if_pos (by omega)]; rfl, hs1.keep⟩ | exact ⟨by rw [KO, if_neg (by omega), if_pos (by assumption)]; rfl, hs1.keep⟩)
      refine JP 5 rfl ?_
      have hfo := qn (a := a) (b := b) (c := c) (d := d) (pb := pb) (pi := pi) (p := p) (show ¬ ((k = 4 ∧ n < items.length) ∨ (k = 6 ∧ n < bits.length)) by omega) (by assumption)
      have hxl : ∀ i, i < items.length → X9 k pick i < ins.length := fun i hi => qm (v := .mk a b c d bits pb items pi pick) hck (by assumption) hi
      have hp8 : k = 8 → 0 ≤ pick := fun h => by subst h; exact Jxd (v := .mk a b c d bits pb items pi pick) (by assumption)
      refine X6 3 [3, 2] rfl rfl ?_; refine JJ rfl rfl rfl (enters_of Tryz.func213 (by kernel_rfl) rfl) (Jdu (.mk k n p ins) (.mk a b c d bits pb items pi pick)) fun pp => ?_
      obtain ⟨rt, rv⟩ := pp
      change HL _ _ _ (Xz rv (.mk a b c d bits pb items pi pick) :: WD rt (.mk k n p ins) :: _) _ _ _ _; refine JI 3 rfl ?_; refine Vt [3, 0, 1, 2, 4, 5] (L' := [_, _, _, _, _, _]) (by decide) rfl ?_
      refine VW (τ := Int) (fun i (_ : Unit) => i ≤ items.length ∧ QE (items.drop i) k pick ins i = QE items k pick ins 0) (fun _ => [(r3, .cells #[.int .i64 (0)] 37 (0, 0))]) (fun j e => j = .ret ∧ e = QE items k pick ins 0) (fun e => [(r3, .cells #[.int .i64 (e)] 37 (0, 0))]) [Xz rv (.mk a b c d bits pb items pi pick), WD rt (.mk k n p ins), _, _, _] () rfl rfl (enters_of Tryz.func301 (by kernel_rfl) rfl) (Jdv (n := n) (a := a) (b := b) (c := c) (d := d) (bits := bits) (pb := pb) hl hlt hs hst hxl hp8 rt rv) (by rintro _ _ _ ⟨_, rfl, _⟩; rfl) rfl (fun q hq => by rcases List.mem_cons.1 hq with rfl | hq; exact .inl (by simp); rcases List.mem_cons.1 hq with rfl | hq; exact .inl (by simp); exact .inr hq) rfl ⟨Nat.zero_le _, rfl⟩ ?_ ?_ ?_
      rintro q Xr Xb w3 i _ _ ⟨⟩ ⟨hii, rfl, rfl⟩ ⟨hil, hinv⟩ Kr hKr; refine yE ?_
      have hix := XD hii
      have hty := QR (hxl i hii)
      rw [ZB hix.1, QE] at hinv
      unfold zz
      refine Jo 2 rfl ?_; refine LN rfl fun r4 => ?_; refine Jc (k := 0) (n := 3) (ys := (JT k pick ins i).cells) rfl rfl rfl rfl rfl (JT k pick ins i).len rfl (JT k pick ins i).one rfl ?_; refine JC 3 rfl ?_; refine LN rfl fun r5 => ?_; refine Jc (k := 0) (n := 7) (ys := (XC items i).cells) rfl rfl rfl rfl rfl (XC items i).len rfl (XC items i).one rfl ?_; refine Jx 1 rfl ?_; refine hKr _ _ ?_; refine J8 ?_; clear hKr; refine Jo 3 rfl ?_; refine LR rfl (Jb (xs := (JT k pick ins i).cells) (n := 3) rfl (kn 1 rfl) rfl rfl (JT k pick ins i).len) ?_; refine LR rfl (Jb (xs := (XC items i).cells) (n := 7) rfl (kn 0 rfl) rfl rfl (XC items i).len) ?_; refine Jg rfl rfl rfl Jo5 (ih _ hix.2 (hi _ hix.2) _ (dp + 1) (hit _ hty.2) (hci _ hty.2)) (fun q hq => Or.inr (List.mem_append_right _ hq)) ?_; refine JI 9 rfl ?_; refine cD (fun g => ?_) fun g => ?_
      refine Jo 3 rfl ?_
      refine LT 2 rfl rfl ?_; refine Jx 4 rfl ?_; refine KZ [2] (L' := [_]) (by decide) rfl ?_; refine WX (KO (XC items i) (JT k pick ins i)) ⟨rfl, by rw [if_neg (by assumption)] at hinv; exact hinv⟩ rfl
      refine Kn 2 rfl ?_; refine KZ [2] (L' := [_]) (by decide) rfl ?_; refine Kf () ⟨by omega, by rw [if_pos (by assumption)] at hinv; exact hinv⟩ rfl
      rintro D i ⟨⟩ hfi ⟨hil, hinv⟩
      have hin : i = items.length := hfi
      have hz : QE items k pick ins 0 = 0 := by rw [← hinv, hin, List.drop_length, QE]
      refine gqo 4 rfl ?_
      refine LT 1 rfl rfl ?_; refine Jx 3 rfl ?_
      (refine Kq (k := 0) rfl rfl ?_
       refine Jf rfl rfl (.cons (JQ rfl (kn 1 rfl) rfl rfl) .nil) (fun w1 hs1 => ?_)
       first | exact ⟨by rw [hfo, ← he]; rfl, hs1.keep⟩ | exact ⟨by rw [hfo, hz]; rfl, hs1.keep⟩)
      rintro D j e ⟨rfl, he⟩
      refine Kn 3 rfl ?_
      first
        | (refine Kq (k := 0) rfl rfl ?_
           refine Jf rfl rfl (.cons (JQ rfl (kn 1 rfl) rfl rfl) .nil) (fun w1 hs1 => ?_)
           first | exact ⟨by rw [hfo, ← he]; rfl, hs1.keep⟩ | exact ⟨by rw [hfo, hz]; rfl, hs1.keep⟩)
        | (refine Jf rfl rfl (.cons (JQ rfl (kn 0 rfl) rfl rfl) .nil) (fun w1 hs1 => ?_)
           first | exact ⟨by rw [KO, if_pos (by omega)]; rfl, hs1.keep⟩ | exact ⟨by rw [KO, if_neg (by omega), if_pos (by assumption)]; rfl, hs1.keep⟩)
        | (refine Jf rfl rfl (.cons (JQ rfl (kn 1 rfl) rfl rfl) .nil) (fun w1 hs1 => ?_)
           first | exact ⟨by rw [KO, if_pos (by omega)]; rfl, hs1.keep⟩ | exact ⟨by rw [KO, if_neg (by omega), if_pos (by assumption)]; rfl, hs1.keep⟩)
      skip)
   · try simp only [ZZ] at g
     refine X6 5 [2] rfl rfl ?_
     refine J4 23 rfl (fun gb => ?_) (fun gb => ?_) <;> (try simp only [ZZ] at gb) <;> first | (refine LR rfl (JD rfl rfl rfl) ?_) | (refine LK rfl ?_)
     all_goals refine LW 1 [1] rfl rfl ?_
     all_goals first | refine LR rfl (J3 rfl hsb rfl) ?_ | refine LK rfl ?_
     all_goals first | refine LR rfl (JD rfl rfl rfl) ?_ | refine LK rfl ?_
     all_goals (
      refine LW 4 [2] rfl rfl (Jx 1 rfl (Y7 1 rfl ?_)); refine Jw rfl (fun g => ?_) (fun g => ?_)
      · try exact Bool.noConfusion g
        all_goals try simp only [ZZ] at g
        all_goals (
         refine Jo 2 rfl ?_
         refine LT 0 rfl rfl ?_; refine Jx 5 rfl ?_
         first
           | (refine Kq (k := 0) rfl rfl ?_
              refine Jf rfl rfl (.cons (JQ rfl (kn 1 rfl) rfl rfl) .nil) (fun w1 hs1 => ?_)
              first | exact ⟨by rw [hfo, ← he]; rfl, hs1.keep⟩ | exact ⟨by rw [hfo, hz]; rfl, hs1.keep⟩)
           | (refine Jf rfl rfl (.cons (JQ rfl (kn 0 rfl) rfl rfl) .nil) (fun w1 hs1 => ?_)
              first | exact ⟨by rw [KO, if_pos (by omega)]; rfl, hs1.keep⟩ | exact ⟨by rw [KO, if_neg (by omega), if_pos (by assumption)]; rfl, hs1.keep⟩)
           | (refine Jf rfl rfl (.cons (JQ rfl (kn 1 rfl) rfl rfl) .nil) (fun w1 hs1 => ?_)
              first | exact ⟨by rw [KO, if_pos (by omega)]; rfl, hs1.keep⟩ | exact ⟨by rw [KO, if_neg (by omega), if_pos (by assumption)]; rfl, hs1.keep⟩)
         skip)
      try simp only [ZZ] at g
      refine JP 1 rfl ?_
      refine JL [] [(0, .grow (Qf 0 (fun r : Nat => Value.map (some r)) (fun r => [(r, Jlk)]))), (1, .pure), (4, .pure), (8, .pure), (9, .pure)] 10 [1, 2, 5, 6, 0, 3, 4, 7, 8, 9] (by kernel_rfl) (by kernel_rfl) (by first | exact (fun _ h => absurd h List.not_mem_nil) | simp [SubS] | (intro p hp; simp [hp])) ?_
      refine Jn (k := 1) rfl rfl rfl rfl rfl (fun _ hS => (JD rfl rfl rfl)) ?_; refine KB (k := 2) rfl rfl rfl rfl rfl (Jh rfl (kn 2 rfl) rfl rfl) ?_; refine KB (k := 5) rfl rfl rfl rfl rfl (Jp (vs := [_, _, _]) rfl (kn 2 rfl) rfl rfl rfl rfl) ?_; refine KB (k := 6) rfl rfl rfl rfl rfl (Jp (vs := [_, _, _, _, _, _, _]) rfl (kn 1 rfl) rfl rfl rfl rfl) ?_; refine WY (k := 0) rfl rfl rfl rfl rfl Jdm jF fun mr => ?_; refine KB (k := 3) rfl rfl rfl rfl rfl (Vz (Wa (t := 3) (by kernel_rfl)) rfl rfl (kn 0 rfl) rfl rfl ⟨_, rfl⟩ YO (Zp hkk)) ?_; refine Jn (k := 4) rfl rfl rfl rfl rfl (fun _ hS => (J0 rfl rfl rfl)) ?_; refine Wu (Jiv hkk) ?_; refine KH (k := 7) rfl rfl rfl rfl rfl hO.1 hO.2 oR ?_; refine Jn (k := 8) rfl rfl rfl rfl rfl (fun _ hS => (J0 rfl rfl rfl)) ?_; refine Jn (k := 9) rfl rfl rfl rfl rfl (fun _ hS => (J9 rfl)) ?_; refine Ko ?_; refine JI 2 rfl ?_; refine cD (fun g => ?_) fun g => ?_
      refine Jo 2 rfl ?_
      refine LT 1 rfl rfl ?_; refine Jx 5 rfl ?_
      (refine Jf rfl rfl (.cons (JQ rfl (kn 1 rfl) rfl rfl) .nil) (fun w1 hs1 => ?_)
       first | exact ⟨by rw [KO, if_pos (by omega)]; rfl, hs1.keep⟩ | exact ⟨by rw [KO, if_neg (by omega), if_pos (by assumption)]; rfl, hs1.keep⟩)
      refine JP 5 rfl ?_
      have hfo := qn (a := a) (b := b) (c := c) (d := d) (pb := pb) (pi := pi) (p := p) (show ¬ ((k = 4 ∧ n < items.length) ∨ (k = 6 ∧ n < bits.length)) by omega) (by assumption)
      have hxl : ∀ i, i < items.length → X9 k pick i < ins.length := fun i hi => qm (v := .mk a b c d bits pb items pi pick) hck (by assumption) hi
      have hp8 : k = 8 → 0 ≤ pick := fun h => by subst h; exact Jxd (v := .mk a b c d bits pb items pi pick) (by assumption)
      refine X6 3 [3, 2] rfl rfl ?_; refine JJ rfl rfl rfl (enters_of Tryz.func213 (by kernel_rfl) rfl) (Jdu (.mk k n p ins) (.mk a b c d bits pb items pi pick)) fun pp => ?_
      obtain ⟨rt, rv⟩ := pp
      change HL _ _ _ (Xz rv (.mk a b c d bits pb items pi pick) :: WD rt (.mk k n p ins) :: _) _ _ _ _; refine JI 3 rfl ?_; refine Vt [3, 0, 1, 2, 4, 5] (L' := [_, _, _, _, _, _]) (by decide) rfl ?_
      refine VW (τ := Int) (fun i (_ : Unit) => i ≤ items.length ∧ QE (items.drop i) k pick ins i = QE items k pick ins 0) (fun _ => [(r3, .cells #[.int .i64 (0)] 37 (0, 0))]) (fun j e => j = .ret ∧ e = QE items k pick ins 0) (fun e => [(r3, .cells #[.int .i64 (e)] 37 (0, 0))]) [Xz rv (.mk a b c d bits pb items pi pick), WD rt (.mk k n p ins), _, _, _] () rfl rfl (enters_of Tryz.func301 (by kernel_rfl) rfl) (Jdv (n := n) (a := a) (b := b) (c := c) (d := d) (bits := bits) (pb := pb) hl hlt hs hst hxl hp8 rt rv) (by rintro _ _ _ ⟨_, rfl, _⟩; rfl) rfl (fun q hq => by rcases List.mem_cons.1 hq with rfl | hq; exact .inl (by simp); rcases List.mem_cons.1 hq with rfl | hq; exact .inl (by simp); exact .inr hq) rfl ⟨Nat.zero_le _, rfl⟩ ?_ ?_ ?_
      rintro q Xr Xb w3 i _ _ ⟨⟩ ⟨hii, rfl, rfl⟩ ⟨hil, hinv⟩ Kr hKr; refine yE ?_
      have hix := XD hii
      have hty := QR (hxl i hii)
      rw [ZB hix.1, QE] at hinv
      unfold zz
      refine Jo 2 rfl ?_; refine LN rfl fun r6 => ?_; refine Jc (k := 0) (n := 3) (ys := (JT k pick ins i).cells) rfl rfl rfl rfl rfl (JT k pick ins i).len rfl (JT k pick ins i).one rfl ?_; refine JC 3 rfl ?_; refine LN rfl fun r7 => ?_; refine Jc (k := 0) (n := 7) (ys := (XC items i).cells) rfl rfl rfl rfl rfl (XC items i).len rfl (XC items i).one rfl ?_; refine Jx 1 rfl ?_; refine hKr _ _ ?_; refine J8 ?_; clear hKr; refine Jo 3 rfl ?_; refine LR rfl (Jb (xs := (JT k pick ins i).cells) (n := 3) rfl (kn 1 rfl) rfl rfl (JT k pick ins i).len) ?_; refine LR rfl (Jb (xs := (XC items i).cells) (n := 7) rfl (kn 0 rfl) rfl rfl (XC items i).len) ?_; refine Jg rfl rfl rfl Jo5 (ih _ hix.2 (hi _ hix.2) _ (dp + 1) (hit _ hty.2) (hci _ hty.2)) (fun q hq => Or.inr (List.mem_append_right _ hq)) ?_; refine JI 9 rfl ?_; refine cD (fun g => ?_) fun g => ?_
      refine Jo 3 rfl ?_
      refine LT 2 rfl rfl ?_; refine Jx 4 rfl ?_; refine KZ [2] (L' := [_]) (by decide) rfl ?_; refine WX (KO (XC items i) (JT k pick ins i)) ⟨rfl, by rw [if_neg (by assumption)] at hinv; exact hinv⟩ rfl
      refine Kn 2 rfl ?_; refine KZ [2] (L' := [_]) (by decide) rfl ?_; refine Kf () ⟨by omega, by rw [if_pos (by assumption)] at hinv; exact hinv⟩ rfl
      rintro D i ⟨⟩ hfi ⟨hil, hinv⟩
      have hin : i = items.length := hfi
      have hz : QE items k pick ins 0 = 0 := by rw [← hinv, hin, List.drop_length, QE]
      refine gqo 4 rfl ?_
      refine LT 1 rfl rfl ?_; refine Jx 3 rfl ?_
      (refine Kq (k := 0) rfl rfl ?_
       refine Jf rfl rfl (.cons (JQ rfl (kn 1 rfl) rfl rfl) .nil) (fun w1 hs1 => ?_)
       first | exact ⟨by rw [hfo, ← he]; rfl, hs1.keep⟩ | exact ⟨by rw [hfo, hz]; rfl, hs1.keep⟩)
      rintro D j e ⟨rfl, he⟩
      refine Kn 3 rfl ?_
      first
        | (refine Kq (k := 0) rfl rfl ?_
           refine Jf rfl rfl (.cons (JQ rfl (kn 1 rfl) rfl rfl) .nil) (fun w1 hs1 => ?_)
           first | exact ⟨by rw [hfo, ← he]; rfl, hs1.keep⟩ | exact ⟨by rw [hfo, hz]; rfl, hs1.keep⟩)
        | (refine Jf rfl rfl (.cons (JQ rfl (kn 0 rfl) rfl rfl) .nil) (fun w1 hs1 => ?_)
           first | exact ⟨by rw [KO, if_pos (by omega)]; rfl, hs1.keep⟩ | exact ⟨by rw [KO, if_neg (by omega), if_pos (by assumption)]; rfl, hs1.keep⟩)
        | (refine Jf rfl rfl (.cons (JQ rfl (kn 1 rfl) rfl rfl) .nil) (fun w1 hs1 => ?_)
           first | exact ⟨by rw [KO, if_pos (by omega)]; rfl, hs1.keep⟩ | exact ⟨by rw [KO, if_neg (by omega), if_pos (by assumption)]; rfl, hs1.keep⟩)
      skip)
   skip)
theorem Jpq {R : Jm} {t : Ty} {v : Vl} (ht : t.In R) (hv : v.In R) : PureR Tryz.prog 99 [t.val, v.val].toArray (.int .i64 (V5 t v)) R := by
 have h1 := Jix ht
 have h2 := Jyr hv t 0 ht
 obtain ⟨k, n, p, ins⟩ := t
 obtain ⟨a, b, c, d, bits, pb, items, pi, pick⟩ := v
 refine Ja Tryz.func99 rfl rfl fun w => ?_; refine J8 ?_; refine Jo 2 rfl ?_; refine LN rfl fun r1 => ?_; refine LN rfl fun r2 => ?_; refine JC 6 rfl ?_; refine LR rfl (Jp (vs := [_, _, _]) rfl (kn 1 rfl) rfl rfl rfl rfl) ?_; refine Jg rfl rfl rfl (enters_of Tryz.func157 (by kernel_rfl) rfl) h1 oR ?_; refine JI 9 rfl ?_; refine cD (fun g => ?_) fun g => ?_
 refine Kn 8 rfl ?_; refine pT rfl rfl rfl fun w1 hs1 => ?_; refine ⟨?_, hs1.keep⟩; rw [V5, if_neg (by assumption)]; rfl
 ·refine X6 6 [1, 0] rfl rfl ?_; refine Jg rfl rfl rfl Jo5 (h2 (by assumption)) oR ?_; refine Jx 4 rfl ?_; refine pT rfl rfl rfl fun w1 hs1 => ?_; refine ⟨?_, hs1.keep⟩; rw [V5, if_pos (by assumption)]; rfl
theorem wv {n : Nat} (h : n < 256) : UInt8.ofNat n = 0 ↔ n = 0 := by
 constructor
 ·intro e
  have := congrArg UInt8.toNat e
  rw [UInt8.toNat_ofNat', Nat.mod_eq_of_lt h] at this; exact this
 ·rintro rfl; rfl
theorem ww (l : List Nat) : ∀ n k, (Lib.trimLeftB (Zf l n) 0).length ≤ k ↔ ∀ t, k ≤ t → t < n → dg l t = 0
 | 0, k => by simp [Zf, Lib.trimLeftB]
 | n + 1, k => by
  have ih := ww l n k
  by_cases hz : dg l n = 0
  ·have e : Lib.trimLeftB (Zf l (n + 1)) 0 = Lib.trimLeftB (Zf l n) 0 := by simp [Zf, Lib.trimLeftB, hz]
   rw [e, ih]
   constructor
   ·intro h t h1 h2
    by_cases ht : t = n
    ·rw [ht]; exact hz
    ·exact h t h1 (by omega)
   ·intro h t h1 h2; exact h t h1 (by omega)
  ·have hne : ¬ UInt8.ofNat (dg l n) = 0 := fun e => hz ((wv (Jw2 l n)).1 e)
   have e : Lib.trimLeftB (Zf l (n + 1)) 0 = Zf l (n + 1) := by simp [Zf, Lib.trimLeftB, hne]
   rw [e, V8]
   constructor
   ·intro h t h1 h2; omega
   ·intro h
    rcases Nat.lt_or_ge n k with hk | hk
    ·omega
    ·exact absurd (h n hk (by omega)) hz
theorem Jln {l : List Nat} (hl : WOk l) : xG l = decide ((WC l).length ≤ 8) := by
 unfold xG WC
 rw [decide_eq_decide, ww]
 constructor
 ·intro h t h1 h2
  have hj : t / 8 = 1 ∨ t / 8 = 2 ∨ t / 8 = 3 := by omega
  rw [h]
  rcases hj with e | e | e <;> simp [dg, e]
 ·intro h
  have hz : ∀ j, 1 ≤ j → j < 4 → l.getD j 0 = 0 := fun j h1 h2 => by
   rw [← Jch hl h2]
   have : ∀ m, m ≤ 8 → pw (dg l) j m = 0 := by
    intro m
    induction m with
    | zero => intro _; rfl
    | succ m ih => intro hm; simp only [pw]; rw [ih (by omega), h (8 * j + m) (by omega) (by omega)]; simp
   exact this 8 (by omega)
  obtain ⟨a, b, c, d, rfl, _⟩ := hl.four
  have e1 := hz 1 (by decide) (by decide)
  have e2 := hz 2 (by decide) (by decide)
  have e3 := hz 3 (by decide) (by decide)
  simp only [List.getD_cons_zero, List.getD_cons_succ] at e1 e2 e3 ⊢; rw [e1, e2, e3]
theorem wx : ∀ n, Lib.repeatL [0] n = List.replicate n 0
 | 0 => rfl
 | n + 1 => by rw [Lib.repeatL, wx n]; rfl
theorem Jdw (t : List UInt8) : ∃ k, t = List.replicate k 0 ++ Lib.trimLeftB t 0 := by
 induction t with
 | nil => exact ⟨0, rfl⟩
 | cons x t ih =>
  by_cases hx : x = 0
  ·subst hx
   obtain ⟨k, hk⟩ := ih
   refine ⟨k + 1, ?_⟩; simp only [Lib.trimLeftB, if_true, List.replicate_succ, List.cons_append] at hk ⊢
   simpa using hk
  ·exact ⟨0, by simp [Lib.trimLeftB, hx]⟩
theorem Jge (l : List Nat) : (WC l).length ≤ 32 := by
 obtain ⟨k, hk⟩ := Jdw (Zf l 32)
 have h := congrArg List.length hk
 rw [V8, List.length_append, List.length_replicate] at h
 unfold WC; omega
theorem Jpr (n : Nat) : xG [n, 0, 0, 0] = true := by simp [xG]
theorem Jys {n : Nat} (h : n < 18446744073709551616) : WOk [n, 0, 0, 0] := ⟨rfl, fun x hx => by simp at hx; rcases hx with rfl | rfl <;> simp_all⟩
def beN (n : Nat) : List UInt8 := WC [n, 0, 0, 0]
theorem Jps {n t : Nat} (h : t < 8) : dg [n, 0, 0, 0] t = n / 256 ^ t % 256 := by
 have e : t / 8 = 0 := by omega
 have e2 : t % 8 = t := by omega
 simp only [dg, e, e2, List.getD_cons_zero]; rw [show (256 : Nat) = 2 ^ 8 from rfl, ← Nat.pow_mul, Nat.mul_comm]
theorem Jyt {n t : Nat} (h : 8 ≤ t) (h2 : t < 32) : dg [n, 0, 0, 0] t = 0 := by
 have hj : t / 8 = 1 ∨ t / 8 = 2 ∨ t / 8 = 3 := by omega
 rcases hj with e | e | e <;> simp [dg, e]
theorem Ji0 {n k : Nat} (hn : n < 18446744073709551616) (hk : k ≤ 8) : (beN n).length ≤ k ↔ n < 256 ^ k := by
 unfold beN WC
 rw [ww]
 constructor
 ·intro h
  have h' : ∀ t, k ≤ t → t < 8 → n / 256 ^ t % 256 = 0 := fun t h1 h2 => by rw [← Jps h2]; exact h t h1 (by omega)
  have key : ∀ j, k ≤ j → j ≤ 8 → n < 256 ^ j → n < 256 ^ k := by
   intro j
   induction j with
   | zero => intro h1 _ h3; rw [show k = 0 from by omega]; exact h3
   | succ j ih =>
    intro h1 h2 h3
    by_cases e : k = j + 1
    ·rw [e]; exact h3
    ·refine ih (by omega) (by omega) ?_
     have h4 := h' j (by omega) (by omega)
     have h5 : n / 256 ^ j < 256 := by
      rw [Nat.div_lt_iff_lt_mul (Nat.pow_pos (by decide))]; rw [Nat.pow_succ, Nat.mul_comm] at h3; exact h3
     rw [Nat.mod_eq_of_lt h5] at h4
     rcases Nat.div_eq_zero_iff.1 h4 with h6 | h6
     ·have := Nat.pow_pos (n := j) (show 0 < 256 by decide); omega
     ·exact h6
  exact key 8 hk (Nat.le_refl _) hn
 ·intro h t h1 h2
  by_cases ht : t < 8
  ·rw [Jps ht, Nat.div_eq_of_lt (Nat.lt_of_lt_of_le h (Nat.pow_le_pow_right (by decide) h1))]
  ·exact Jyt (by omega) h2
theorem Jpt {n : Nat} (hn : n < 18446744073709551616) : Pure Tryz.prog 138 [uV n].toArray (.string (bs (beN n))) := by
 refine Jk Tryz.func138 rfl rfl fun w => ?_; refine J8 ?_; refine Jo 8 rfl ?_; refine Jl rfl rfl rfl jD (Vo n) ?_; refine Jl rfl rfl rfl (enters_of Tryz.func200 (by kernel_rfl) rfl) (jE (Jys hn)) ?_; refine Jx 4 rfl ?_; refine pT rfl rfl rfl fun w1 hs1 => ?_; exact ⟨rfl, hs1.keep⟩
def yI (n : Nat) (w : Int) : List UInt8 × Int := if w < 1 ∨ w > 8 ∨ ((beN n).length : Int) > w then ([], 1) else (jr n w.toNat, 0)
def Zy (p : List UInt8 × Int) : Value := .tuple #[.string (bs p.1), .int .i64 p.2]
theorem Juz {n i k : Nat} (h : i < k) : ((jr n i ++ List.replicate (k - i) 0).map bV).set i (bV (UInt8.ofNat (n / 2 ^ (8 * i) % 256))) = (jr n (i + 1) ++ List.replicate (k - (i + 1)) 0).map bV := by
 rw [← List.map_set, List.set_append_right _ _ (by rw [Vm]; exact Nat.le_refl _), Vm, Nat.sub_self, show k - i = (k - (i + 1)) + 1 from by omega, List.replicate_succ, List.set_cons_zero, Jcj, List.append_assoc]; rw [show (256 : Nat) ^ i = 2 ^ (8 * i) from by rw [show (256 : Nat) = 2 ^ 8 from rfl, ← Nat.pow_mul]]
 rfl
theorem jG {n : Nat} (hn : n < 18446744073709551616) (k : Int) : Pure Tryz.prog 88 [uV n, .int .i64 k].toArray (Zy (yI n k)) := by
  refine Jk Tryz.func88 rfl rfl fun w => ?_; refine J8 ?_; refine Jo 12 rfl ?_
  refine J4 10 rfl (fun gb => ?_) (fun gb => ?_) <;> (try simp only [ZZ] at gb) <;> first | (refine Qx rfl ?_) | (refine LK rfl ?_)
  all_goals refine LW 3 [] rfl rfl ?_
  all_goals first | refine LK rfl ?_ | (refine J4 14 rfl (fun gb => ?_) (fun gb => ?_) <;> (try simp only [ZZ] at gb) <;> first | (refine Qx rfl ?_) | (refine LK rfl ?_))
  all_goals first | (refine Jl rfl rfl rfl (enters_of Tryz.func138 (by kernel_rfl) rfl) (Jpt hn) ?_) | refine LK rfl ?_
  all_goals first | refine LR rfl (Qm rfl rfl) ?_ | refine LK rfl ?_
  all_goals (
   refine LW 3 [] rfl rfl (Jx 1 rfl (Y7 1 rfl ?_)); refine Jw rfl (fun g => ?_) (fun g => ?_)
   try simp only [ZZ] at g
   refine Kn 8 rfl ?_; refine Jf rfl rfl (.cons (Jj rfl) (.cons (Jj rfl) .nil)) (fun w1 hs1 => ?_); refine ⟨?_, hs1.keep⟩; rw [show yI n k = ([], 1) from by unfold yI; rw [if_pos (by omega)]]; rfl
   · try exact Bool.noConfusion g
     all_goals try simp only [ZZ] at g
     all_goals (
      refine JP 3 rfl ?_
      have hk1 : 1 ≤ k ∧ k ≤ 8 ∧ ((beN n).length : Int) ≤ k := by omega
      have hlr : yI n k = (jr n k.toNat, 0) := by unfold yI; rw [if_neg (by omega)]
      obtain ⟨k, rfl⟩ : ∃ j : Nat, k = j := ⟨k.toNat, by omega⟩
      rw [Int.toNat_natCast] at hlr; refine Jo 2 rfl ?_; refine WN (n := k) (b := 1) rfl rfl rfl rfl rfl rfl rfl rfl rfl (by omega) (by omega) fun r2 => ?_; refine JC 7 rfl ?_; refine LR rfl (JU rfl rfl) ?_; refine JI 4 rfl ?_; refine J1 (σ := Nat) (fun i => i ≤ k) (fun i => [(0, uV n), (6, .slice (some ⟨r2, 0, none⟩) k k), (24, .int .i64 (k : Int)), (25, .int .i64 (i : Int))]) (fun i => [(r2, .cells ((jr n i ++ List.replicate (k - i) 0).map bV).toArray 5 (0, 0))]) (fun _ _ _ => True) (fun i => k - i) 0 (Nat.zero_le _) (lK rfl) (by simp [jr, bV]) (fun _ _ h => h) ?_; intro i hi; refine JP 6 rfl ?_; refine cD (fun g => ?_) fun g => ?_
      refine Jo 16 rfl ?_; refine J2 (show _ = Value.int .i64 ((8 * i : Nat) : Int) from congrArg (Value.int .i64) (by rw [wrap_i64 (by omega) (by omega)]; omega)) ?_; refine LR rfl (vN (n := 8 * i) rfl rfl (by omega) (show _ ≤ 64 from by omega) (by omega) (vk _ _)) ?_; refine Wo rfl (J2 (show _ = bV (UInt8.ofNat (n / 2 ^ (8 * i) % 256)) from vT _) (LR rfl (JH (j := i) (m := 1) (off' := i) rfl rfl rfl rfl (by omega) (by omega) (by omega)) ?_)); refine Qa (k := 0) (off := i) (xs := (jr n i ++ List.replicate (k - i) 0).map bV) (ys := (jr n (i + 1) ++ List.replicate (k - (i + 1)) 0).map bV) rfl rfl rfl rfl rfl rfl (by simp [Vm]; omega) (Juz (by omega)) rfl ?_; refine JC 5 rfl ?_; refine Je (by omega) (by omega) ?_; refine Jx 2 rfl ?_; refine Jz ?_; exact Jv (i + 1) (by omega) (by omega) (lK rfl) (List.Sublist.refl _) (fun _ _ h => h)
      refine JP 6 rfl ?_
      have hik : k = i := by omega
      subst hik; refine Jo 2 rfl ?_; refine LR rfl (Q4 (b := jr n k) (row := some (r2, k, [])) (e := 5) (show _ = some (JE (jr n k).length (some (r2, k, []))) from by rw [Vm]; rfl) ⟨by simp [Vm], by simp [Vm]⟩ (fun p hp => .inl (by rw [List.mem_singleton.1 hp]; simp)) rfl rfl rfl) ?_; refine Jx 5 rfl ?_; refine Jf rfl rfl (.cons (Jj rfl) (.cons (Jj rfl) .nil)) (fun w1 hs1 => ?_); refine ⟨?_, hs1.keep⟩; rw [hlr]; rfl
      skip)
   skip)
mutual
def Y6 : Vl → Nat
 | .mk _ _ _ _ bits _ items _ _ => 1 + bits.length / 8 + wL items
def wL : List Vl → Nat
 | [] => 0
 | x :: xs => Y6 x + wL xs
end
def Zz (head : Nat) : List (Ty × List UInt8) → List UInt8 → List UInt8 → List UInt8
 | [], f, th => f ++ th
 | (x, s) :: l, f, th => if V1 x then Zz head l (f ++ s) th else Zz head l (f ++ (yI (head + th.length) 4).1) (th ++ s)
def yJ (x : Ty) : Int := if V1 x then KV x else 4
def Vg : List Ty → Int
 | [] => 0
 | x :: l => yJ x + Vg l
mutual
def Vp : Vl → Ty → List UInt8
 | .mk a b c d bits _ items _ pick, t =>
  if t.k = 1 then leW [a, b, c, d] t.n.toNat else if t.k = 2 then leW [a, b, c, d] 1 else if t.k = 5 then WH bits else if t.k = 6 then WH (bits ++ [true])
  else if t.k = 8 then UInt8.ofNat pick.toNat :: ((Qj items t.k pick t.ins 0).headD (default, [])).2
  else Zz (Vg ((Qj items t.k pick t.ins 0).map Prod.fst)).toNat (Qj items t.k pick t.ins 0) [] []
def Qj : List Vl → Int → Int → List Ty → Nat → List (Ty × List UInt8)
 | [], _, _, _, _ => []
 | x :: xs, k, pick, ins, i => (JT k pick ins i, Vp x (JT k pick ins i)) :: Qj xs k pick ins (i + 1)
end
theorem Jdx (n : Nat) : (yI n 4).1.length ≤ 4 := by
 unfold yI
 split
 ·exact Nat.zero_le _
 ·rw [Vm]; decide
theorem wy (head : Nat) : ∀ (l : List (Ty × List UInt8)) (f th : List UInt8), (Zz head l f th).length ≤ f.length + th.length + (l.map fun p => p.2.length + 4).sum
 | [], f, th => by rw [Zz, List.length_append]; simp
 | (x, s) :: l, f, th => by
  rw [Zz, List.map_cons, List.sum_cons]
  have h4 := Jdx (head + th.length)
  split
  ·have := wy head l (f ++ s) th
   rw [List.length_append] at this
   simp only
   omega
  ·have := wy head l (f ++ (yI (head + th.length) 4).1) (th ++ s)
   rw [List.length_append, List.length_append] at this
   simp only
   omega
theorem wz (v : Vl) : ∀ t : Ty, (Vp v t).length + 4 ≤ 40 * Y6 v := by
 induction v using Vl.ind with
 | h a b c d bits pb items pi pick ih =>
  intro t
  have key : ∀ (l : List Vl) (i : Nat), (∀ x ∈ l, x ∈ items) → ((Qj l t.k pick t.ins i).map fun p => p.2.length + 4).sum ≤ 40 * wL l := by
   intro l
   induction l with
   | nil => intro i _; rw [Qj, wL]; exact Nat.zero_le _
   | cons x xs ihl =>
    intro i hs; rw [Qj, wL, List.map_cons, List.sum_cons]
    have h1 := ih x (hs x List.mem_cons_self) (JT t.k pick t.ins i)
    have h2 := ihl (i + 1) fun y hy => hs y (List.mem_cons_of_mem _ hy)
    simp only at h1 ⊢; omega
  have hk := key items 0 fun _ h => h
  have hle : ∀ n, (leW [a, b, c, d] n).length ≤ 32 := fun n => by unfold leW; rw [List.length_take, List.length_reverse, V8]; omega
  rw [Vp, Y6]
  split
  ·have := hle t.n.toNat; omega
  ·split
   ·have := hle 1; omega
   ·split
    ·rw [Zh]; omega
    ·split
     ·rw [Zh, List.length_append]; simp only [List.length_cons, List.length_nil]; omega
     ·split
      ·rw [List.length_cons]
       cases items with
       | nil => rw [Qj]; simp only [List.headD_nil, List.length_nil]; omega
       | cons x xs =>
        rw [Qj, List.headD_cons]
        have h1 := ih x List.mem_cons_self (JT t.k pick t.ins 0)
        rw [wL]
        simp only
        omega
      ·have h1 := wy (Vg ((Qj items t.k pick t.ins 0).map Prod.fst)).toNat (Qj items t.k pick t.ins 0) [] []
       simp only [List.length_nil] at h1; omega
def Ju0 (t : Ty) (v : Vl) : List UInt8 × Int := if V5 t v ≠ 0 then ([], V5 t v) else if (Vp v t).length > 65536 then ([], 5) else (Vp v t, 0)
theorem Ju1 {n : Nat} (hn : n < 18446744073709551616) : (beN n).length ≤ 8 := (Ji0 hn (Nat.le_refl 8)).2 hn
theorem Jxe {n k : Nat} (hn : n < 18446744073709551616) (hk : k < 9223372036854775808) : Pure Tryz.prog 238 [uV n, .int .i64 (k : Int)].toArray (uV (Jct n k)) := by
 refine Jk Tryz.func238 rfl rfl fun w => ?_; refine J8 ?_
 have hk6 : k % 64 < 64 := Nat.mod_lt _ (by decide)
 refine Jo 9 rfl ?_; refine J2 (show _ = uV k from congrArg (Value.int .u64) (wrap_u64 (by omega) (by omega))) ?_; refine LR rfl (V0 (op := .and) (b := ((k % 64 : Nat) : Int)) rfl rfl rfl (by omega) (by decide) (congrArg (fun z : Nat => (z : Int)) (Nat.and_two_pow_sub_one_eq_mod k 6))) ?_; refine JC 7 rfl ?_; refine LR rfl (Jb9 (n := k % 64) (b := ((n * 2 ^ (k % 64) % 18446744073709551616 : Nat) : Int)) rfl rfl rfl (show _ ≤ 64 from by omega) (J0o _)) ?_; refine LS 3 [] rfl rfl ?_; refine J2 (show _ = uV (64 - k % 64) from congrArg (Value.int .u64) (by rw [wrap_u64 (by omega) (by omega)]; omega)) ?_; refine LR rfl (vN (n := 64 - k % 64) rfl rfl rfl (show _ ≤ 64 from by omega) (by omega) (vk _ _)) ?_; refine LR rfl (V0 (op := .or) (b := ((Jct n k : Nat) : Int)) rfl rfl rfl (Nat.mod_lt _ (by decide)) (Nat.lt_of_le_of_lt (Nat.div_le_self _ _) hn) rfl) ?_; refine Jx 4 rfl ?_; refine pT rfl rfl rfl fun w1 hs1 => ?_; exact ⟨rfl, hs1.keep⟩
theorem Jam : Pure Tryz.prog 237 [].toArray (.func (.func 313) #[] #[]) := by
 refine Jk Tryz.func237 rfl rfl fun w => ?_; refine J8 ?_; refine Kn 11 rfl ?_; refine pT rfl rfl rfl fun w1 hs1 => ?_; exact ⟨rfl, hs1.keep⟩
def Jpu (i : Nat) : List Value := [.int .i64 (i : Int), .agg [.int .i64 ((i % 5 : Nat) : Int), .int .i64 ((i / 5 : Nat) : Int)].toArray]
theorem Jan : jk Tryz.prog 313 [] [] 0 (nxN Jpu 25) (yD 25) := by
  refine QY Tryz.func313 rfl rfl fun q xids w2 XI XF hY => ?_; refine J8 ?_; refine JP 6 rfl ?_; refine J1 (σ := Nat) (fun i => i ≤ 25) (fun i => [(0, .func (.yield q) #[] #[]), (3, .int .i64 (i : Int))]) (fun _ => []) (fun i => XI i) (fun i => 25 - i) 0 (Nat.zero_le _) (lK rfl) (List.nil_sublist _) (fun _ _ h => h) ?_; intro i hi; refine JP 6 rfl ?_; refine cD (fun g => ?_) fun g => ?_
  · refine Jo 16 rfl ?_; refine J2 (show _ = Value.int .i64 ((i % 5 : Nat) : Int) from congrArg (Value.int .i64) (WO _ 5)) ?_; refine LS 2 [] rfl rfl ?_; refine J2 (show _ = Value.int .i64 ((i / 5 : Nat) : Int) from congrArg (Value.int .i64) (by rw [QK (by omega) (by omega) (by omega)]; omega)) ?_; refine LR rfl (Js (r := [_, _]) rfl rfl) ?_; refine Vy (XT := XI (i + 1)) (XF := XF) rfl rfl rfl rfl (hY i (Jpu i) (i + 1) ⟨by omega, rfl, rfl⟩) ?_ ?_
    all_goals (
     refine Jx 2 rfl (Y7 1 rfl ?_); refine Jw rfl (fun g => ?_) (fun g => ?_)
     · try exact Bool.noConfusion g
       all_goals try simp only [ZZ] at g
       all_goals (
        refine Kn 5 rfl ?_; refine Jf rfl rfl .nil (fun w1 hs1 => ?_)
        obtain ⟨xs1, hx1⟩ := hs1.now
        exact ⟨⟨_, rfl⟩, hs1.keep, .inr ⟨_, hx1⟩⟩
        skip)
     · try exact Bool.noConfusion g
       all_goals try simp only [ZZ] at g
       all_goals (
        refine Jo 5 rfl ?_; refine Je (by omega) (by omega) ?_; refine Jx 2 rfl ?_; refine Jz ?_; exact Jv (i + 1) (by omega) (by omega) (lK rfl) (List.nil_sublist _) (fun _ _ h => h)
        skip)
     skip)
  · refine Kn 4 rfl ?_; refine Kh rfl rfl .nil (fun w1 hs1 => ?_)
    obtain ⟨xs1, hx1⟩ := hs1.now
    exact ⟨⟨_, rfl⟩, hs1.keep, .inl ⟨i, _, (by show i = 25; omega), hx1⟩⟩
def kO (a : List Nat) : Obj := .cells (a.map uV).toArray 148 (0, 0)
def cO (c : List Nat) : Obj := .cells (c.map uV).toArray 285 (0, 0)
theorem Jlo {a : List Nat} (ha : SOk 25 a) (r : Nat) : PureM Tryz.prog 236 [.pointer (some ⟨r, 0, none⟩)].toArray (.tuple #[]) r (kO a) (kO (Jk5 a)) := by
 refine q8 Tryz.func236 rfl rfl fun w => ?_; refine J8 ?_
 have hal := ha.1
 obtain ⟨cc, hcc⟩ : ∃ c, c = cS a 25 := ⟨_, rfl⟩
 have hc : SOk 5 cc := by rw [hcc]; exact Jcv ha 25
 have hmx : Jk5 a = mS cc a 25 := by rw [hcc]; rfl
 refine Jo 2 rfl ?_; refine LN rfl fun r1 => ?_; refine JC 4 rfl ?_; refine Qs (cs := ((cS a 0).map uV).toArray) rfl rfl rfl rfl fun r2 => ?_; refine JC 5 rfl ?_; refine Jl rfl rfl rfl Jin Jam ?_; refine JI 3 rfl ?_; refine Xh (τ := Unit) (fun i (s : List Nat) => s = cS a i ∧ i ≤ 25) (fun s => [(r2, cO s)]) (fun _ _ => False) (fun _ => []) [(r1, _), (r, kO a)] (cS a 0) rfl rfl Jit Jan (by rintro _ _ _ ⟨_, rfl, _⟩; rfl) rfl (by simp) rfl ⟨rfl, by decide⟩ ?_ ?_ ?_
 rintro q Xr Xb w3 i _ _ s ⟨hi, rfl, rfl⟩ ⟨hs, -⟩ Kr hKr; refine yE ?_
 have hsk : SOk 5 s := by rw [hs]; exact Jcv ha i
 have hsl := hsk.1
 refine Jo 6 rfl ?_; refine LN rfl fun r2 => ?_
 refine LT 0 rfl rfl ?_; refine Jx 1 rfl ?_; refine hKr _ _ ?_; refine J8 ?_; clear hKr; refine JP 1 rfl ?_; refine JK 11 (by kernel_rfl) (by kernel_rfl) ?_
 refine Jd rfl rfl rfl (JG (j := 0) rfl rfl rfl rfl rfl (by first | decide | omega) (by first | (simp only [Nat.zero_add, Nat.reduceAdd, Nat.reduceMul, Nat.zero_mul, Nat.mul_one, Nat.add_zero]; exact rfl) | exact rfl)) ?_; refine Jd rfl rfl rfl (Jh rfl (kn 0 rfl) rfl rfl) ?_; refine Jd rfl rfl rfl (JG (j := i % 5) (m := 1) (off' := i % 5) rfl rfl rfl rfl (by omega) (by omega) (by omega)) ?_; refine Jd rfl rfl rfl (KG rfl (kn 1 rfl) rfl (Qe (by rw [hsl]; omega))) ?_; refine Jd rfl rfl rfl (Jh rfl (Jy (k := 0) rfl) rfl rfl) ?_; refine Jd rfl rfl rfl (Ji rfl) ?_; refine Jd rfl rfl rfl (J0 rfl rfl rfl) ?_; refine Jd rfl rfl rfl (JG (j := i) (m := 1) (off' := i) rfl rfl rfl rfl (by omega) (by omega) (by omega)) ?_; refine Jd rfl rfl rfl (KG rfl (Jy (k := 1) rfl) rfl (Qe (by rw [hal]; omega))) ?_; refine Jd rfl rfl rfl (V0 (op := .xor) (b := ((s.getD (i % 5) 0 ^^^ a.getD i 0 : Nat) : Int)) rfl rfl rfl (hsk.get _) (ha.get _) rfl) ?_; refine Jd rfl rfl rfl (JG (j := i % 5) (m := 1) (off' := i % 5) rfl rfl rfl rfl (by omega) (by omega) (by omega)) ?_; refine JW ?_; refine Qa (k := 1) (off := i % 5) (xs := s.map uV) (ys := (cS a (i + 1)).map uV) rfl rfl rfl rfl rfl rfl (by rw [List.length_map, hsl]; omega) (Ws (by rw [hs]; rfl)) rfl ?_; refine Jx 2 rfl ?_; refine KZ [1] (L' := [_]) (by decide) rfl ?_; exact Kf (cS a (i + 1)) ⟨rfl, by omega⟩ rfl
 rintro D i s hfi ⟨hs, -⟩
 have hi25 : i = 25 := hfi
 subst hi25; rw [← hcc] at hs
 have hs := hs.symm
 subst hs; refine gqo 4 rfl ?_; refine Jl rfl rfl rfl Jin Jam ?_; refine JI 3 rfl ?_; refine Vt [3, 0, 1, 2] (by decide) rfl ?_; refine Xh (τ := Unit) (fun i (s : List Nat) => s = mS cc a i ∧ i ≤ 25) (fun s => [(r, kO s)]) (fun _ _ => False) (fun _ => []) [(D, _), (r2, cO cc), (r1, _)] (a) rfl rfl Jit Jan (by rintro _ _ _ ⟨_, rfl, _⟩; rfl) rfl (by simp) rfl ⟨rfl, by decide⟩ ?_ ?_ ?_
 rintro q Xr Xb w3 i _ _ s ⟨hi, rfl, rfl⟩ ⟨hs, -⟩ Kr hKr; refine yE ?_
 have hsk : SOk 25 s := by rw [hs]; exact Jhv hc ha i
 have hsl := hsk.1
 refine Jo 6 rfl ?_; refine LN rfl fun r3 => ?_
 refine LT 0 rfl rfl ?_; refine Jx 1 rfl ?_; refine hKr _ _ ?_; refine J8 ?_; clear hKr; refine Jo 3 rfl ?_
 refine LR rfl (JG (j := 0) rfl rfl rfl rfl rfl (by first | decide | omega) (by first | (simp only [Nat.zero_add, Nat.reduceAdd, Nat.reduceMul, Nat.zero_mul, Nat.mul_one, Nat.add_zero]; exact rfl) | exact rfl)) ?_; refine Goc 4 [0] rfl rfl ?_; refine JK 21 (by kernel_rfl) (by kernel_rfl) ?_; refine Jd rfl rfl rfl (Jh rfl (Jy (k := 2) rfl) rfl rfl) ?_; refine Jd rfl rfl rfl (Ji rfl) ?_; refine Jd rfl rfl rfl (J0 rfl rfl rfl) ?_; refine Jd rfl rfl rfl (JG (j := i) (m := 1) (off' := i) rfl rfl rfl rfl (by omega) (by omega) (by omega)) ?_; refine Jd rfl rfl rfl (KG rfl (kn 1 rfl) rfl (Qe (by rw [hsl]; omega))) ?_; refine Jd rfl rfl rfl (Ji rfl) ?_; refine Jd rfl rfl rfl (J0 rfl rfl rfl) ?_; refine Ql (show _ = Value.int .i64 ((i % 5 + 5 : Nat) : Int) from congrArg (Value.int .i64) (by rw [wrap_i64 (by omega) (by omega)]; omega)) ?_; refine Jd rfl rfl rfl (J0 rfl rfl rfl) ?_; refine Ql (show _ = Value.int .i64 ((i % 5 + 5 - 1 : Nat) : Int) from congrArg (Value.int .i64) (by rw [wrap_i64 (by omega) (by omega)]; omega)) ?_; refine Jd rfl rfl rfl (J0 rfl rfl rfl) ?_; refine Ql (show _ = Value.int .i64 (((i % 5 + 5 - 1) % 5 : Nat) : Int) from congrArg (Value.int .i64) (by rw [Int.tmod_eq_emod_of_nonneg (by omega)]; omega)) ?_; refine Jd rfl rfl rfl (JG (j := (i % 5 + 5 - 1) % 5) (m := 1) (off' := (i % 5 + 5 - 1) % 5) rfl rfl rfl rfl (by omega) (by omega) (by omega)) ?_; refine Jd rfl rfl rfl (KG rfl (Jy (k := 1) rfl) rfl (Qe (by rw [hc.1]; omega))) ?_; refine Jd rfl rfl rfl (Ji rfl) ?_; refine Jd rfl rfl rfl (J0 rfl rfl rfl) ?_; refine Ql (show _ = Value.int .i64 ((i % 5 + 1 : Nat) : Int) from congrArg (Value.int .i64) (by rw [wrap_i64 (by omega) (by omega)]; omega)) ?_; refine Jd rfl rfl rfl (J0 rfl rfl rfl) ?_; refine Ql (show _ = Value.int .i64 (((i % 5 + 1) % 5 : Nat) : Int) from congrArg (Value.int .i64) (by rw [Int.tmod_eq_emod_of_nonneg (by omega)]; omega)) ?_; refine Jd rfl rfl rfl (JG (j := (i % 5 + 1) % 5) (m := 1) (off' := (i % 5 + 1) % 5) rfl rfl rfl rfl (by omega) (by omega) (by omega)) ?_; refine Jd rfl rfl rfl (KG rfl (Jy (k := 1) rfl) rfl (Qe (by rw [hc.1]; omega))) ?_; refine Kz rfl rfl rfl (enters_of Tryz.func238 (by kernel_rfl) rfl) (Jxe (k := 1) (hc.get _) (by decide)) ?_; refine Jd rfl rfl rfl (V0 (op := .xor) (b := ((cc.getD ((i % 5 + 5 - 1) % 5) 0 ^^^ Jct (cc.getD ((i % 5 + 1) % 5) 0) 1 : Nat) : Int)) rfl rfl rfl (hc.get _) (vp (hc.get _) 1) rfl) ?_; refine Jd rfl rfl rfl (V0 (op := .xor) (b := ((s.getD i 0 ^^^ (cc.getD ((i % 5 + 5 - 1) % 5) 0 ^^^ Jct (cc.getD ((i % 5 + 1) % 5) 0) 1) : Nat) : Int)) rfl rfl rfl (hsk.get _) (Wv (hc.get _) (vp (hc.get _) 1)) rfl) ?_; refine Jd rfl rfl rfl (J0 rfl rfl rfl) ?_; refine Jd rfl rfl rfl (JG (j := i) (m := 1) (off' := i) rfl rfl rfl rfl (by omega) (by omega) (by omega)) ?_; refine JW ?_; refine Qa (k := 1) (off := i) (xs := s.map uV) (ys := (mS cc a (i + 1)).map uV) rfl rfl rfl rfl rfl rfl (by rw [List.length_map, hsl]; omega) (Ws (by rw [hs]; rfl)) rfl ?_; refine Jx 2 rfl ?_; refine KZ [1] (L' := [_]) (by decide) rfl ?_; exact Kf (mS cc a (i + 1)) ⟨rfl, by omega⟩ rfl
 rintro D2 i s hfi ⟨hs, -⟩
 have hi25 : i = 25 := hfi
 subst hi25; refine ZJ 1 rfl ?_; refine Kq (k := 0) rfl rfl ?_; refine Kq (k := 2) rfl rfl ?_; refine Jf rfl rfl .nil (fun w1 hs1 => ?_); exact ⟨rfl, _, List.mem_cons_of_mem _ (by rw [hmx, ← hs]; exact List.mem_cons_self), hs1⟩
 exact fun _ _ _ h => h.elim
 ·exact fun _ _ _ h => h.elim
theorem Ju2 {a : List Nat} (ha : SOk 25 a) {n : Nat} (hn : n < 18446744073709551616) {by_ : List Nat} (hbl : by_.length = 25) (hby : ∀ i, by_.getD i 0 < 9223372036854775808) (r : Nat) :
  PureM Tryz.prog 178 [.pointer (some ⟨r, 0, none⟩), uV n, .agg (by_.map iV).toArray].toArray (.tuple #[]) r (kO a) (kO (vZ by_ a n)) := by
 refine q8 Tryz.func178 rfl rfl fun w => ?_; refine J8 ?_
 obtain ⟨m, hm⟩ : ∃ m, m = Jk5 a := ⟨_, rfl⟩
 have hmk : SOk 25 m := by rw [hm]; exact xO ha
 have hml := hmk.1
 have hbk := Jcw by_ hmk 25
 obtain ⟨b, hb⟩ : ∃ b, b = rS m by_ 25 := ⟨_, rfl⟩
 have hbk : SOk 25 b := by rw [hb]; exact Jcw by_ hmk 25
 have hbln := hbk.1
 have hra : vZ by_ a n = Jhx (xS b m 25) n := by rw [hb, hm]; rfl
 refine Jo 2 rfl ?_; refine LN rfl fun r1 => ?_; refine JS (cs := (by_.map iV).toArray) rfl rfl rfl rfl fun r2 => ?_; refine JC 4 rfl ?_; refine LR rfl (Jh rfl (kn 1 rfl) rfl rfl) ?_; refine Jck (k := 2) rfl rfl rfl (enters_of Tryz.func236 (by kernel_rfl) rfl) rfl (Jlo ha r) rfl ?_; rw [← hm]; refine JC 4 rfl ?_; refine Qs (cs := (z25.map uV).toArray) rfl rfl rfl rfl fun r3 => ?_; refine JC 5 rfl ?_; refine Jl rfl rfl rfl Jin Jam ?_; refine JI 3 rfl ?_; refine Xh (τ := Unit) (fun i (s : List Nat) => s = rS m by_ i ∧ i ≤ 25) (fun s => [(r3, kO s)]) (fun _ _ => False) (fun _ => []) [(r2, _), (r1, _), (r, kO m)] (z25) rfl rfl Jit Jan (by rintro _ _ _ ⟨_, rfl, _⟩; rfl) rfl (by simp) rfl ⟨rfl, by decide⟩ ?_ ?_ ?_
 rintro q Xr Xb w3 i _ _ s ⟨hi, rfl, rfl⟩ ⟨hs, -⟩ Kr hKr; refine yE ?_
 have hsk : SOk 25 s := by rw [hs]; exact Jcw by_ hmk i
 have hsl := hsk.1
 refine Jo 6 rfl ?_; refine LN rfl fun r2 => ?_
 refine LT 0 rfl rfl ?_; refine Jx 1 rfl ?_; refine hKr _ _ ?_; refine J8 ?_; clear hKr; refine JP 2 rfl ?_; refine JK 6 (by kernel_rfl) (by kernel_rfl) ?_
 refine Jd rfl rfl rfl (JG (j := 0) rfl rfl rfl rfl rfl (by first | decide | omega) (by first | (simp only [Nat.zero_add, Nat.reduceAdd, Nat.reduceMul, Nat.zero_mul, Nat.mul_one, Nat.add_zero]; exact rfl) | exact rfl)) ?_; refine Jd rfl rfl rfl (Jh rfl (kn 0 rfl) rfl rfl) ?_
 refine Jd rfl rfl rfl (JG (j := 1) rfl rfl rfl rfl rfl (by first | decide | omega) (by first | (simp only [Nat.zero_add, Nat.reduceAdd, Nat.reduceMul, Nat.zero_mul, Nat.mul_one, Nat.add_zero]; exact rfl) | exact rfl)) ?_; refine Jd rfl rfl rfl (Jh rfl (kn 0 rfl) rfl rfl) ?_; refine Jd rfl rfl rfl (J9 rfl) ?_; refine Jd rfl rfl rfl (J9 rfl) ?_; refine JW ?_; refine JI 2 rfl ?_; refine JK 19 (by kernel_rfl) (by kernel_rfl) ?_; refine Jd rfl rfl rfl (Ji rfl) ?_; refine Jd rfl rfl rfl (Ji rfl) ?_; refine Jd rfl rfl rfl (J0 rfl rfl rfl) ?_; refine Ql (show _ = Value.int .i64 ((2 * (i % 5) : Nat) : Int) from congrArg (Value.int .i64) (by rw [wrap_i64 (by omega) (by omega)]; omega)) ?_; refine Jd rfl rfl rfl (Ji rfl) ?_; refine Jd rfl rfl rfl (J0 rfl rfl rfl) ?_; refine Ql (show _ = Value.int .i64 ((3 * (i / 5) : Nat) : Int) from congrArg (Value.int .i64) (by rw [wrap_i64 (by omega) (by omega)]; omega)) ?_; refine Jd rfl rfl rfl (J0 rfl rfl rfl) ?_; refine Ql (show _ = Value.int .i64 ((2 * (i % 5) + 3 * (i / 5) : Nat) : Int) from congrArg (Value.int .i64) (by rw [wrap_i64 (by omega) (by omega)]; omega)) ?_; refine Jd rfl rfl rfl (J0 rfl rfl rfl) ?_; refine Ql (show _ = Value.int .i64 (((2 * (i % 5) + 3 * (i / 5)) % 5 : Nat) : Int) from congrArg (Value.int .i64) (by rw [Int.tmod_eq_emod_of_nonneg (by omega)]; omega)) ?_; refine Jd rfl rfl rfl (J0 rfl rfl rfl) ?_; refine Ql (show _ = Value.int .i64 ((5 * ((2 * (i % 5) + 3 * (i / 5)) % 5) : Nat) : Int) from congrArg (Value.int .i64) (by rw [wrap_i64 (by omega) (by omega)]; omega)) ?_; refine Jd rfl rfl rfl (J0 rfl rfl rfl) ?_; refine Ql (show _ = Value.int .i64 ((i / 5 + 5 * ((2 * (i % 5) + 3 * (i / 5)) % 5) : Nat) : Int) from congrArg (Value.int .i64) (by rw [wrap_i64 (by omega) (by omega)]; omega)) ?_; refine Jd rfl rfl rfl (Jh rfl (Jy (k := 1) rfl) rfl rfl) ?_; refine Jd rfl rfl rfl (Ji rfl) ?_; refine Jd rfl rfl rfl (J0 rfl rfl rfl) ?_; refine Jd rfl rfl rfl (JG (j := i) (m := 1) (off' := i) rfl rfl rfl rfl (by omega) (by omega) (by omega)) ?_; refine Jd rfl rfl rfl (KG rfl (Jy (k := 2) rfl) rfl (Qe (by rw [hml]; omega))) ?_; refine Jd rfl rfl rfl (Ji rfl) ?_; refine Jd rfl rfl rfl (JG (j := i) (m := 1) (off' := i) rfl rfl rfl rfl (by omega) (by omega) (by omega)) ?_; refine Jd rfl rfl rfl (KG rfl (Jy (k := 0) rfl) rfl (Jnq (by rw [hbl]; omega))) ?_; refine Kz rfl rfl rfl (enters_of Tryz.func238 (by kernel_rfl) rfl) (Jxe (k := by_.getD i 0) (hmk.get _) (hby i)) ?_; refine Jd rfl rfl rfl (JG (j := (i / 5 + 5 * ((2 * (i % 5) + 3 * (i / 5)) % 5))) (m := 1) (off' := (i / 5 + 5 * ((2 * (i % 5) + 3 * (i / 5)) % 5))) rfl rfl rfl rfl (by omega) (by omega) (by omega)) ?_; refine JW ?_; refine Qa (k := 1) (off := i / 5 + 5 * ((2 * (i % 5) + 3 * (i / 5)) % 5)) (xs := s.map uV) (ys := (rS m by_ (i + 1)).map uV) rfl rfl rfl rfl rfl rfl (by rw [List.length_map, hsl]; omega) (Ws (by rw [hs]; rfl)) rfl ?_; refine Jx 2 rfl ?_; refine KZ [1] (L' := [_]) (by decide) rfl ?_; exact Kf (rS m by_ (i + 1)) ⟨rfl, by omega⟩ rfl
 rintro D i s hfi ⟨hs, -⟩
 have hi25 : i = 25 := hfi
 subst hi25; rw [← hb] at hs
 have hs := hs.symm
 subst hs; refine gqo 5 rfl ?_; refine Jl rfl rfl rfl Jin Jam ?_; refine JI 3 rfl ?_; refine Vt [4, 0, 1, 2, 3] (by decide) rfl ?_; refine Xh (τ := Unit) (fun i (s : List Nat) => s = xS b m i ∧ i ≤ 25) (fun s => [(r, kO s)]) (fun _ _ => False) (fun _ => []) [(D, _), (r3, kO b), (r2, _), (r1, _)] (m) rfl rfl Jit Jan (by rintro _ _ _ ⟨_, rfl, _⟩; rfl) rfl (by simp) rfl ⟨rfl, by decide⟩ ?_ ?_ ?_
 rintro q Xr Xb w3 i _ _ s ⟨hi, rfl, rfl⟩ ⟨hs, -⟩ Kr hKr; refine yE ?_
 have hsk : SOk 25 s := by rw [hs]; exact Jhw hbk hmk i
 have hsl := hsk.1
 refine Jo 6 rfl ?_; refine LN rfl fun r3 => ?_
 refine LT 0 rfl rfl ?_; refine Jx 1 rfl ?_; refine hKr _ _ ?_; refine J8 ?_; clear hKr; refine JP 2 rfl ?_; refine JK 8 (by kernel_rfl) (by kernel_rfl) ?_
 refine Jd rfl rfl rfl (JG (j := 0) rfl rfl rfl rfl rfl (by first | decide | omega) (by first | (simp only [Nat.zero_add, Nat.reduceAdd, Nat.reduceMul, Nat.zero_mul, Nat.mul_one, Nat.add_zero]; exact rfl) | exact rfl)) ?_; refine Jd rfl rfl rfl (Jh rfl (kn 0 rfl) rfl rfl) ?_; refine Jd rfl rfl rfl (Ji rfl) ?_
 refine Jd rfl rfl rfl (JG (j := 0) rfl rfl rfl rfl rfl (by first | decide | omega) (by first | (simp only [Nat.zero_add, Nat.reduceAdd, Nat.reduceMul, Nat.zero_mul, Nat.mul_one, Nat.add_zero]; exact rfl) | exact rfl)) ?_; refine Jd rfl rfl rfl (Jh rfl (kn 0 rfl) rfl rfl) ?_; refine Jd rfl rfl rfl (J0 rfl rfl rfl) ?_; refine Ql (show _ = Value.int .i64 ((i - i % 5 : Nat) : Int) from congrArg (Value.int .i64) (by rw [wrap_i64 (by omega) (by omega)]; omega)) ?_; refine Jd rfl rfl rfl (J9 rfl) ?_; refine Jd rfl rfl rfl (J9 rfl) ?_; refine JW ?_; refine JI 2 rfl ?_; refine JK 24 (by kernel_rfl) (by kernel_rfl) ?_; refine Jd rfl rfl rfl (Jh rfl (Jy (k := 3) rfl) rfl rfl) ?_; refine Jd rfl rfl rfl (Ji rfl) ?_; refine Jd rfl rfl rfl (Ji rfl) ?_; refine Jd rfl rfl rfl (JG (j := i) (m := 1) (off' := i) rfl rfl rfl rfl (by omega) (by omega) (by omega)) ?_; refine Jd rfl rfl rfl (KG rfl (Jy (k := 1) rfl) rfl (Qe (by rw [hbln]; omega))) ?_; refine Jd rfl rfl rfl (Ji rfl) ?_; refine Jd rfl rfl rfl (Ji rfl) ?_; refine Jd rfl rfl rfl (J0 rfl rfl rfl) ?_; refine Ql (show _ = Value.int .i64 ((i % 5 + 1 : Nat) : Int) from congrArg (Value.int .i64) (by rw [wrap_i64 (by omega) (by omega)]; omega)) ?_; refine Jd rfl rfl rfl (J0 rfl rfl rfl) ?_; refine Ql (show _ = Value.int .i64 (((i % 5 + 1) % 5 : Nat) : Int) from congrArg (Value.int .i64) (by rw [Int.tmod_eq_emod_of_nonneg (by omega)]; omega)) ?_; refine Jd rfl rfl rfl (J0 rfl rfl rfl) ?_; refine Ql (show _ = Value.int .i64 ((i - i % 5 + (i % 5 + 1) % 5 : Nat) : Int) from congrArg (Value.int .i64) (by rw [wrap_i64 (by omega) (by omega)]; omega)) ?_; refine Jd rfl rfl rfl (JG (j := (i - i % 5 + (i % 5 + 1) % 5)) (m := 1) (off' := (i - i % 5 + (i % 5 + 1) % 5)) rfl rfl rfl rfl (by omega) (by omega) (by omega)) ?_; refine Jd rfl rfl rfl (KG rfl (Jy (k := 1) rfl) rfl (Qe (by rw [hbln]; omega))) ?_; refine Jd rfl rfl rfl (Jtl rfl (hbk.get _)) ?_; refine Jd rfl rfl rfl (Ji rfl) ?_; refine Jd rfl rfl rfl (Ji rfl) ?_; refine Jd rfl rfl rfl (J0 rfl rfl rfl) ?_; refine Ql (show _ = Value.int .i64 ((i % 5 + 2 : Nat) : Int) from congrArg (Value.int .i64) (by rw [wrap_i64 (by omega) (by omega)]; omega)) ?_; refine Jd rfl rfl rfl (J0 rfl rfl rfl) ?_; refine Ql (show _ = Value.int .i64 (((i % 5 + 2) % 5 : Nat) : Int) from congrArg (Value.int .i64) (by rw [Int.tmod_eq_emod_of_nonneg (by omega)]; omega)) ?_; refine Jd rfl rfl rfl (J0 rfl rfl rfl) ?_; refine Ql (show _ = Value.int .i64 ((i - i % 5 + (i % 5 + 2) % 5 : Nat) : Int) from congrArg (Value.int .i64) (by rw [wrap_i64 (by omega) (by omega)]; omega)) ?_; refine Jd rfl rfl rfl (JG (j := (i - i % 5 + (i % 5 + 2) % 5)) (m := 1) (off' := (i - i % 5 + (i % 5 + 2) % 5)) rfl rfl rfl rfl (by omega) (by omega) (by omega)) ?_; refine Jd rfl rfl rfl (KG rfl (Jy (k := 1) rfl) rfl (Qe (by rw [hbln]; omega))) ?_; refine Jd rfl rfl rfl (V0 (op := .and) (b := (((18446744073709551615 ^^^ b.getD (i - i % 5 + (i % 5 + 1) % 5) 0) &&& b.getD (i - i % 5 + (i % 5 + 2) % 5) 0 : Nat) : Int)) rfl rfl rfl (Wv (by decide) (hbk.get _)) (hbk.get _) rfl) ?_; refine Jd rfl rfl rfl (V0 (op := .xor) (b := ((Jx5 b i : Nat) : Int)) rfl rfl rfl (hbk.get _) (Jcu (hbk.get _)) rfl) ?_; refine Jd rfl rfl rfl (J0 rfl rfl rfl) ?_; refine Jd rfl rfl rfl (JG (j := i) (m := 1) (off' := i) rfl rfl rfl rfl (by omega) (by omega) (by omega)) ?_; refine JW ?_; refine Qa (k := 1) (off := i) (xs := s.map uV) (ys := (xS b m (i + 1)).map uV) rfl rfl rfl rfl rfl rfl (by rw [List.length_map, hsl]; omega) (Ws (by rw [hs]; rfl)) rfl ?_; refine Jx 2 rfl ?_; refine KZ [1] (L' := [_]) (by decide) rfl ?_; exact Kf (xS b m (i + 1)) ⟨rfl, by omega⟩ rfl
 rintro D2 i s hfi ⟨hs, -⟩
 have hi25 : i = 25 := hfi
 subst hi25
 have hsk : SOk 25 s := by rw [hs]; exact Jhw hbk hmk 25
 have hsl := hsk.1
 refine Y7 2 rfl ?_; refine JK 8 (by kernel_rfl) (by kernel_rfl) ?_; refine Jd rfl rfl rfl (Jh rfl (kn 5 rfl) rfl rfl) ?_; refine Jd rfl rfl rfl (J0 rfl rfl rfl) ?_
 refine Jd rfl rfl rfl (JG (j := 0) rfl rfl rfl rfl rfl (by first | decide | omega) (by first | (simp only [Nat.zero_add, Nat.reduceAdd, Nat.reduceMul, Nat.zero_mul, Nat.mul_one, Nat.add_zero]; exact rfl) | exact rfl)) ?_; refine Jd rfl rfl rfl (KG rfl (kn 1 rfl) rfl (Qe (by rw [hsl]; omega))) ?_; refine Jd rfl rfl rfl (Ji rfl) ?_; refine Jd rfl rfl rfl (V0 (op := .xor) (b := ((s.getD 0 0 ^^^ n : Nat) : Int)) rfl rfl rfl (hsk.get _) (hn) rfl) ?_; refine Jd rfl rfl rfl (J0 rfl rfl rfl) ?_
 refine Jd rfl rfl rfl (JG (j := 0) rfl rfl rfl rfl rfl (by first | decide | omega) (by first | (simp only [Nat.zero_add, Nat.reduceAdd, Nat.reduceMul, Nat.zero_mul, Nat.mul_one, Nat.add_zero]; exact rfl) | exact rfl)) ?_; refine JW ?_; refine Qa (k := 1) (off := 0) (xs := s.map uV) (ys := (Jhx s n).map uV) rfl rfl rfl rfl rfl rfl (by rw [List.length_map, hsl]; omega) (Ws rfl) rfl ?_; refine Jx 1 rfl ?_; refine Kq (k := 0) rfl rfl ?_; refine Kq (k := 2) rfl rfl ?_; refine Jf rfl rfl .nil (fun w1 hs1 => ?_); exact ⟨rfl, _, List.mem_cons_of_mem _ (by rw [hra, ← hs]; exact List.mem_cons_self), hs1⟩
 exact fun _ _ _ h => h.elim
 ·exact fun _ _ _ h => h.elim
theorem Ju3 : Pure Tryz.prog 176 [].toArray (.agg (turnsL.map iV).toArray) := by
 refine Jk Tryz.func176 rfl rfl fun w => ?_; refine J8 ?_; refine Jo 2 rfl ?_; refine LN rfl fun r1 => ?_; refine JC 4 rfl ?_; refine LR rfl (Js (r := turnsL.map iV) rfl (by kernel_rfl)) ?_; refine Jc (k := 0) (n := 25) (ys := turnsL.map iV) rfl rfl rfl rfl rfl rfl rfl rfl rfl ?_; refine Jx 3 rfl ?_; refine Jf rfl rfl (.cons (Jq (vs := turnsL.map iV) rfl (kn 0 rfl) rfl rfl) .nil) (fun w1 hs1 => ?_); exact ⟨rfl, hs1.keep⟩
theorem Jlp : Pure Tryz.prog 177 [].toArray (.agg (numsL.map uV).toArray) := by
 refine Jk Tryz.func177 rfl rfl fun w => ?_; refine J8 ?_; refine Jo 2 rfl ?_; refine LN rfl fun r1 => ?_; refine JC 4 rfl ?_; refine LR rfl (Js (r := numsL.map uV) rfl (by kernel_rfl)) ?_; refine Jc (k := 0) (n := 24) (ys := numsL.map uV) rfl rfl rfl rfl rfl rfl rfl rfl rfl ?_; refine Jx 3 rfl ?_; refine Jf rfl rfl (.cons (Jq (vs := numsL.map uV) rfl (kn 0 rfl) rfl rfl) .nil) (fun w1 hs1 => ?_); exact ⟨rfl, hs1.keep⟩
theorem Jpv (i : Nat) : turnsL.getD i 0 < 9223372036854775808 := by
 by_cases h : i < 25
 ·have : turnsL.all (fun x => decide (x < 9223372036854775808)) = true := by decide
  have hm : turnsL.getD i 0 ∈ turnsL := by simp [List.getD_eq_getElem?_getD, show i < turnsL.length from h]
  exact of_decide_eq_true (List.all_eq_true.1 this _ hm)
 ·rw [List.getD_eq_getElem?_getD, List.getElem?_eq_none (by simpa [turnsL] using h)]; decide
theorem Jlq {a : List Nat} (ha : SOk 25 a) : Pure Tryz.prog 109 [.agg (a.map uV).toArray].toArray (.agg ((zj a).map uV).toArray) := by
 refine Jk Tryz.func109 rfl rfl fun w => ?_; refine J8 ?_
 have hal := ha.1
 obtain ⟨tu, htu⟩ : ∃ t, t = turnsL := ⟨_, rfl⟩
 have htul : tu.length = 25 := by rw [htu]; rfl
 have htub : ∀ i, tu.getD i 0 < 9223372036854775808 := by rw [htu]; exact Jpv
 obtain ⟨nu, hnu⟩ : ∃ t, t = numsL := ⟨_, rfl⟩
 have hnuk : SOk 24 nu := by rw [hnu]; exact numsL_ok
 have hnul := hnuk.1
 have hPt : Pure Tryz.prog 176 [].toArray (.agg (tu.map iV).toArray) := by rw [htu]; exact Ju3
 have hPn : Pure Tryz.prog 177 [].toArray (.agg (nu.map uV).toArray) := by rw [hnu]; exact Jlp
 refine Jo 2 rfl ?_; refine JS (cs := (a.map uV).toArray) rfl rfl rfl rfl fun r1 => ?_; refine Qs (cs := (z25.map uV).toArray) rfl rfl rfl rfl fun r2 => ?_; refine JC 4 rfl ?_; refine LR rfl (Jb (xs := a.map uV) (n := 25) rfl (kn 1 rfl) rfl rfl (by rw [List.length_map, hal])) ?_; refine Qs (cs := (z25.map uV).toArray) rfl rfl rfl rfl fun r3 => ?_; refine Jc (k := 0) (n := 25) (ys := a.map uV) rfl rfl rfl rfl rfl (by rw [List.length_map, hal]) rfl (YD _) rfl ?_; refine JC 4 rfl ?_; refine Jl rfl rfl rfl (enters_of Tryz.func176 (by kernel_rfl) rfl) hPt ?_; refine Qs (cs := ((List.replicate 25 0).map iV).toArray) rfl rfl rfl rfl fun r4 => ?_; refine Jc (k := 0) (n := 25) (ys := tu.map iV) rfl rfl rfl rfl rfl (by rw [List.length_map, htul]) rfl (by simp [iV, Q6, List.all_map, List.all_eq_true]) rfl ?_; refine JC 5 rfl ?_; refine Jl rfl rfl rfl (enters_of Tryz.func177 (by kernel_rfl) rfl) hPn ?_; refine JI 4 rfl ?_; refine J1 (σ := Nat) (fun i => i ≤ 24) (fun i => [(2, .pointer (some ⟨r2, 0, none⟩)), (3, .pointer (some ⟨r3, 0, none⟩)), (4, .pointer (some ⟨r4, 0, none⟩)), (9, .agg (nu.map uV).toArray), (10, .int .i64 (i : Int))]) (fun i => [(r4, .cells (tu.map iV).toArray 208 (0, 0)), (r3, kO (jy a i)), (r2, .cells (z25.map uV).toArray 147 (0, 0)), (r1, .cells (a.map uV).toArray 147 (0, 0))]) (fun _ _ _ => True) (fun i => 24 - i) 0 (Nat.zero_le _) (lK rfl) (List.Sublist.refl _) (fun _ _ h => h) ?_; intro i hi; refine JP 6 rfl ?_; refine cD (fun g => ?_) fun g => ?_
 refine Jo 6 rfl ?_; refine LR rfl (vH (j := i) rfl rfl rfl rfl rfl rfl (by omega) (Jnc (Qe (by rw [hnul]; omega)))) ?_; refine JC 5 rfl ?_; refine LR rfl (Jb (xs := tu.map iV) (n := 25) rfl (kn 0 rfl) rfl rfl (by rw [List.length_map, htul])) ?_; refine Jck (k := 1) rfl rfl rfl (enters_of Tryz.func178 (by kernel_rfl) rfl) rfl (Ju2 (XX ha i) (n := nu.getD i 0) (hnuk.get i) htul htub r3) rfl ?_; refine JC 5 rfl ?_; refine Je (by omega) (by omega) ?_; refine Jx 2 rfl ?_; refine Jz ?_; exact Jv (i + 1) (by omega) (by omega) (lK rfl) (by rw [show jy a (i + 1) = vZ tu (jy a i) (nu.getD i 0) from by rw [htu, hnu]; rfl]; exact List.Sublist.refl _) (fun _ _ h => h)
 ·refine JP 6 rfl ?_
  have hi24 : 24 = i := by omega
  subst hi24; refine Jo 1 rfl ?_; refine LR rfl (Jb (xs := (jy a 24).map uV) (n := 25) rfl (kn 1 rfl) rfl rfl (by rw [List.length_map, (XX ha 24).1])) ?_; refine Jc (k := 2) (n := 25) (ys := (jy a 24).map uV) rfl rfl rfl rfl rfl (by rw [List.length_map, (XX ha 24).1]) rfl (YD _) rfl ?_; refine Jx 3 rfl ?_; refine Jf rfl rfl (.cons (Jq (vs := (jy a 24).map uV) rfl (kn 2 rfl) rfl (by rw [List.length_map, (XX ha 24).1]; rfl)) .nil) (fun w1 hs1 => ?_); exact ⟨rfl, hs1.keep⟩
theorem Jdy {l : List UInt8} {j : Nat} (h : j < l.length) : (l.map bV)[j]? = some (.int .u8 ((l.getD j 0).toNat : Nat)) := by
 simp [h, bV, List.getD_eq_getElem?_getD]
theorem J02 {n : Nat} (hn : n ≤ 1099511627776) : Pure Tryz.prog 107 [.int .i64 (n : Int)].toArray (.tuple #[.string (bs (qW n)), .int .i64 0]) := by
 refine Jk Tryz.func107 rfl rfl fun w => ?_; refine J8 ?_
 obtain ⟨k, hk⟩ : ∃ k, k = 135 - n % 136 := ⟨_, rfl⟩
 have hn1 : n % 136 < 136 := Nat.mod_lt _ (by decide)
 obtain ⟨x, hx⟩ : ∃ x : UInt8, x = (1 :: List.replicate k 0 : List UInt8).getD k 0 := ⟨_, rfl⟩
 have hxl := x.toNat_lt
 have hpl : (1 :: List.replicate k 0 : List UInt8).set k (UInt8.ofNat (x.toNat ||| 128)) = qW n := by
  unfold qW
  cases k with
  | zero => rw [if_pos (by omega), hx]; rfl
  | succ k =>
   rw [if_neg (by omega), hx]
   have e1 : (1 :: List.replicate (k + 1) 0 : List UInt8).getD (k + 1) 0 = 0 := by simp [List.getD_eq_getElem?_getD]
   rw [e1, show 134 - n % 136 = k from by omega]; simp only [List.set_cons_succ]
   congr 1
   rw [List.replicate_succ', List.set_append_right _ _ (by simp), List.length_replicate, Nat.sub_self]; rfl
 refine JP 17 rfl ?_; refine cD (fun g => ?_) fun g => ?_
 refine Kn 8 rfl ?_; refine Jf rfl rfl (.cons (Jj rfl) (.cons (Jj rfl) .nil)) (fun w1 hs1 => ?_)
 first | (exact ⟨rfl, hs1.keep⟩) | (exfalso; omega)
 ·refine Jo 6 rfl ?_; refine J2 (show _ = Value.int .i64 ((n % 136 : Nat) : Int) from congrArg (Value.int .i64) (by rw [Int.tmod_eq_emod_of_nonneg (by omega)]; omega)) ?_; refine Wo rfl ?_; refine J2 (show _ = Value.int .i64 ((k + 1 : Nat) : Int) from congrArg (Value.int .i64) (by rw [wrap_i64 (by omega) (by omega)]; omega)) ?_; refine WN (n := k + 1) (b := 1) rfl rfl rfl rfl rfl rfl rfl rfl rfl (by omega) (by omega) fun r2 => ?_; refine JC 6 rfl ?_; refine LR rfl (JH (j := 0) (m := 1) (off' := 0) rfl rfl rfl rfl rfl (by omega) rfl) ?_; refine Qa (k := 0) (off := 0) (xs := List.replicate (k + 1) (.int .u8 0)) (ys := (1 :: List.replicate k 0 : List UInt8).map bV) rfl rfl rfl rfl rfl rfl (by simp) (by rw [List.replicate_succ]; simp [bV]) rfl ?_; refine JC 6 rfl ?_; refine LR rfl (JU rfl rfl) ?_; refine Wo rfl ?_; refine J2 (show _ = Value.int .i64 ((k : Nat) : Int) from congrArg (Value.int .i64) (by rw [wrap_i64 (by omega) (by omega)]; omega)) ?_; refine LR rfl (JH (j := k) (m := 1) (off' := k) rfl rfl rfl rfl rfl (by omega) (by omega)) ?_; refine LR rfl (KG rfl (kn 0 rfl) rfl (Jdy (by simp))) ?_; rw [← hx]
  refine LR rfl (xH (op := .or) (b := ((x.toNat ||| 128 : Nat) : Int)) rfl rfl rfl hxl (by decide) rfl) ?_; refine J2 (show _ = bV (UInt8.ofNat (x.toNat ||| 128)) from Jhi (Nat.or_lt_two_pow (n := 8) hxl (by decide))) ?_; refine LR rfl (JH (j := k) (m := 1) (off' := k) rfl rfl rfl rfl rfl (by omega) (by omega)) ?_; refine Qa (k := 0) (off := k) (xs := (1 :: List.replicate k 0 : List UInt8).map bV) (ys := (qW n).map bV) rfl rfl rfl rfl rfl rfl (by simp) (by rw [← hpl, List.map_set]) rfl ?_; refine JC 5 rfl ?_; refine LR rfl (Q4 (b := qW n) (row := some (r2, k + 1, [])) (e := 5) (show _ = some (JE (qW n).length (some (r2, k + 1, []))) from by rw [jz, show 136 - n % 136 = k + 1 from by omega]; rfl) ⟨by simp, by simp [jz]; omega⟩ (fun p hp => .inl (by rw [List.mem_singleton.1 hp]; simp)) rfl rfl rfl) ?_; refine Jx 5 rfl ?_; refine Jf rfl rfl (.cons (Jj rfl) (.cons (Jj rfl) .nil)) (fun w1 hs1 => ?_)
  first | (exact ⟨rfl, hs1.keep⟩) | (exfalso; omega)
def chL (rb n cap : Nat) (p : Nat × Nat) : Jm := [(p.2, .cells #[.int .i64 136] 3 (0, 0)), (p.1, .cells #[.slice (some ⟨rb, 0, none⟩) n cap] 66 (0, 0))]
theorem Ju4 (rb n cap : Nat) : PureE (α := Nat × Nat) Tryz.prog 108 [.slice (some ⟨rb, 0, none⟩) n cap, .int .i64 136].toArray (fun p => .func (.func 175) #[] #[.pointer (some ⟨p.1, 0, none⟩), .pointer (some ⟨p.2, 0, none⟩)]) (chL rb n cap) := by
 refine JV Tryz.func108 rfl rfl fun w => ?_; refine J8 ?_; refine Jo 2 rfl ?_; refine LN rfl fun r1 => ?_; refine LN rfl fun r2 => ?_; refine Goc 10 [0] rfl rfl ?_; refine Jw rfl (fun h4 => ?_) (fun h4 => ?_)
 exact absurd h4 (by decide)
 ·try simp only [ZZ] at h4
  refine Jo 4 rfl ?_; refine LR rfl (JB rfl rfl) ?_; refine Jx 4 rfl ?_; refine pT rfl rfl rfl fun w1 hs1 => ?_; exact ⟨(r1, r2), rfl, hs1⟩
def Ji1 (rb j : Nat) : List Value := [.slice (some ⟨rb, 136 * j, none⟩) 136 136]
theorem Ju5 {rb n cap N : Nat} (hn : n = 136 * N) (hcap : n ≤ cap) (hlim : n ≤ 2199023255552) (p1 p2 : Nat) : jk Tryz.prog 175 [.pointer (some ⟨p1, 0, none⟩), .pointer (some ⟨p2, 0, none⟩)] (chL rb n cap (p1, p2)) 0 (nxN (Ji1 rb) N) (yD N) := by
  refine QY Tryz.func175 rfl rfl fun q xids w2 XI XF hY => ?_; refine J8 ?_; refine JP 6 rfl ?_; refine J1 (σ := Nat) (fun i => i ≤ N) (fun i => [(0, .func (.yield q) #[] #[]), (1, .pointer (some ⟨p1, 0, none⟩)), (2, .pointer (some ⟨p2, 0, none⟩)), (4, .int .i64 ((136 * i : Nat) : Int))]) (fun _ => []) (fun i => XI i) (fun i => N - i) 0 (Nat.zero_le _) (lK rfl) (List.nil_sublist _) (fun _ _ h => h) ?_; intro i hi; refine Jo 4 rfl ?_; refine LR rfl (Jh rfl (Jy (k := 1) rfl) rfl rfl) ?_; refine LR rfl (JU rfl rfl) ?_; refine JI 3 rfl ?_; refine cD (fun g => ?_) fun g => ?_
  · refine JP 5 rfl ?_; refine JK 7 (by kernel_rfl) (by kernel_rfl) ?_; refine Jd rfl rfl rfl (Jh rfl (Jy (k := 0) rfl) rfl rfl) ?_; refine Jd rfl rfl rfl (Jh rfl (Jy (k := 1) rfl) rfl rfl) ?_; refine Jd rfl rfl rfl (Ji rfl) ?_; refine Jd rfl rfl rfl (JO (kl := some (136 * i)) (kh := none) (km := none) (sz := 1) (m := 136 * i) (q := n) (z := cap) rfl rfl rfl ⟨_, rfl⟩ trivial trivial rfl rfl rfl (by omega) hcap (Nat.le_refl _) (fun _ => rfl) rfl) ?_; refine Jd rfl rfl rfl (JU rfl rfl) ?_; refine Jd rfl rfl rfl (Jnx (r := 136) rfl rfl (by rw [if_neg (by omega)])) ?_; refine Jd rfl rfl rfl (J9 rfl) ?_; refine JW ?_; refine JC 5 rfl ?_; refine LR rfl (Jh rfl (Jy (k := 1) rfl) rfl rfl) ?_; refine LS 4 [] rfl rfl ?_; refine J2 (show _ = Value.int .i64 ((136 * i + 136 : Nat) : Int) from congrArg (Value.int .i64) (by rw [wrap_i64 (by omega) (by omega)]; omega)) ?_; refine LS 3 [] rfl rfl ?_; refine J2 (show _ = Value.int .i64 ((136 * i + 136 : Nat) : Int) from congrArg (Value.int .i64) (by rw [wrap_i64 (by omega) (by omega)]; omega)) ?_
    refine LR rfl (JO (kl := some (136 * i)) (kh := some (136 * i + 136)) (km := some (136 * i + 136)) (sz := 1) (m := 136 * i) (q := 136 * i + 136) (z := 136 * i + 136) (off' := 136 * i) rfl rfl rfl ⟨_, rfl⟩ ⟨_, rfl⟩ ⟨_, rfl⟩ rfl rfl rfl (by omega) (Nat.le_refl _) (by omega) (fun h => by cases h) (by rw [if_neg (by omega)]; omega)) ?_; refine J2 (show _ = Value.slice (some ⟨rb, 136 * i, none⟩) 136 136 from by congr 1 <;> omega) ?_; refine Vy (XT := XI (i + 1)) (XF := XF) rfl rfl rfl rfl (hY i (Ji1 rb i) (i + 1) ⟨by omega, rfl, rfl⟩) ?_ ?_
    all_goals (
     refine Jx 2 rfl (Y7 1 rfl ?_); refine Jw rfl (fun g => ?_) (fun g => ?_)
     · try exact Bool.noConfusion g
       all_goals try simp only [ZZ] at g
       all_goals (
        refine Kn 5 rfl ?_; refine Jf rfl rfl .nil (fun w1 hs1 => ?_)
        obtain ⟨xs1, hx1⟩ := hs1.now
        exact ⟨⟨_, rfl⟩, hs1.keep, .inr ⟨_, hx1⟩⟩
        skip)
     · try exact Bool.noConfusion g
       all_goals try simp only [ZZ] at g
       all_goals (
        refine Jo 5 rfl ?_; refine LR rfl (Jh rfl (Jy (k := 0) rfl) rfl rfl) ?_; refine Wo rfl ?_; refine J2 (show _ = Value.int .i64 ((136 * (i + 1) : Nat) : Int) from congrArg (Value.int .i64) (by rw [wrap_i64 (by omega) (by omega)]; omega)) ?_; refine Jx 2 rfl ?_; refine Jz ?_; exact Jv (i + 1) (by omega) (by omega) (lK rfl) (List.nil_sublist _) (fun _ _ h => h)
        skip)
     skip)
  · refine Kn 4 rfl ?_; refine Kh rfl rfl .nil (fun w1 hs1 => ?_)
    obtain ⟨xs1, hx1⟩ := hs1.now
    exact ⟨⟨_, rfl⟩, hs1.keep, .inl ⟨i, _, (by show i = N; omega), hx1⟩⟩
theorem Jpw {a : List Nat} {i : Nat} (h : i < 32) : ((j0 a i ++ List.replicate (32 - i) 0).map bV).set i (bV (UInt8.ofNat (a.getD (i / 8) 0 / 2 ^ (i % 8 * 8) % 256))) = (j0 a (i + 1) ++ List.replicate (32 - (i + 1)) 0).map bV := by
 rw [← List.map_set, List.set_append_right _ _ (by rw [Ww]; exact Nat.le_refl _), Ww, Nat.sub_self, show 32 - i = (32 - (i + 1)) + 1 from by omega, List.replicate_succ, List.set_cons_zero, j0, List.append_assoc]
 rfl
theorem Ju6 {t : List UInt8} {k j i : Nat} (h : 136 * j + i < t.length) : (t.map bV ++ List.replicate k (Value.int .u8 0))[136 * j + i]? = some (.int .u8 (((t.drop (136 * j)).getD i 0).toNat : Nat)) := by
 rw [List.getElem?_append_left (by rw [List.length_map]; exact h), Jdy h]
 simp [List.getD_eq_getElem?_getD]
theorem wB {s : List UInt8} (hs : s.length ≤ 1099511627776) : Pure Tryz.prog 50 [.string (bs s)].toArray (.string (bs (W5 s))) := by
 refine Jk Tryz.func50 rfl rfl fun w => ?_; refine J8 ?_
 have hpl := jz s.length
 obtain ⟨t, ht⟩ : ∃ t, t = s ++ qW s.length := ⟨_, rfl⟩
 obtain ⟨N, hN⟩ : ∃ N, N = t.length / 136 := ⟨_, rfl⟩
 have htl : t.length = 136 * N := by have := Jfq s; rw [← ht] at this; omega
 have hlim : t.length ≤ 2199023255552 := by rw [ht, List.length_append]; omega
 have hkec : W5 s = j0 (Jcy t N) 32 := by unfold W5; rw [← ht, ← hN]
 refine Jo 8 rfl ?_; refine LR rfl (Qm rfl rfl) ?_; refine Jl rfl rfl rfl (enters_of Tryz.func107 (by kernel_rfl) rfl) (J02 hs) ?_; refine JC 9 rfl ?_; refine Qs (cs := (z25.map uV).toArray) rfl rfl rfl rfl fun r1 => ?_; refine JC 7 rfl ?_; refine LR rfl (QC rfl rfl (by omega)) ?_; rw [← ht]; refine X7 rfl rfl rfl rfl rfl rfl fun rb kb => ?_; refine JJ rfl rfl rfl (enters_of Tryz.func108 (by kernel_rfl) rfl) (Ju4 rb t.length (t.length + kb)) fun pp => ?_
 obtain ⟨p1, p2⟩ := pp
 change HL _ _ _ [(p2, _), (p1, _), (rb, _), (r1, _)] _ _ _ _; refine JI 3 rfl ?_; refine Vt [3, 0, 1, 2] (by decide) rfl ?_; refine Xh (τ := Unit) (fun j (s : List Nat) => s = Jcy t j ∧ j ≤ N) (fun s => [(r1, kO s)]) (fun _ _ => False) (fun _ => []) [(p2, _), (p1, _), (rb, _)] z25 rfl rfl (enters_of Tryz.func175 (by kernel_rfl) rfl) (Ju5 (rb := rb) (cap := t.length + kb) htl (by omega) hlim p1 p2) (by rintro _ _ _ ⟨_, rfl, _⟩; rfl) rfl (by simp [chL]) rfl ⟨rfl, Nat.zero_le _⟩ ?_ ?_ ?_
 rintro q Xr Xb w3 jj _ _ a ⟨hi, rfl, rfl⟩ ⟨hsa, -⟩ Kr hKr; refine yE ?_
 have hak : SOk 25 a := by rw [hsa]; exact xQ t jj
 obtain ⟨u, hu⟩ : ∃ u, u = t.drop (136 * jj) := ⟨_, rfl⟩
 have habk := xP u hak
 refine Kn 3 rfl ?_; refine hKr _ _ ?_; refine J8 ?_; clear hKr; refine Jo 5 rfl ?_; refine LR rfl (JU rfl rfl) ?_; refine JI 4 rfl ?_; refine J1 (σ := Nat) (fun i => i ≤ 136) (fun i => [(5, .pointer (some ⟨r1, 0, none⟩)), (23, .slice (some ⟨rb, 136 * jj, none⟩) 136 136), (24, .int .i64 136), (25, .int .i64 (i : Int))]) (fun i => [(r1, kO (abS a u i))]) (fun _ => Xb) (fun i => 136 - i) 0 (Nat.zero_le _) (lK rfl) (List.Sublist.refl _) (fun _ _ h => h) ?_; intro i hi; refine JP 6 rfl ?_; refine cD (fun g => ?_) fun g => ?_
 refine Jo 7 rfl ?_; refine LR rfl (JH (j := i) (m := 1) (off' := 136 * jj + i) rfl rfl rfl rfl rfl (by omega) (by omega)) ?_; refine LR rfl (KG rfl (Jy (k := 2) rfl) rfl (Ju6 (by omega))) ?_; rw [← hu]; refine JI 4 rfl ?_; refine JK 12 (by kernel_rfl) (by kernel_rfl) ?_; refine Jd rfl rfl rfl (Ji rfl) ?_; refine Jd rfl rfl rfl (J0 rfl rfl rfl) ?_; refine Ql (show _ = Value.int .i64 ((i / 8 : Nat) : Int) from congrArg (Value.int .i64) (by rw [QK (by omega) (by omega) (by omega)]; omega)) ?_; refine Jd rfl rfl rfl (JG (j := i / 8) (m := 1) (off' := i / 8) rfl rfl rfl rfl (by omega) (by omega) (by omega)) ?_; refine Jd rfl rfl rfl (KG rfl (kn 0 rfl) rfl (Qe (by rw [(habk i).1]; omega))) ?_; refine Jd rfl rfl rfl (Ji rfl) ?_; refine Jd rfl rfl rfl (J0 rfl rfl rfl) ?_; refine Ql (show _ = uV (u.getD i 0).toNat from congrArg (Value.int .u64) (wrap_u64 (z := ((u.getD i 0).toNat : Int)) (by omega) (by have := XS (u.getD i 0); omega))) ?_; refine Jd rfl rfl rfl (Ji rfl) ?_; refine Jd rfl rfl rfl (J0 rfl rfl rfl) ?_; refine Ql (show _ = Value.int .i64 ((i % 8 : Nat) : Int) from congrArg (Value.int .i64) (by rw [Int.tmod_eq_emod_of_nonneg (by omega)]; omega)) ?_; refine Jd rfl rfl rfl (J0 rfl rfl rfl) ?_; refine Ql (show _ = Value.int .i64 ((i % 8 * 8 : Nat) : Int) from congrArg (Value.int .i64) (by rw [wrap_i64 (by omega) (by omega)]; omega)) ?_; refine Jd rfl rfl rfl (Jb9 (n := i % 8 * 8) rfl rfl rfl (show _ ≤ 64 from by omega) (Jhq (Jcg (XS _) (by omega)))) ?_; refine Jd rfl rfl rfl (V0 (op := .xor) (b := (((abS a u i).getD (i / 8) 0 ^^^ (u.getD i 0).toNat * 2 ^ (i % 8 * 8) : Nat) : Int)) rfl rfl rfl ((habk i).get _) (Jcg (XS _) (by omega)) rfl) ?_; refine Jd rfl rfl rfl (JG (j := i / 8) (m := 1) (off' := i / 8) rfl rfl rfl rfl (by omega) (by omega) (by omega)) ?_; refine JW ?_; refine Qa (k := 0) (off := i / 8) (xs := (abS a u i).map uV) (ys := (abS a u (i + 1)).map uV) rfl rfl rfl rfl rfl rfl (by rw [List.length_map, (habk i).1]; omega) (Ws rfl) rfl ?_; refine JC 5 rfl ?_; refine Je (by omega) (by omega) ?_; refine Jx 2 rfl ?_; refine Jz ?_; exact Jv (i + 1) (by omega) (by omega) (lK rfl) (List.Sublist.refl _) (fun _ _ h => h)
 refine JP 5 rfl ?_
 have hi136 : 136 = i := by omega
 subst hi136; refine Jo 1 rfl ?_; refine LR rfl (Jb (xs := (abS a u 136).map uV) (n := 25) rfl (kn 0 rfl) rfl rfl (by rw [List.length_map, (habk 136).1])) ?_; refine Jl rfl rfl rfl (enters_of Tryz.func109 (by kernel_rfl) rfl) (Jlq (habk 136)) ?_; refine Jc (k := 0) (n := 25) (ys := (zj (abS a u 136)).map uV) rfl rfl rfl rfl rfl (by rw [List.length_map, (Jcx (habk 136)).1]) (by rw [List.size_toArray, List.length_map, (habk 136).1]) (YD _) rfl ?_; refine Jx 2 rfl ?_; refine Kf (Jcy t (jj + 1)) ⟨rfl, by omega⟩ ?_; rw [show Jcy t (jj + 1) = zj (abS a u 136) from by rw [hu, hsa]; rfl]; rfl
 rintro D jj a hfi ⟨hsa, -⟩
 have hjN : jj = N := hfi
 have hak : SOk 25 a := by rw [hsa]; exact xQ t jj
 have hkec2 : W5 s = j0 a 32 := by rw [hkec, hsa, hjN]
 refine gqo 4 rfl ?_; refine WN (n := 32) (b := 1) rfl rfl rfl rfl rfl rfl rfl rfl rfl (by decide) (by decide) fun r2 => ?_; refine JC 7 rfl ?_; refine LR rfl (JU rfl rfl) ?_; refine JI 4 rfl ?_; refine J1 (σ := Nat) (fun i => i ≤ 32) (fun i => [(5, .pointer (some ⟨r1, 0, none⟩)), (9, .slice (some ⟨r2, 0, none⟩) 32 32), (47, .int .i64 32), (48, .int .i64 (i : Int))]) (fun i => [(r2, .cells ((j0 a i ++ List.replicate (32 - i) 0).map bV).toArray 5 (0, 0)), (D, .deferred (some [])), (r1, kO a)]) (fun _ _ _ => True) (fun i => 32 - i) 0 (Nat.zero_le _) (lK rfl) (.cons_cons _ (.cons_cons _ (.cons_cons _ (List.nil_sublist _)))) (fun _ _ h => h) ?_; intro i hi; refine JP 6 rfl ?_; refine cD (fun g => ?_) fun g => ?_
 refine Jo 15 rfl ?_; refine J2 (show _ = Value.int .i64 ((i / 8 : Nat) : Int) from congrArg (Value.int .i64) (by rw [QK (by omega) (by omega) (by omega)]; omega)) ?_; refine LR rfl (JG (j := i / 8) (m := 1) (off' := i / 8) rfl rfl rfl rfl (by omega) (by omega) (by omega)) ?_; refine LR rfl (KG rfl (kn 2 rfl) rfl (Qe (by rw [hak.1]; omega))) ?_; refine LS 2 [] rfl rfl ?_; refine J2 (show _ = Value.int .i64 ((i % 8 : Nat) : Int) from congrArg (Value.int .i64) (by rw [Int.tmod_eq_emod_of_nonneg (by omega)]; omega)) ?_; refine Wo rfl ?_; refine J2 (show _ = Value.int .i64 ((i % 8 * 8 : Nat) : Int) from congrArg (Value.int .i64) (by rw [wrap_i64 (by omega) (by omega)]; omega)) ?_; refine LR rfl (vN (n := i % 8 * 8) rfl rfl rfl (show _ ≤ 64 from by omega) (by omega) (vk _ _)) ?_; refine Wo rfl (J2 (show _ = bV (UInt8.ofNat (a.getD (i / 8) 0 / 2 ^ (i % 8 * 8) % 256)) from vT _) (LR rfl (JH (j := i) (m := 1) (off' := i) rfl rfl rfl rfl rfl (by omega) (by omega)) ?_)); refine Qa (k := 0) (off := i) (xs := (j0 a i ++ List.replicate (32 - i) 0).map bV) (ys := (j0 a (i + 1) ++ List.replicate (32 - (i + 1)) 0).map bV) rfl rfl rfl rfl rfl rfl (by simp [Ww]; omega) (Jpw (by omega)) rfl ?_; refine JC 5 rfl ?_; refine Je (by omega) (by omega) ?_; refine Jx 2 rfl ?_; refine Jz ?_; exact Jv (i + 1) (by omega) (by omega) (lK rfl) (List.Sublist.refl _) (fun _ _ h => h)
 refine JP 6 rfl ?_
 have hi32 : 32 = i := by omega
 subst hi32; refine Jo 2 rfl ?_; refine LR rfl (Q4 (b := j0 a 32) (row := some (r2, 32, [])) (e := 5) (show _ = some (JE (j0 a 32).length (some (r2, 32, []))) from by rw [Ww]; rfl) ⟨by simp [Ww], by simp [Ww]⟩ (fun p hp => .inl (by rw [List.mem_singleton.1 hp]; simp)) rfl rfl rfl) ?_; refine Jx 4 rfl ?_; refine Kq (k := 1) rfl rfl ?_; refine pT rfl rfl rfl fun w1 hs1 => ?_; exact ⟨by rw [hkec2]; rfl, hs1.keep⟩
 ·exact fun _ _ _ h => h.elim
def tXY : Nat → Nat × Nat
 | 0 => (1, 0)
 | t + 1 => ((tXY t).2, (2 * (tXY t).1 + 3 * (tXY t).2) % 5)
def tX (t : Nat) : Nat := (tXY t).1
def tY (t : Nat) : Nat := (tXY t).2
def tS (a : List Nat) : Nat → List Nat
 | 0 => a
 | t + 1 => (tS a t).set (tX t + 5 * tY t) (Jct ((tS a t).getD (tX t + 5 * tY t) 0) ((t + 1) * (t + 2) / 2))
abbrev XO (r : Nat) : Value := .pointer (some ⟨r, 0, none⟩)
def Wl (l : List BS) : List Value := l.map J5
theorem Ju7 (l : List BS) : (Wl l).length = l.length := by unfold Wl; rw [List.length_map]
theorem Jao {l : List BS} {i : Nat} {s : BS} (h : l[i]? = some s) : (Wl l)[i]? = some (J5 s) := by unfold Wl; rw [List.getElem?_map, h]; rfl
theorem Ju8 (l : List BS) : (Wl l).all Q6 = true := by
 rw [List.all_eq_true]; intro x hx
 obtain ⟨b, _, rfl⟩ := List.mem_map.1 hx
 rfl
theorem Jgf (n : Nat) (row : QV) : (JE n row).cells = #[JE n row] := by cases row <;> rfl
theorem Jlr (n : Nat) (row : QV) : Q6 (JE n row) = true := by cases row <;> rfl
theorem Jgg {s : BS} (h : s.length ≤ 32) : Pure Tryz.prog 222 [J5 s].toArray (J5 (yH s)) := by
 unfold yH
 refine Jk Tryz.func222 rfl rfl fun w => ?_; refine J8 ?_; refine Jo 9 rfl ?_; refine LR rfl (Qm rfl rfl) ?_
 refine Wo rfl ?_; refine J2 (show _ = Value.int .i64 ((32 - s.length : Nat) : Int) from by rw [wrap_i64 (by omega) (by omega)]; congr 1 <;> omega) ?_; refine Jl rfl rfl rfl (enters_of Tryz.func189 (by kernel_rfl) rfl) (zx (n := 32 - s.length) (by omega)) ?_; rw [wx]; refine LR rfl (QC (a := s) (b := List.replicate (32 - s.length) 0) rfl rfl (by rw [List.length_replicate]; omega)) ?_; refine Jx 4 rfl ?_; refine pT rfl rfl rfl fun w1 hs1 => ?_; exact ⟨rfl, hs1.keep⟩
theorem Jpx {R : Jm} {l : List BS} {p : Pl} (hl : l.length ≤ 100000) (hs : Seg R l.length (Wl l) p) :
  PureT (α := { row : QV // rowOk 1 l.length (Wl l) row }) Tryz.prog 223 [KP l.length p].toArray (fun x => JE l.length x.1) [] (fun x => JR 9 (Wl l) x.1) R := by
 cases p with
 | none =>
  have h0 : l = [] := List.length_eq_zero_iff.1 hs
  subst h0; refine Jt Tryz.func223 rfl rfl fun w => ?_; refine J8 ?_; refine JP 12 rfl ?_; refine cD (fun g => ?_) fun g => ?_
  refine Kn 7 rfl ?_; refine pT rfl rfl rfl fun w1 hs1 => ?_; exact ⟨⟨none, rfl, rfl⟩, rfl, hs1⟩
  try exact Bool.noConfusion g
 | some q =>
  refine Jt Tryz.func223 rfl rfl fun w => ?_; refine J8 ?_; refine JP 12 rfl ?_; refine Jw rfl (fun g => ?_) (fun g => ?_)
  try exact Bool.noConfusion g
  ·refine Jo 4 rfl ?_; refine Xn rfl rfl rfl rfl fun r1 => ?_; refine Qx rfl (wl (k := 0) (b := 16) (sz := 1) rfl rfl rfl rfl rfl rfl hs oR rfl rfl rfl rfl rfl (by decide) (by rw [Ju7, Nat.mul_one]) (Ju8 l) (by omega) (by omega) fun row hrow => (Jx 4 rfl ?_)); refine pT rfl rfl rfl fun w1 hs1 => ?_; exact ⟨⟨row, hrow⟩, rfl, hs1.weakL (List.sublist_append_left _ _)⟩
theorem Jdz (n : Nat) (row : QV) : PureE (α := Nat) Tryz.prog 224 [JE n row].toArray (fun r => .func (.func 306) #[] #[XO r]) (fun r => [(r, .cells #[JE n row] 184 (0, 0))]) := by
 refine JV Tryz.func224 rfl rfl fun w => ?_; refine J8 ?_; refine Jo 2 rfl ?_; refine JS (cs := #[JE n row]) rfl rfl rfl (Jgf n row) fun r1 => ?_; refine JC 5 rfl ?_; refine LR rfl (JB rfl rfl) ?_; refine Jx 4 rfl ?_; refine pT rfl rfl rfl fun w1 hs1 => ?_; exact ⟨r1, rfl, hs1⟩
def Jxf (l : List BS) : Nat → List Value → Jm → Nat → Prop := fun i v B i' => 2 * i + 1 < l.length ∧ i' = i + 1 ∧ v = [J5 (l.getD (2 * i) []), J5 (l.getD (2 * i + 1) [])] ∧ B = []
theorem zA {l : List BS} : ∀ i v B i', Jxf l i v B i' → v.length = 2 := by rintro _ _ _ _ ⟨_, _, rfl, _⟩; rfl
theorem wC {l : List BS} {i : Nat} (h : i < l.length) : l[i]? = some (l.getD i []) := by rw [List.getD_eq_getElem?_getD, List.getElem?_eq_getElem h]; rfl
theorem Jd0 {l : List BS} {row : QV} (hl : l.length ≤ 1000000) (hrow : rowOk 1 l.length (Wl l) row) (r : Nat) :
    Jb2 Tryz.prog 306 [XO r] ((r, .cells #[JE l.length row] 184 (0, 0)) :: JR 9 (Wl l) row) 0 (Jxf l) (fun i => ¬ 2 * i + 1 < l.length) := by
  have hs : Seg ((r, .cells #[KP l.length (Vd row)] 184 (0, 0)) :: JR 9 (Wl l) row) l.length (Wl l) (Vd row) := (KJ hrow (by decide)).mono fun q hq => List.mem_cons_of_mem _ hq
  rw [← Xp _ _ hrow.zero]; refine YL Tryz.func306 rfl rfl fun q xids w2 XI XF hY => ?_; refine J8 ?_; refine JP 6 rfl ?_; refine J1 (σ := Nat) (fun i => 2 * i ≤ l.length + 1) (fun i => [(0, .func (.yield q) #[] #[]), (1, XO r), (3, .int .i64 ((2 * i : Nat) : Int))]) (fun _ => []) (fun i => XI i) (fun i => l.length + 1 - 2 * i) 0 (by omega) (lK rfl) (List.Sublist.refl _) (fun _ _ h => h) ?_; intro i hi1; refine Jo 5 rfl ?_; refine J2 (show _ = Value.int .i64 ((2 * i + 1 : Nat) : Int) from by rw [wrap_i64 (by omega) (by omega)]; congr 1 <;> omega) ?_; refine LR rfl (Jh rfl (Jy (k := 0) rfl) rfl rfl) ?_; refine LR rfl (J3 rfl hs rfl) ?_; refine JI 3 rfl ?_; refine cD (fun g => ?_) fun g => ?_
  · refine JP 5 rfl ?_; refine JK 10 (by kernel_rfl) (by kernel_rfl) ?_; refine Jd rfl rfl rfl (Ji rfl) ?_; refine Jd rfl rfl rfl (Jh rfl (Jy (k := 0) rfl) rfl rfl) ?_; refine Jd rfl rfl rfl (Ji rfl) ?_
    refine Jd rfl rfl rfl (Ju (j := (2 * i)) rfl hs rfl rfl rfl (by first | rfl | omega) (by omega)) ?_; refine Jd rfl rfl rfl (VY oR rfl hs (by omega) rfl (Jao (wC (i := 2 * i) (by omega)))) ?_; refine Jd rfl rfl rfl (Jh rfl (Jy (k := 0) rfl) rfl rfl) ?_; refine Jd rfl rfl rfl (Ji rfl) ?_
    refine Jd rfl rfl rfl (J0 rfl rfl rfl) ?_; refine Ql (show _ = Value.int .i64 ((2 * i + 1 : Nat) : Int) from by rw [wrap_i64 (by omega) (by omega)]; congr 1 <;> omega) ?_
    refine Jd rfl rfl rfl (Ju (j := (2 * i + 1)) rfl hs rfl rfl rfl (by first | rfl | omega) (by omega)) ?_; refine Jd rfl rfl rfl (VY oR rfl hs (by omega) rfl (Jao (wC (i := 2 * i + 1) (by omega)))) ?_; refine JW ?_; refine Zc (B := []) (XT := XI (i + 1)) (XF := XF) rfl rfl rfl rfl (hY i [J5 (l.getD (2 * i) []), J5 (l.getD (2 * i + 1) [])] [] (i + 1) ⟨by omega, rfl, rfl, rfl⟩) oN ?_ ?_
    all_goals (
     refine Jx 2 rfl (Y7 1 rfl ?_); refine Jw rfl (fun g => ?_) (fun g => ?_)
     · try exact Bool.noConfusion g
       all_goals try simp only [ZZ] at g
       all_goals (
        refine Kn 5 rfl ?_; refine Jf rfl rfl .nil (fun w1 hs1 => ?_)
        obtain ⟨xs1, hx1⟩ := hs1.now
        exact ⟨⟨_, rfl⟩, hs1.keep, .inr ⟨_, hx1⟩⟩
        skip)
     · try exact Bool.noConfusion g
       all_goals try simp only [ZZ] at g
       all_goals (
        refine Jo 6 rfl ?_; refine J2 (show _ = Value.int .i64 ((2 * (i + 1) : Nat) : Int) from by rw [wrap_i64 (by omega) (by omega)]; congr 1 <;> omega) ?_; refine Jx 2 rfl ?_; refine Jz ?_; exact Jv (i + 1) (by omega) (by omega) (lK rfl) (List.Sublist.refl _) (fun _ _ h => h)
        skip)
     skip)
  · refine Kn 4 rfl ?_; refine Kh rfl rfl .nil (fun w1 hs1 => ?_)
    obtain ⟨xs1, hx1⟩ := hs1.now
    exact ⟨⟨_, rfl⟩, hs1.keep, .inl ⟨i, _, by omega, hx1⟩⟩
end Go.Proofs.YtfaagelglpgpkaaGreatDoor
