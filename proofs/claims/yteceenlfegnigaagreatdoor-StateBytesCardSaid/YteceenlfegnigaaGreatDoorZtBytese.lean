import Derived.Test.YteceenlfegnigaaGreatDoorZtBytesd
set_option maxRecDepth 100000
namespace Go.Proofs.YteceenlfegnigaaGreatDoor
set_option linter.all false
open Go.SL Go.RowKit Go.Shelf
variable {af : Array Edge} {args : Array Operand} {at_ : Array TypeId} {cs : Array Value} {Y s : BS} {own rs : Bool} {Q : Exit → Act → World → Prop} {g : FuncId} {dp : Int} {L L' Lr R Rl : Jp} {xs : List (BS × BS)} {pa : List (Nat × Operand)} {a : List Nat} {caps sp vs : List Value} {B N b c cap d e i j m r rb rv sz : Nat} {fr : Nat × Nat} {f y : Operand} {gd : Option (Nat × Bool)} {dst : Option Nat} {pb pi : Pl} {P : Program} {ps : String} {T t x x0 : Ty} {q : Ty × Nat × Nat} {α : Type} {ty : TypeId} {z : Value} {v : Vl} {row : Vn} {w : World} {X : XP} {LL : α → Jp} {V : α → Value}
theorem Xs (h : i < Y.length) : (Y.map bV)[i]? = some (bV (Y.getD i 0)) := by
 rw [List.getElem?_map, List.getD_eq_getElem?_getD, List.getElem?_eq_getElem h]; rfl
def Zr (xs : BS) : Nat → BS
 | 0 => xs
 | i + 1 => ((Zr xs i).set i ((Zr xs i).getD (xs.length - 1 - i) 0)).set (xs.length - 1 - i) ((Zr xs i).getD i 0)
theorem YK (xs : BS) : ∀ i, (Zr xs i).length = xs.length
 | 0 => rfl
 | i + 1 => by rw [Zr, List.length_set, List.length_set, YK xs i]
theorem getD_set {b : UInt8} (hi : i < Y.length) : (Y.set i b).getD j 0 = if i = j then b else Y.getD j 0 := by
 rw [List.getD_eq_getElem?_getD, List.getElem?_set, List.getD_eq_getElem?_getD]
 split
 ·first | rfl | (rw [if_pos hi]; rfl) | simp [hi]
 ·rfl
theorem qC (xs : BS) : ∀ {i j : Nat}, 2 * i ≤ xs.length → j < xs.length → (Zr xs i).getD j 0 = if j < i ∨ xs.length - 1 - j < i then xs.getD (xs.length - 1 - j) 0 else xs.getD j 0
 | 0, j, _, hj => by rw [Zr, if_neg m0]
 | i + 1, j, hi, hj => by
  have h1 := YK xs i
  have ga := qC xs (i := i) (j := xs.length - 1 - i) m0 m0
  have gb := qC xs (i := i) (j := i) m0 m0
  have gj := qC xs (i := i) (j := j) m0 hj
  rw [if_neg m0] at ga gb; rw [Zr, getD_set (by rw [List.length_set, h1]; omega), getD_set (by rw [h1]; omega), ga, gb, gj]
  by_cases e1 : xs.length - 1 - i = j
  ·rw [if_pos e1, if_pos m0]
   congr 1; omega
  ·rw [if_neg e1]
   by_cases e2 : i = j
   ·rw [if_pos e2, if_pos m0]
    congr 1; omega
   ·rw [if_neg e2]
    by_cases e3 : j < i ∨ xs.length - 1 - j < i
    ·rw [if_pos e3, if_pos m0]
    ·rw [if_neg e3, if_neg m0]
theorem Jfe {xs : BS} (h1 : 2 * i ≤ xs.length) (h2 : xs.length ≤ 2 * i + 1) : Zr xs i = xs.reverse := by
 apply List.ext_getElem?
 intro j
 by_cases hj : j < xs.length
 ·have e1 : (Zr xs i)[j]? = some ((Zr xs i).getD j 0) := by rw [List.getD_eq_getElem?_getD, List.getElem?_eq_getElem (by rw [YK]; exact hj)]; rfl
  rw [e1, qC xs h1 hj, List.getElem?_reverse hj]
  have e2 : xs[xs.length - 1 - j]? = some (xs.getD (xs.length - 1 - j) 0) := by rw [List.getD_eq_getElem?_getD, List.getElem?_eq_getElem m0]; rfl
  rw [e2]
  by_cases e3 : j < i ∨ xs.length - 1 - j < i
  ·rw [if_pos e3]
  ·rw [if_neg e3, show xs.length - 1 - j = j by omega]
 ·rw [List.getElem?_eq_none (by rw [YK]; omega), List.getElem?_eq_none (by rw [List.length_reverse]; omega)]
theorem YL {b : UInt8} (h : i < Y.length) : (Y.map bV ++ sp).toArray.setIfInBounds i (bV b) = ((Y.set i b).map bV ++ sp).toArray := by
 rw [List.setIfInBounds_toArray, List.set_append_left _ _ M6, List.map_set]
section
variable {c : Cx} {l : Kx} {L E : Jp} {X : XP} {Q : Exit → Act → World → Prop} {d : List Deferred}
variable {ops : Array Oper} {rest : List Nat} {i k : Nat} {v : Value} {o : Oper} {tb : qp} {S : Jp} {T : Jp → Act → Prop}
theorem j5 {t : TypeId} {x : Operand} {q off : Nat} {cs' : Array Value} {e : TypeId} {E' : Jp} (hko : WR ops.toList k = some ⟨none, .store t x y, ty, ps, af, gd⟩) (hg : Kv l ops ⟨none, .store t x y, ty, ps, af, gd⟩ = some true) (hA : tb k = .turn)
  (hx : Kq l x = some (.pointer (some ⟨r, off, none⟩))) (hk : E[q]? = some (r, .cells cs e fr)) (hy : Kq l y = some v) (ht : KZ c.P t = some 1) (ho : Va v = true) (hfr : frB fr off = false) (hc : (cs[off]?).isSome = true)
  (hcs : cs.setIfInBounds off v = cs') (hL : E.set q (r, .cells cs' e fr) = E') (hS : SubS S E')
  (h : HB c d l E' X S ops tb rest T) : HB c d l E X S ops tb (k :: rest) T :=
 yF hko hg rfl hA (fun a w hf hs => ⟨w.setCell ⟨r, off, none⟩ v, by
  simp only [execOp]; rw [hf.eval hx, hf.eval hy]
  obtain ⟨old, hold⟩ := Option.isSome_iff_exists.1 hc
  have h1 := run_store c.P w ⟨r, off, none⟩ v .plain (by rw [Ym]; exact ho)
  rw [W5 (hs.get hk), hold, qU (hs.get hk) hfr] at h1
  have hcell : v.cells = #[v] := by cases v <;> first | rfl | cases ho
  simp [Instr.storeAt, Instr.sureAddr, Sem.run_bind, Result.andThen, storeVar, VN ht, hcell, storeCells, Addr.add, h1], by
  subst hL; subst hcs
  exact hs.set hk (Keep.setCell r off v) (Go.SL.heap_setCell_same v (hs.get hk))⟩) hS h
end
section
variable {c : Cx} {l : Kx} {L : Jp} {X : XP} {d : List Deferred} {i : Nat} {ps : String} {af : Array Edge} {gd : Option (Nat × Bool)} {ty : TypeId}
theorem wg {x : Operand} {b : List UInt8} {n : Nat} {e src dst : TypeId} (hx : Kq l x = some (.slice (some ⟨r, 0, none⟩) n cap)) (hk : known c L r (.cells cs e fr)) (hn : n = b.length) (ht : cs.toList.take b.length = b.map bV)
  (hs : Kw c.P src = some e) (he : c.P.underlying e = some (.int .u8)) (hd : yr c.P dst = true) :
  JC c d l L X ⟨some i, .convert src dst x, ty, ps, af, gd⟩ (.string (bs b)) := fun a' w hf hst => by
 subst hn; simp only [execOp]; rw [hf.eval hx]
 have hget := hst.known hk
 have hl := vN (P := c.P) (xs := b.map bV) hget (by rw [List.length_map]; exact ht)
 rw [List.length_map] at hl; simp only [Sem.run_bind]; rw [run_convert_bytes_string w src dst e _ _ _ (Kt hs) he (V4 hd)]; rw [run_bytesToString w _ _ _ (b.map fun x => ((x.toNat : Nat) : Int)) MI]
 have := jt b []
 rw [show (bs [] : ByteArray) = ByteArray.empty from rfl] at this; rw [this]
 rfl
end
theorem Jm0 {xs : BS} (hfr : ∀ q, q < xs.length → frB fr q = false) (hc : xs.length ≤ cap) (hx : xs.length ≤ 9223372036854775807) : PureT (α := Unit) Tryz.prog 170 [.slice (some ⟨r, 0, none⟩) xs.length cap].toArray (fun _ => .tuple #[])
  [(r, .cells (xs.map bV ++ sp).toArray 5 fr)] (fun _ => [(r, .cells (xs.reverse.map bV ++ sp).toArray 5 fr)]) [] := by
 refine JE Tryz.func170 rfl rfl fun w => JN (GN ?_); refine gg ?_; refine Vf rfl (Jj (show _ = Value.int .i64 ((xs.length : Int) - 1) from congrArg (Value.int .i64) (wrap_i64 m0 m0)) (JP 5 rfl ?_)); refine Js (σ := Nat) (fun i => 2 * i ≤ xs.length + 1 ∧ 2 * i ≤ xs.length) (fun i => [(0, .slice (some ⟨r, 0, none⟩) xs.length cap), (2, .int .i64 (i : Int)), (3, .int .i64 ((xs.length : Int) - 1 - (i : Int)))]) (fun i => [(r, .cells ((Zr xs i).map bV ++ sp).toArray 5 fr)]) (fun _ _ _ => True) (fun i => xs.length - i) 0 ⟨by omega, by omega⟩ (.cons rfl (.cons rfl (.cons MF .nil))) (List.Sublist.refl _) (fun _ _ h => h) ?_; rintro i ⟨hi1, hi2⟩; refine J9 8 rfl (cD (fun g => ?_) fun g => ?_)
 ·refine J9 4 rfl ?_
  have hii : i + 1 ≤ xs.length - i := by omega
  obtain ⟨Y, hY⟩ : ∃ Y, Y = Zr xs i := ⟨_, rfl⟩
  have hYl : Y.length = xs.length := by rw [hY]; exact YK xs i
  refine NX ?_; refine Jk (k := 6) rfl rfl rfl rfl rfl (fun _ _ => Kg (j := (xs.length - 1 - i)) (m := 1) (off' := (xs.length - 1 - i)) rfl rfl rfl rfl m0 m0 m0) ?_; refine JY (k := 7) rfl rfl rfl rfl rfl (Jd rfl (kn 0 rfl) rfl (jo (xs := Y.map bV) (v := bV (Y.getD (xs.length - 1 - i) 0)) (Xs m0))) ?_; refine kJ ?_; refine j5 (k := 13) (q := 0) (cs' := ((Y.set i (Y.getD (xs.length - 1 - i) 0)).map bV ++ sp).toArray) rfl rfl rfl rfl rfl rfl rfl rfl (hfr _ m0) nR (YL m0) rfl (fun _ h => nomatch h) ?_; refine Jk (k := 14) rfl rfl rfl rfl rfl (fun _ _ => Kg (j := (xs.length - 1 - i)) (m := 1) (off' := (xs.length - 1 - i)) rfl rfl rfl rfl m0 m0 m0) ?_; refine j5 (k := 15) (q := 0) (cs' := ((Zr xs (i + 1)).map bV ++ sp).toArray) rfl rfl rfl rfl rfl rfl rfl rfl (hfr _ m0) nR MT rfl (fun _ h => nomatch h) ?_; refine Kc ?_; refine G1 ?_; refine Jh m0 m0 ?_; refine JK 2 rfl ?_; refine Jj (show _ = Value.int .i64 ((xs.length : Int) - 1 - ((i + 1 : Nat) : Int)) from by rw [wrap_i64 m0 m0]; congr 1 <;> omega) ?_; exact Dg
 ·refine Ga fun w1 hs1 => ?_; exact ⟨(), rfl, by rw [← Jfe (xs := xs) (i := i) m0 m0]; exact hs1⟩
theorem J1h (w : List Nat) : wp w 32 = (Yz w 32).reverse := by unfold wp; rw [List.take_of_length_le MW]
theorem Jff (t : Ty) (hv : v.In R) : Pure Tryz.prog 125 [t.val, v.val].toArray (Jy (wp v.num 32)) := by
 obtain ⟨k, n, p, ins⟩ := t
 cases hv with
 | @mk a b c d bits pb items pi pick ha hb hc hd hlb hsb hl hs hp hi =>
 have hw : WOk [a, b, c, d] := ⟨rfl, fun x hx => by simp at hx; rcases hx with rfl | rfl | rfl | rfl <;> assumption⟩
 show Pure _ _ _ (Jy (wp [a, b, c, d] 32))
 rw [J1h]
 have hfx := Zo hw
 have hlen := QC [a, b, c, d] 32
 generalize Yz [a, b, c, d] 32 = B at hfx hlen
 refine Jz Tryz.func125 rfl rfl fun w => NA fun r1 r2 => ?_; refine XO 7 [0] rfl rfl (J2 rfl rfl rfl Jjx hfx (Yp rfl rfl rfl rfl rfl rfl fun rb kb => G1 ?_)); refine VA (T := [(rb, .cells (B.map bV ++ List.replicate kb (Value.int .u8 0)).toArray 5 (B.length + kb, B.length + kb + 1))]) (L0 := [(r2, _), (r1, _)]) (Rl := []) (List.Perm.refl _) rfl rfl rfl (enters_of Tryz.func170 m5 rfl) (Jm0 (fun q hq => by simp [frB, Nat.blt, Nat.ble]; omega) m0 m0) oN fun u => ?_; change HL _ _ _ ((rb, _) :: (r2, _) :: (r1, _) :: []) _ _ _ _; refine kB ?_; refine LR rfl (wg (b := B.reverse) rfl (kn 0 rfl) (by rw [List.length_reverse]) Mb rfl rfl rfl) ?_; exact NS
def rootM : Array MapEntry := #[⟨.int .i64 1, .func (.func 125) #[] #[], 0⟩, ⟨.int .i64 2, .func (.func 125) #[] #[], 1⟩, ⟨.int .i64 3, .func (.func 126) #[] #[], 2⟩, ⟨.int .i64 4, .func (.func 128) #[] #[], 3⟩,
 ⟨.int .i64 5, .func (.func 130) #[] #[], 4⟩, ⟨.int .i64 6, .func (.func 132) #[] #[], 5⟩, ⟨.int .i64 7, .func (.func 133) #[] #[], 6⟩, ⟨.int .i64 8, .func (.func 136) #[] #[], 7⟩]
theorem Jm1 : ∀ e ∈ rootM.toList, isI e.key := by
 intro e he
 unfold rootM at he
 simp at he
 rcases he with rfl | rfl | rfl | rfl | rfl | rfl | rfl | rfl <;> exact ⟨_, rfl⟩
theorem Jfg {a b : Bool} (h : a = b) : Value.bool a = Value.bool b := by rw [h]
abbrev pB (own : Bool) (r : Nat) : Value := .pointer (if own then some ⟨r, 0, none⟩ else none)
def xz (r : Nat) (s : BS) (row : Vn) (own : Bool) : Nat × Obj := (r, .cells #[pB own r, J3 s.length row] 127 (0, 0))
def X5 (r : Nat) (s : BS) (row : Vn) (own : Bool) : Jp := xz r s row own :: JJ 5 (s.map bV) row
def bOk (s : BS) (row : Vn) : Prop := rowOk 1 s.length (s.map bV) row ∧ (s = [] → row = none)
theorem Jfh (r : Nat) (own : Bool) (v : Value) : PureT (α := Unit) Tryz.prog 156 [Vk r].toArray (fun _ => .tuple #[]) [(r, .cells #[pB own r, v] 127 (0, 0))] (fun _ => [(r, .cells #[pB true r, v] 127 (0, 0))]) [] := by
 cases own with
 | false =>
  refine JE Tryz.func156 rfl rfl fun w => JN (gH ?_); refine LR rfl (Jd (v := .pointer none) rfl (kn 0 rfl) rfl rfl) (LR rfl (Jpt rfl rfl rfl rfl) (HY ?_)); refine cD (fun g => ?_) fun g => ?_
  refine GN ?_; refine LR rfl (Jhm (sz := 2) rfl (kn 0 rfl) rfl rfl rfl m7 mh) (LR rfl (Jhn rfl rfl (Tryz.func192) m5 rfl rfl rfl) (LR rfl (Jby rfl (kn 0 rfl) rfl rfl rfl m5) (JK 2 rfl (Ky (k := 0) (cs' := #[Vk r, v]) rfl rfl rfl rfl rfl rfl rfl rfl rfl rfl (J0 1 rfl ?_))))); exact EC
  try exact Bool.noConfusion g
 | true =>
  refine JE Tryz.func156 rfl rfl fun w => JN (gH ?_); refine LR rfl (Jd (v := Vk r) rfl (kn 0 rfl) rfl rfl) (LR rfl (Jpu rfl rfl rfl rfl) (HY ?_)); refine JI rfl (fun g => ?_) (fun g => ?_)
  try exact Bool.noConfusion g
  ·refine gH ?_; refine LR rfl (Jd (v := Vk r) rfl (kn 0 rfl) rfl rfl) (Vb rfl (LR rfl (Jps rfl rfl rfl rfl) (JP 2 rfl ?_))); refine JI rfl (fun g => ?_) (fun g => ?_)
   try exact Bool.noConfusion g
   ·try simp only [ZZ] at g
    refine KQ 1 rfl ?_; exact EC
theorem Jcg (r : Nat) (s : BS) (row : Vn) (own : Bool) : PureT (α := Unit) Tryz.prog 156 [Vk r].toArray (fun _ => .tuple #[]) [xz r s row own] (fun _ => [xz r s row true]) [] := Jfh r own _
theorem wP  {s2 : BS} (hb : bOk s row) (hl : s.length + s2.length ≤ 1000000) :
  PureT (α := { x : Vn // bOk (s ++ s2) x }) Tryz.prog 101 [Vk r, Jy s2].toArray (fun _ => .tuple #[.int .i64 (s2.length : Int), .nilIface]) (X5 r s row own) (fun x => X5 r (s ++ s2) x.1 true) [] := by
 refine JE Tryz.func101 rfl rfl fun w => JN ?_
 unfold X5
 refine Jt 9 rfl (VA (T := [xz r s row own]) (L0 := JJ 5 (s.map bV) row) (Rl := []) (List.Perm.refl _) rfl rfl rfl (enters_of Tryz.func156 m5 rfl) (Jcg r s row own) oN fun u => ?_); change HL _ _ _ (xz r s row true :: JJ 5 (s.map bV) row) _ _ _ _; refine JK 8 rfl (LR rfl (Jd (v := J3 s.length row) rfl (kn 0 rfl) rfl rfl) (Vb rfl (Jhl (e := 5) (s := s) (s2 := s2) (row := row) (L0 := [xz r s row true]) (List.perm_append_comm (l₁ := [_])) rfl rfl rfl rfl rfl rfl rfl rfl rfl hb.1 hb.2 m0 fun row2 h1 h2 => (KR List.perm_append_comm ?_)))); change HL _ _ _ ((r, .cells #[pB true r, J3 s.length row] 127 (0, 0)) :: JJ 5 ((s ++ s2).map bV) row2) _ _ _ _; refine JK 2 rfl (Ky (k := 0) (cs' := #[pB true r, J3 (s ++ s2).length row2]) rfl rfl rfl rfl rfl (Jmz _ _) rfl rfl rfl rfl (kB ?_)); refine kG ?_; refine gt ?_; refine Nr fun w1 hs1 => ?_; exact ⟨⟨row2, h1, h2⟩, rfl, hs1⟩
theorem Jzn (r : Nat) (own : Bool) (hb : bOk s row) : PureR Tryz.prog 102 [Vk r].toArray (.int .i64 (s.length : Int)) [xz r s row own] := by
 refine Ja Tryz.func102 rfl rfl fun w => JN (Jt 10 rfl (LR rfl (Jd (v := J3 s.length row) rfl (JG (k := 0) rfl) rfl rfl) (LR rfl (W7 rfl hb.1.zero rfl) ?_))); exact NS
theorem Jib (hb : bOk s row) (hl : s.length ≤ 1000000) :
  PureT (α := Unit) Tryz.prog 103 [Vk r].toArray (fun _ => Jy s) (X5 r s row own) (fun _ => []) [] := by
 have hcap : ∀ q cap sp, row = some (q, cap, sp) → cap ≠ 0 := by
  rintro q cap sp rfl h0
  obtain ⟨⟨h1, h2⟩, h3⟩ := hb
  have h4 : s.length = 0 := by omega
  have := h3 (List.eq_nil_of_length_eq_zero h4)
  cases this
 refine JE Tryz.func103 rfl rfl fun w => JN ?_
 unfold X5
 refine NK ?_
 refine JD [] [(0, .pure), (1, .pure), (2, .pure), (4, .pure), (5, .pure), (6, .pure), (7, .pure), (9, .pure)] 10 [0, 1, 2, 3, 4, 5, 6, 7, 8, 9] m5 m5 m6 (GJ ?_); refine Jk (k := 1) rfl rfl rfl rfl rfl (fun _ hS => (Ju rfl rfl rfl)) ?_
 refine Gi ?_; refine JY (k := 3) rfl rfl rfl rfl rfl (Jd (v := J3 s.length row) rfl (kn 0 rfl) rfl rfl) (Jk (k := 4) rfl rfl rfl rfl rfl (fun _ _ => Jbx rfl hcap) (Jk (k := 5) rfl rfl rfl rfl rfl (fun _ hS => (Jg rfl)) (Jk (k := 6) rfl rfl rfl rfl rfl (fun _ hS => (Ju rfl rfl rfl)) ?_)))
 refine Gj ?_; refine JY (k := 8) rfl rfl rfl rfl rfl (Jd (v := J3 s.length row) rfl (kn 0 rfl) rfl rfl) (Jk (k := 9) rfl rfl rfl rfl rfl (fun _ _ => W7 rfl hb.1.zero rfl) (Kc (wt (e := 5) (s := s) (row := row) (L0 := [xz r s row own]) (List.perm_append_comm (l₁ := [_])) rfl rfl rfl rfl rfl rfl hb.1 hb.2 m0 (Ge ?_)))); refine ke fun w1 hs1 => ?_; exact ⟨(), rfl, hs1.weakL (List.nil_sublist _)⟩
theorem Zs (x : Ty) : Xq x = if JL x then JV x else 4 := rfl
theorem wQ (ht : t.In R) : PureR Tryz.prog 165 [t.val].toArray (.tuple #[.int .i64 (Xq t), .bool (JL t)]) R := by
 have h1 := Jb9 ht
 have h2 := Jhy ht
 unfold YD at h2
 rw [Zs]
 generalize JL t = b at h1 h2 ⊢
 generalize JV t = z at h2 ⊢
 obtain ⟨k, n, p, ins⟩ := t
 refine Ja Tryz.func165 rfl rfl fun w => Nl fun r1 => ?_; refine Gq ?_; refine Nu ?_; refine Jc rfl rfl rfl Jqi h1 oR (HY ?_); refine cD (fun g => ?_) fun g => ?_
 refine kj ?_; refine Nu ?_; refine Jc rfl rfl rfl Jqj h2 oR (J0 6 rfl (NL fun w1 hs1 => ?_))
 simp_all [J6]
 ·refine KQ 9 rfl (NL fun w1 hs1 => ?_)
  simp_all [J6]
theorem Jx9 {k n : Int} {p : Pl} {ins : List Ty} {pick : Int} (ht : Ty.In R (.mk k n p ins)) (hp8 : k = 8 → 0 ≤ pick) (hx : VF k pick i < ins.length) : PureR Tryz.prog 231 [Ty.val (.mk k n p ins), .int .i64 pick, .int .i64 (i : Int)].toArray (JF k pick ins i).val R := by
 have hty := KC hx
 cases ht with
 | @mk k n p ins hk hn hlt hst hit =>
 obtain ⟨X, hX⟩ : ∃ X, X = JF k pick ins i := ⟨_, rfl⟩
 rw [← hX] at hty ⊢; refine Ja Tryz.func231 rfl rfl fun w => NA fun r1 r2 => ?_; refine Goc 16 [1] rfl rfl (cD (fun g => ?_) fun g => ?_)
 refine QZ 5 [1] rfl rfl (LR rfl (Jf (j := VF k pick i) rfl hst rfl rfl rfl (by unfold VF; rw [if_pos m9]) hx) ?_); exact gE
 ·refine NK ?_; refine cD (fun g => ?_) fun g => ?_
  refine QZ 5 [1] rfl rfl (LR rfl (Jf (j := VF k pick i) rfl hst rfl rfl rfl (by unfold VF; rw [if_neg m9, if_pos m9]; have := hp8 m9; omega) hx) ?_); exact gE
  ·refine QZ 7 [1] rfl rfl (LR rfl (Jf (j := VF k pick i) rfl hst rfl rfl rfl (by unfold VF; rw [if_neg m9, if_neg m9]; rfl) hx) (LR rfl (Ko oR rfl hst hty.1 rfl rfl) (Jv (k := 0) (n := 3) (ys := X.cells) rfl rfl rfl rfl rfl X.len rfl X.one rfl (Ha ?_)))); refine Jn rfl rfl (.cons (J4 (vs := X.cells) rfl (kn 0 rfl) rfl (by rw [X.len]; rfl)) .nil) (fun w1 hs1 => ?_); exact Ns
def KF (k : Int) (ins : List Ty) (m : Nat) : List Ty := (List.range m).map fun i => JF k 0 ins i
theorem VU : ∀ a b : List Ty, Kp (a ++ b) = Kp a + Kp b
 | [], b => by rw [List.nil_append, Kp, Int.zero_add]
 | x :: xs, b => by rw [List.cons_append, Kp, Kp, VU xs b, Int.add_assoc]
theorem vr (k : Int) (ins : List Ty) (i : Nat) : Kp (KF k ins (i + 1)) = Kp (KF k ins i) + Xq (JF k 0 ins i) := by
 unfold KF
 rw [List.range_succ, List.map_append, VU, List.map_cons, List.map_nil, Kp, Kp, Int.add_zero]
theorem qD (x : Ty) : 1 ≤ Xq x ∧ Xq x ≤ 2251799813685248 := by
 unfold Xq
 split
 ·rename_i h
  obtain ⟨h1, h2⟩ := W0.1 h
  have h3 := jI x 0 (Int.le_refl _) h1 h2
  have h4 := Jbf (show (5 - (0 : Int)).toNat ≤ 5 by decide)
  omega
 ·omega
theorem Zt : ∀ l : List Ty, 0 ≤ Kp l ∧ Kp l ≤ 2251799813685248 * l.length
 | [] => by rw [Kp]; simp
 | x :: xs => by
  have h1 := qD x
  have h2 := Zt xs
  rw [Kp, List.length_cons]; omega
theorem WF (k : Int) (ins : List Ty) (m : Nat) : (KF k ins m).length = m := by unfold KF; rw [List.length_map, List.length_range]
def jP (r : Nat) (m : Int) : Nat × Obj := (r, .cells #[.int .i64 m] 3 (0, 0))
theorem Jch (t : Ty) (m : Int) : PureE (α := Nat × Nat) Tryz.prog 164 [t.val, .int .i64 m].toArray (fun p => .func (.func 230) #[] #[Vk p.2, Vk p.1]) (fun p => [jP p.2 m, VM p.1 t]) := by
 obtain ⟨k, n, p, ins⟩ := t
 refine VP Tryz.func164 rfl rfl fun w => Df fun r1 r2 => ?_; exact kN
def itV (k : Int) (ins : List Ty) (i : Nat) : List Value := [.int .i64 (i : Int), (JF k 0 ins i).val]
theorem Jkd {k n : Int} {p : Pl} {ins : List Ty} (ht : Ty.In R (.mk k n p ins)) (hm : m ≤ 1000000) (hx : ∀ i, i < m → VF k 0 i < ins.length) (rt ri : Nat) :
    Ja2 Tryz.prog 230 [Vk ri, Vk rt] (jP ri m :: VM rt (.mk k n p ins) :: R) 0 (nxN (itV k ins) m) (Jgq m) := by
  refine WW Tryz.func230 rfl rfl fun q xids w2 XI XF hY => kY ?_; intro i hi; refine NK ?_; refine cD (fun g => ?_) fun g => ?_
  · refine J9 11 rfl ?_
    have hil : i < m := by omega
    refine gF ?_; refine Xi (XT := XI (i + 1)) (XF := XF) rfl rfl rfl rfl (hY i (itV k ins i) (i + 1) ⟨hil, rfl, rfl⟩) ?_ ?_
    all_goals (
     refine HV ?_; refine JI rfl (fun g => ?_) (fun g => ?_)
     · try exact Bool.noConfusion g
       all_goals try simp only [ZZ] at g
       all_goals (
        exact Nv
        skip)
     · try exact Bool.noConfusion g
       all_goals try simp only [ZZ] at g
       all_goals (
        refine gH ?_; refine ND ?_; exact NC
        skip)
     skip)
  · refine Ga fun w1 hs1 => ?_
    obtain ⟨xs1, hx1⟩ := hs1.now
    exact ⟨⟨_, rfl⟩, hs1.keep, .inl ⟨i, _, (by show i = m; omega), hx1⟩⟩
theorem Jfi {k n : Int} {p : Pl} {ins : List Ty} (ht : Ty.In R (.mk k n p ins)) (hm : m ≤ 600) (hx : ∀ i, i < m → VF k 0 i < ins.length) : PureR Tryz.prog 163 [Ty.val (.mk k n p ins), .int .i64 (m : Int)].toArray (.int .i64 (Kp (KF k ins m))) R := by
 have hti := fun i h => ht.sub _ (KC (hx i h)).2
 refine Ja Tryz.func163 rfl rfl fun w => Nl fun r1 => ?_; refine kB ?_; refine LN rfl fun r2 => ?_
 refine kq ?_; refine XO 7 [1] rfl rfl (VD rfl rfl rfl Jqk (Jch (.mk k n p ins) (m : Int)) fun pp => ?_)
 obtain ⟨ra, rb⟩ := pp
 change HL _ _ _ (jP rb m :: VM ra (.mk k n p ins) :: _) _ _ _ _; refine kU ?_; refine YZ [2, 0, 1, 3] (L' := [_, _, _, _]) m7 rfl ?_
 refine XB (τ := Unit) (fun i (s : Nat) => i ≤ m ∧ i = s) (fun s => [(r2, .cells #[.int .i64 (Kp (KF k ins s))] 3 (0, 0))]) (fun _ _ => False) (fun _ => []) [jP rb m, VM ra (.mk k n p ins), _] 0 rfl rfl Jqq (Jkd ht m0 hx ra rb) mI rfl (fun q hq => by rcases List.mem_cons.1 hq with rfl | hq; exact .inl mh; rcases List.mem_cons.1 hq with rfl | hq; exact .inl mh; exact .inr hq) rfl ⟨Nat.zero_le _, rfl⟩ ?_ ?_ ?_
 rintro q Xr Xb w3 i _ _ s ⟨hii, rfl, rfl⟩ ⟨him, rfl⟩ Kr hKr; refine inR ?_
 have hti1 := hti i hii
 have hb1 := qD (JF k 0 ins i)
 have hb2 := Zt (KF k ins i)
 rw [WF] at hb2
 unfold itV
 refine Dq ?_; refine LN rfl fun r3 => Jv (k := 0) (n := 3) (ys := (JF k 0 ins i).cells) rfl rfl rfl rfl rfl (JF k 0 ins i).len rfl (JF k 0 ins i).one rfl (Gv ?_); clear hKr; refine GN ?_; refine ko ?_; refine Jc rfl rfl rfl Jj0 (wQ hti1) (fun q hq => Or.inr (List.mem_append_right _ hq)) (JK 8 rfl (LR rfl (Jd (v := .int .i64 (Kp (KF k ins i))) rfl (kn 1 rfl) rfl rfl) (NZ ?_))); refine Jj (show _ = Value.int .i64 (Kp (KF k ins (i + 1))) from by rw [vr]; exact congrArg (Value.int .i64) (wrap_i64 m0 m0)) (Ky (k := 1) (cs' := #[.int .i64 (Kp (KF k ins (i + 1)))]) rfl rfl rfl rfl rfl rfl rfl rfl rfl rfl (Hh ?_)); refine Vg (i + 1) ⟨by omega, rfl⟩ rfl
 rintro D i s hfi ⟨him, rfl⟩
 obtain rfl : m = i := Eq.symm hfi
 refine gqo 4 rfl (LR rfl (Jd (v := .int .i64 (Kp (KF k ins m))) rfl (kn 1 rfl) rfl rfl) (Ge ?_)); refine DX ?_; exact Nz
 ·exact Gb
theorem Jfj (hl : s.length ≤ 1000000) : Pure Tryz.prog 114 [Jy s].toArray (Jy s.reverse) := by
 refine Jz Tryz.func114 rfl rfl fun w => HH ?_; refine Yp rfl rfl rfl rfl rfl rfl fun rb kb => ?_
 obtain ⟨sp, hsp⟩ : ∃ sp, sp = List.replicate kb (Value.int .u8 0) := ⟨_, rfl⟩
 rw [← hsp]
 obtain ⟨fr, hfr⟩ : ∃ fr : Nat × Nat, fr = (s.length + kb, s.length + kb + 1) := ⟨_, rfl⟩
 rw [← hfr]
 have hfz : ∀ q, q < s.length → frB fr q = false := fun q hq => by rw [hfr]; simp [frB, Nat.blt, Nat.ble]; omega
 refine Gq ?_; refine gg ?_; refine Vf rfl (Jj (show _ = Value.int .i64 ((s.length : Int) - 1) from congrArg (Value.int .i64) (wrap_i64 m0 m0)) (JP 5 rfl ?_)); refine Js (σ := Nat) (fun i => 2 * i ≤ s.length + 1 ∧ 2 * i ≤ s.length) (fun i => [(3, .slice (some ⟨rb, 0, none⟩) s.length (s.length + kb)), (4, .int .i64 (i : Int)), (5, .int .i64 ((s.length : Int) - 1 - (i : Int)))]) (fun i => [(rb, .cells ((Zr s i).map bV ++ sp).toArray 5 fr)]) (fun _ _ _ => True) (fun i => s.length - i) 0 ⟨by omega, by omega⟩ (.cons rfl (.cons rfl (.cons MF .nil))) (List.Sublist.refl _) (fun _ _ h => h) ?_; rintro i ⟨hi1, hi2⟩; refine J9 8 rfl (cD (fun g => ?_) fun g => ?_)
 ·refine J9 4 rfl ?_
  have hii : i + 1 ≤ s.length - i := by omega
  obtain ⟨Y, hY⟩ : ∃ Y, Y = Zr s i := ⟨_, rfl⟩
  have hYl : Y.length = s.length := by rw [hY]; exact YK s i
  refine NX ?_; refine Jk (k := 6) rfl rfl rfl rfl rfl (fun _ _ => Kg (j := (s.length - 1 - i)) (m := 1) (off' := (s.length - 1 - i)) rfl rfl rfl rfl m0 m0 m0) ?_; refine JY (k := 7) rfl rfl rfl rfl rfl (Jd rfl (kn 0 rfl) rfl (jo (xs := Y.map bV) (v := bV (Y.getD (s.length - 1 - i) 0)) (Xs m0))) ?_; refine kJ ?_; refine j5 (k := 13) (q := 0) (cs' := ((Y.set i (Y.getD (s.length - 1 - i) 0)).map bV ++ sp).toArray) rfl rfl rfl rfl rfl rfl rfl rfl (hfz _ m0) nR (YL m0) rfl (fun _ h => nomatch h) ?_; refine Jk (k := 14) rfl rfl rfl rfl rfl (fun _ _ => Kg (j := (s.length - 1 - i)) (m := 1) (off' := (s.length - 1 - i)) rfl rfl rfl rfl m0 m0 m0) ?_; refine j5 (k := 15) (q := 0) (cs' := ((Zr s (i + 1)).map bV ++ sp).toArray) rfl rfl rfl rfl rfl rfl rfl rfl (hfz _ m0) nR MT rfl (fun _ h => nomatch h) ?_; refine Kc ?_; refine G1 ?_; refine Jh m0 m0 ?_; refine JK 2 rfl ?_; refine Jj (show _ = Value.int .i64 ((s.length : Int) - 1 - ((i + 1 : Nat) : Int)) from by rw [wrap_i64 m0 m0]; congr 1 <;> omega) ?_; exact Dg
 ·refine NK ?_; rw [Jfe (xs := s) (i := i) m0 m0]; refine kj ?_; refine LR rfl (wg (b := s.reverse) rfl (kn 0 rfl) (by rw [List.length_reverse]) Mb rfl rfl rfl) ?_; exact NS
theorem Jag {b : UInt8} : (Y.map bV).toArray.setIfInBounds i (bV b) = ((Y.set i b).map bV).toArray := by
 rw [List.setIfInBounds_toArray, List.map_set]
theorem Jke (x : UInt8) (hm : m < 8) : Value.int .u8 ((x.toNat ||| 2 ^ m : Nat) : Int) = bV (UInt8.ofNat (x.toNat ||| 2 ^ m)) := yv (Jxx (Vh x) hm)
theorem Jci (hm : m < 8) : IntKind.u8.wrap (1 * ((2 ^ m : Nat) : Int)) = ((2 ^ m : Nat) : Int) := by
 have h : 2 ^ m ≤ 128 := Nat.pow_le_pow_right (n := 2) (i := m) (j := 7) m7 m0
 generalize 2 ^ m = q at h ⊢
 rw [Int.one_mul]; exact jn m0 m0
theorem Jrq {l : List Bool} (hl : l.length ≤ 1000000) (eg : Enters Tryz.prog g) (hg : ∀ i, i < l.length → PureR Tryz.prog g (Value.int .i64 (i : Int) :: caps).toArray (.bool (l.getD i false)) R) :
  PureR Tryz.prog 116 [.int .i64 (l.length : Int), .func (.func g) #[] caps.toArray].toArray (Jy (V9 l)) R := by
 obtain ⟨N, hN⟩ : ∃ N, N = (l.length + 7) / 8 := ⟨_, rfl⟩
 have hpB : V9 l = KG l N l.length := by rw [hN]; rfl
 refine Ja Tryz.func116 rfl rfl fun w => G0 ?_; refine Gn fun rm => ?_; refine JP 11 rfl (Js (σ := Nat) (fun i => i ≤ l.length) (fun i => [(1, .func (.func g) #[] caps.toArray), (5, .slice (some ⟨rm, 0, none⟩) N N), (12, .int .i64 (l.length : Int)), (13, .int .i64 (i : Int))]) (fun i => [(rm, .cells ((KG l N i).map bV).toArray 5 (0, 0))]) (fun _ _ _ => True) (fun i => l.length - i) 0 (Nat.zero_le _) (lK rfl) (List.Sublist.refl _) (fun _ _ h => h) ?_); intro i hi1; refine NK ?_; refine cD (fun h7 => ?_) fun h7 => ?_
 ·refine gr ?_
  have hil : i < l.length := by omega
  have hi8 : i / 8 < N := by omega
  refine Jt 9 rfl (Jc rfl rfl rfl eg (hg i hil) oR (HY ?_)); refine cD (fun h11 => ?_) fun h11 => ?_
  ·have hbt : l.getD i false = true := by assumption
   have hst1 : KG l N (i + 1) = (KG l N i).set (i / 8) (UInt8.ofNat (((KG l N i).getD (i / 8) 0).toNat ||| 2 ^ (i % 8))) := by rw [KG, if_pos hbt]
   obtain ⟨Y, hY⟩ : ∃ Y, Y = KG l N i := ⟨_, rfl⟩
   have hYl : Y.length = N := by rw [hY]; exact QH l N i
   rw [← hY] at hst1 ⊢
   refine g6 ?_; refine Qw mq (gm ?_); refine Qw my (NW ?_); refine ND ?_; exact NC
  ·refine gH ?_; refine ND ?_
   (have hst0 : KG l N (i + 1) = KG l N i := by rw [KG, if_neg mA]
    exact Jm (i + 1) m0 m0 (lK rfl) (by rw [hst0]; exact List.Sublist.refl _) (fun _ _ h => h))
 ·refine NK ?_
  obtain rfl : i = l.length := by omega
  refine kj ?_; refine LR rfl (KB (b := KG l N l.length) (row := some (rm, N, [])) (e := 5) MB ⟨by rw [List.length_map]; omega, by rw [QH]; simp⟩ (fun p hp => .inl mP) rfl rfl rfl) (DP fun w1 hs1 => ?_); rw [hpB]; rfl
theorem J22  {a : Nat} {bits : List Bool} {items : List Vl} {pick : Int} (hsb : Seg R bits.length (Qd bits) pb) (hl : bits.length ≤ 9223372036854775807) (rv : Nat) (hi : i < bits.length) :
  PureR Tryz.prog 117 [.int .i64 (i : Int), Vk rv].toArray (.bool (bits.getD i false)) (WE rv (.mk a b c d bits pb items pi pick) :: R) := by
 have hsb := hsb.mono (R' := WE rv (.mk a b c d bits pb items pi pick) :: R) fun q hq => List.mem_cons_of_mem _ hq
 have hy : bits[i]? = some (bits.getD i false) := by rw [List.getD_eq_getElem?_getD, List.getElem?_eq_getElem hi]; rfl
 generalize bits.getD i false = y at hy ⊢
 refine Ja Tryz.func117 rfl rfl fun w => HH ?_; refine GZ ?_; refine Ep ?_; exact NS
theorem J23  {a : Nat} {bits : List Bool} {items : List Vl} {pick : Int} (hsb : Seg R bits.length (Qd bits) pb) (hl : bits.length ≤ 9223372036854775807) (rn rv : Nat) (hi : i < (bits ++ [true]).length) :
  PureR Tryz.prog 118 [.int .i64 (i : Int), Vk rn, Vk rv].toArray (.bool ((bits ++ [true]).getD i false)) (jP rn bits.length :: WE rv (.mk a b c d bits pb items pi pick) :: R) := by
 have hsb := hsb.mono (R' := jP rn bits.length :: WE rv (.mk a b c d bits pb items pi pick) :: R) fun q hq => List.mem_cons_of_mem _ (List.mem_cons_of_mem _ hq)
 rw [List.length_append] at hi; simp only [List.length_cons, List.length_nil] at hi
 by_cases he : i = bits.length
 have hv : (bits ++ [true]).getD i false = true := by rw [List.getD_eq_getElem?_getD, List.getElem?_append_right m0, he, Nat.sub_self]; rfl
 rw [hv]; refine Ec fun w => ?_; refine Vf rfl (Jj (show _ = Value.bool true from Jfg (J2n (by rw [he]))) (J0 11 rfl ?_)); exact Nz
 ·have hy : bits[i]? = some (bits.getD i false) := by rw [List.getD_eq_getElem?_getD, List.getElem?_eq_getElem m0]; rfl
  have hv : (bits ++ [true]).getD i false = bits.getD i false := by rw [List.getD_eq_getElem?_getD, List.getElem?_append_left m0, List.getD_eq_getElem?_getD]
  rw [hv]
  generalize bits.getD i false = y at hy ⊢
  have hne : ((i : Int) == (bits.length : Int)) = false := by simp; omega
  refine Ec fun w => ?_; refine Vf rfl (Jj (show _ = Value.bool false from Jfg (hne)) (JK 2 rfl ?_)); refine H0 ?_; refine Ep ?_; refine gt ?_; exact Nz
theorem Jm2 {l : BS} (h : i < l.length) : l[i]? = some (l.getD i 0) := by rw [List.getD_eq_getElem?_getD, List.getElem?_eq_getElem h]; rfl
theorem Jfk {x : UInt8} (h : x.toNat + 2 ^ m < 256) : Value.int .u8 (IntKind.u8.wrap ((x.toNat : Int) + ((2 ^ m : Nat) : Int))) = bV (UInt8.ofNat (x.toNat + 2 ^ m)) := by
 rw [← Int.natCast_add]
 generalize x.toNat + 2 ^ m = q at h ⊢
 rw [jn m0 m0]; exact yv h
def Wp (l : List Bool) (N i : Nat) : BS := (KG l N i).take ((i + 7) / 8)
def WG (l : List Bool) (N i : Nat) : BS := (KG l N i).take (i / 8 + 1)
theorem Jah {l : List Bool} (h : (i + 7) / 8 ≤ N) : (Wp l N i).length = (i + 7) / 8 := by unfold Wp; rw [List.length_take, QH]; omega
theorem Jai {l : List Bool} (h : i / 8 < N) : (WG l N i).length = i / 8 + 1 := by unfold WG; rw [List.length_take, QH]; omega
theorem zG (l : List Bool) (h : i / 8 < N) : ((KG l N i).getD (i / 8) 0).toNat < 2 ^ (i % 8) := by
 refine Nat.lt_pow_two_of_testBit _ fun j hj => ?_
 by_cases h8 : j < 8
 ·rw [vh l N i (i / 8) j m0 h h8, decide_eq_false m0, Bool.false_and]
 ·exact Nat.testBit_lt_two_pow (Nat.lt_of_lt_of_le (Vh _) (Nat.pow_le_pow_right (n := 2) (i := 8) m7 m0))
theorem Jwf {l : List Bool} (h : i / 8 < N) (h8 : i % 8 = 0) : Wp l N i ++ [0] = WG l N i := by
 have h0 := zG l h
 rw [h8] at h0
 have h1 : (KG l N i).getD (i / 8) 0 = 0 := by
  have : ((KG l N i).getD (i / 8) 0).toNat = 0 := by simpa using h0
  exact UInt8.toNat_inj.1 (by rw [this]; rfl)
 unfold Wp WG
 rw [show (i + 7) / 8 = i / 8 by omega, List.take_succ, Jm2 (by rw [QH]; exact h), h1]
 rfl
theorem Jkf {l : List Bool} (h8 : i % 8 ≠ 0) : Wp l N i = WG l N i := by
 unfold Wp WG
 rw [show (i + 7) / 8 = i / 8 + 1 by omega]
theorem Jkg (l : List Bool) (N i : Nat) : Wp l N (i + 1) = (KG l N (i + 1)).take (i / 8 + 1) := by
 unfold Wp
 rw [show (i + 1 + 7) / 8 = i / 8 + 1 by omega]
theorem Jkh {l : List Bool} (hN : i / 8 < N) (h : l.getD i false = true) : Wp l N (i + 1) = (WG l N i).set (i / 8) (UInt8.ofNat (((WG l N i).getD (i / 8) 0).toNat + 2 ^ (i % 8))) := by
 have h0 := zG l hN
 have hz : (WG l N i).getD (i / 8) 0 = (KG l N i).getD (i / 8) 0 := by
  unfold WG
  rw [List.getD_eq_getElem?_getD, List.getElem?_take, if_pos m0, List.getD_eq_getElem?_getD]
 have ho : ((KG l N i).getD (i / 8) 0).toNat ||| 2 ^ (i % 8) = ((KG l N i).getD (i / 8) 0).toNat + 2 ^ (i % 8) := by
  have := Nat.two_pow_add_eq_or_of_lt h0 1
  rw [Nat.mul_one] at this; rw [Nat.add_comm, this, Nat.or_comm]
 rw [Jkg, KG, if_pos h, hz, ← ho]
 unfold WG
 rw [List.take_set]
theorem Jki {l : List Bool} (h : ¬ l.getD i false = true) : Wp l N (i + 1) = WG l N i := by
 rw [Jkg, KG, if_neg h]; rfl
theorem Jfl {l : List Bool} (hN : i / 8 < N) : ((WG l N i).getD (i / 8) 0).toNat + 2 ^ (i % 8) < 256 := by
 have h0 := zG l hN
 have hz : (WG l N i).getD (i / 8) 0 = (KG l N i).getD (i / 8) 0 := by
  unfold WG
  rw [List.getD_eq_getElem?_getD, List.getElem?_take, if_pos m0, List.getD_eq_getElem?_getD]
 rw [hz]
 have h7 : 2 ^ (i % 8) ≤ 128 := Nat.pow_le_pow_right (n := 2) (j := 7) m7 m0
 omega
theorem vt {l : List Bool} {p : Pl} (hl : l.length ≤ 1000000) (hs : Seg R l.length (Qd l) p) : PureR Tryz.prog 91 [KE l.length p].toArray (Jy (V9 l)) R := by
 obtain ⟨N, hN⟩ : ∃ N, N = (l.length + 7) / 8 := ⟨_, rfl⟩
 have hpB : V9 l = Wp l N l.length := by unfold Wp; rw [← hN, List.take_of_length_le (by rw [QH]; exact Nat.le_refl _), hN]; rfl
 rw [hpB]; refine Ja Tryz.func91 rfl rfl fun w => JN (J9 17 rfl (Js (σ := Nat × Vn) (fun q => q.1 ≤ l.length ∧ rowOk 1 ((q.1 + 7) / 8) ((Wp l N q.1).map bV) q.2) (fun q => [(0, KE l.length p), (3, J3 ((q.1 + 7) / 8) q.2), (4, .int .i64 (q.1 : Int))]) (fun q => JJ 5 ((Wp l N q.1).map bV) q.2) (fun _ _ _ => True) (fun q => l.length - q.1) (0, none) ⟨Nat.zero_le _, rfl, rfl⟩ (lK rfl) (List.Sublist.refl _) (fun _ _ h => h) ?_)); rintro ⟨i, row⟩ ⟨hi1, hrow⟩; simp only at hi1 hrow; change HC _ _ [(0, KE l.length p), (3, J3 ((i + 7) / 8) row), (4, .int .i64 (i : Int))] (JJ _ ((Wp l N i).map bV) row) _ _ _; refine gH ?_; refine NE ?_; refine kU ?_; refine cD (fun g => ?_) fun g => ?_
 ·refine NK ?_
  have hil : i < l.length := by omega
  have hi8 : i / 8 < N := by omega
  have hyb : l[i]? = some (l.getD i false) := by rw [List.getD_eq_getElem?_getD, List.getElem?_eq_getElem hil]; rfl
  refine GN ?_; refine Jj my (kU ?_); refine cD (fun g => ?_) fun g => ?_
  ·refine kj ?_; refine kc fun r1 => ?_; refine JB (L0 := [_]) (xs := (Wp l N i).map bV) (row := row) (n := (i + 7) / 8) (sz := 1) (b := 1) (news := [_]) (List.perm_append_comm (l₁ := [_])) rfl rfl rfl rfl (kn 0 rfl) rfl rfl rfl rfl rfl m7 rfl rfl rfl m7 hrow m0 m0 fun ra cap sp hra => G5 ?_
   (have h80 : i % 8 = 0 := by omega
    have e : (Wp l N i).map bV ++ [Value.int .u8 0] = (WG l N i).map bV := by rw [← Jwf hi8 h80, List.map_append]; rfl
    have hn : (i + 7) / 8 + 1 = i / 8 + 1 := by omega
    change HC _ _ ((3, J3 ((i + 7) / 8 + 1) (some (ra, cap, sp))) :: _) _ _ _ _; rw [hn, e] at hra; rw [hn, e]; refine Jjp (L' := JJ 5 ((WG l N i).map bV) (some (ra, cap, sp))) (List.sublist_append_left _ _) ?_
    generalize (some (ra, cap, sp) : Vn) = row2 at hra ⊢)
   have hZl := Jai (l := l) hi8
   refine GN ?_
   refine gn ?_; refine LR rfl (WX oR rfl hs hyb rfl) (HY ?_); refine cD (fun g => ?_) fun g => ?_
   ·have hst1 := Jkh hi8 m9
    have hlt8 := Jfl (l := l) hi8
    obtain ⟨⟨rr, cap2, sp2⟩, rfl⟩ : ∃ q, row2 = some q := by
     cases row2 with
     | none => have := hra.1; omega
     | some q => exact ⟨q, rfl⟩
    exact Dn
   ·refine H8 ?_; refine ND ?_
    (have hst0 := Jki (l := l) (N := N) (i := i) mA
     exact Jm (i + 1, row2) ⟨by simp only; omega, by simp only; rw [hst0, show (i + 1 + 7) / 8 = i / 8 + 1 by omega]; exact hra⟩ ml (.cons rfl (.cons ni (.cons rfl .nil))) MZ (fun _ _ h => h))
  ·refine Da ?_
   (have h80 : i % 8 ≠ 0 := by omega
    have hra := hrow
    have hn : (i + 7) / 8 = i / 8 + 1 := by omega
    rw [Jkf h80, hn] at hra; rw [Jkf h80, hn]
    generalize row = row2 at hra ⊢)
   have hZl := Jai (l := l) hi8
   refine GN ?_
   refine gn ?_; refine LR rfl (WX oR rfl hs hyb rfl) (HY ?_); refine cD (fun g => ?_) fun g => ?_
   ·have hst1 := Jkh hi8 m9
    have hlt8 := Jfl (l := l) hi8
    obtain ⟨⟨rr, cap2, sp2⟩, rfl⟩ : ∃ q, row2 = some q := by
     cases row2 with
     | none => have := hra.1; omega
     | some q => exact ⟨q, rfl⟩
    exact Dn
   ·refine H8 ?_; refine ND ?_
    (have hst0 := Jki (l := l) (N := N) (i := i) mA
     exact Jm (i + 1, row2) ⟨by simp only; omega, by simp only; rw [hst0, show (i + 1 + 7) / 8 = i / 8 + 1 by omega]; exact hra⟩ ml (.cons rfl (.cons ni (.cons rfl .nil))) MZ (fun _ _ h => h))
 ·refine NK ?_
  obtain rfl : i = l.length := by omega
  refine kj ?_; refine LR rfl (KB (b := Wp l N l.length) (row := row) (e := 5) (show _ = some (J3 (Wp l N l.length).length _) from by rw [Jah m0]; rfl) (by rw [Jah m0]; exact hrow) (fun p hp => .inl hp) rfl rfl rfl) ?_; exact NS
theorem qE {k : Int} (h8 : k ≠ 8) (pick : Int) (ins : List Ty) (i : Nat) : JF k pick ins i = JF k 0 ins i := by
 unfold JF VF; split
 ·rfl
 ·simp [h8]
theorem wR {k : Int} (h8 : k ≠ 8) (pick : Int) (ins : List Ty) : ∀ (l : List Vl) (i : Nat), Qf l k pick ins i = Qf l k 0 ins i
 | [], i => by rw [Qf, Qf]
 | x :: xs, i => by rw [Qf, Qf, wR h8 pick ins xs (i + 1), qE h8]
theorem Jfm {k : Int} (ins : List Ty) : ∀ (l : List Vl) (i : Nat), (Qf l k 0 ins i).map Prod.fst = (List.range' i l.length).map fun j => JF k 0 ins j
 | [], i => by rw [Qf]; rfl
 | x :: xs, i => by
  rw [Qf, List.map_cons, Jfm ins xs (i + 1), List.length_cons, List.range'_succ, List.map_cons]
theorem zH (k : Int) (ins : List Ty) (l : List Vl) : (Qf l k 0 ins 0).map Prod.fst = KF k ins l.length := by
 rw [Jfm]; unfold KF; rw [List.range_eq_range']
theorem Jwg (A : List α) (x : α) (B : List α) : (A ++ x :: B).Perm (B ++ (A ++ [x])) := by
 rw [show A ++ x :: B = (A ++ [x]) ++ B by simp]; exact List.perm_append_comm
def wh (l : List (Ty × BS)) : Nat := (l.map fun p => p.2.length + 4).sum
theorem jQ (p : Ty × BS) (l : List (Ty × BS)) : wh (p :: l) = p.2.length + 4 + wh l := by unfold wh; rw [List.map_cons, List.sum_cons]
theorem Jcj : bOk [] none := ⟨⟨rfl, rfl⟩, fun _ => rfl⟩
set_option maxHeartbeats 1000000 in
theorem Jzp {k n : Int} {p : Pl} {ins : List Ty} {items : List Vl} (ht : Ty.In R (.mk k n p ins)) (hs : Seg R items.length (KL items) pi) (hl : items.length ≤ 600) (hx : ∀ i, i < items.length → VF k 0 i < ins.length)
  (hb : ∀ (i : Nat) x, items[i]? = some x → PureR Tryz.prog 77 [(JF k 0 ins i).val, x.val].toArray (Jy (Vj x (JF k 0 ins i))) R) (hB : wh (Qf items k 0 ins 0) ≤ B) (hB2 : B ≤ 900000) :
  PureR Tryz.prog 119 [Ty.val (.mk k n p ins), KE items.length pi].toArray (Jy (XZ (Kp (KF k ins items.length)).toNat (Qf items k 0 ins 0) [] [])) R := by
 have hti := fun i h => ht.sub _ (KC (hx i h)).2
 have hbg := Jfi ht hl hx
 have hbl := Zt (KF k ins items.length)
 rw [WF] at hbl
 obtain ⟨H, hH⟩ : ∃ H, H = (Kp (KF k ins items.length)).toNat := ⟨_, rfl⟩
 have hHi : Kp (KF k ins items.length) = (H : Int) := by omega
 have hHb : H ≤ 1351079888211148800 := by omega
 rw [hHi] at hbg; rw [← hH]
 obtain ⟨TOT, hTOT⟩ : ∃ T, T = XZ H (Qf items k 0 ins 0) [] [] := ⟨_, rfl⟩
 rw [← hTOT]; refine Ja Tryz.func119 rfl rfl fun w => Df fun r1 r2 => ?_; refine LN rfl fun r3 => LN rfl fun r4 => XO 6 [3, 2] rfl rfl (NE ?_); refine Jc rfl rfl rfl (enters_of Tryz.func163 m5 rfl) hbg oR (LN rfl fun r5 => ?_)
 refine kq ?_; refine XO 7 [4, 3] rfl rfl (NE ?_); refine VD rfl rfl rfl Jqk (Jch (.mk k n p ins) (items.length : Int)) fun pp => ?_
 obtain ⟨ra, rb⟩ := pp
 change HL _ _ _ (jP rb items.length :: VM ra (.mk k n p ins) :: _) _ _ _ _; refine kU ?_; refine YZ [4, 3, 0, 1, 2, 5, 6] (L' := [xz r3 [] none false, xz r4 [] none false, jP rb items.length, VM ra (.mk k n p ins), _, _, _]) m7 rfl ?_
 refine XB (τ := Unit) (fun i (s : BS × BS × Vn × Vn × Bool × Bool) => i ≤ items.length ∧ XZ H (Qf (items.drop i) k 0 ins i) s.1 s.2.1 = TOT ∧ bOk s.1 s.2.2.1 ∧ bOk s.2.1 s.2.2.2.1 ∧ s.1.length + s.2.1.length + wh (Qf (items.drop i) k 0 ins i) ≤ B) (fun s => X5 r3 s.1 s.2.2.1 s.2.2.2.2.1 ++ X5 r4 s.2.1 s.2.2.2.1 s.2.2.2.2.2) (fun _ _ => False) (fun _ => []) [jP rb items.length, VM ra (.mk k n p ins), _, _, _] ([], [], none, none, false, false) rfl rfl Jqq (Jkd ht m0 hx ra rb) mI rfl (fun q hq => by rcases List.mem_cons.1 hq with rfl | hq; exact .inl mh; rcases List.mem_cons.1 hq with rfl | hq; exact .inl mh; exact .inr hq) rfl ⟨Nat.zero_le _, hTOT.symm, Jcj, Jcj, by simpa using hB⟩ ?_ ?_ ?_
 ·rintro q Xr Xb w3 i _ _ ⟨f, th, row1, row2, own1, own2⟩ ⟨hii, rfl, rfl⟩ ⟨him, hinv, hb1, hb2, hlen⟩ Kr hKr; refine inR ?_
  simp only at hinv hb1 hb2 hlen
  have hti1 := hti i hii
  have hix := VK hii
  have hbi := hb i _ hix.1
  rw [X7 hix.1, Qf, XZ] at hinv; rw [X7 hix.1, Qf, jQ] at hlen
  obtain ⟨S, hS⟩ : ∃ S, S = Vj (X0 items i) (JF k 0 ins i) := ⟨_, rfl⟩
  simp only [← hS] at hinv hlen; rw [← hS] at hbi
  have hle4 := zx (H + th.length)
  unfold itV
  refine H8 ?_; refine g7 fun r9 => ?_; refine Gv ?_; clear hKr; refine J9 2 rfl (JR 7 m5 m5 (EB ?_)); refine Jb rfl rfl rfl (Jd (v := KE items.length pi) rfl (JG (k := 3) rfl) rfl rfl) (Nm ?_)
  refine gW ?_; refine Jb rfl rfl rfl (KV (fun q hq => Or.inr (List.mem_append_right _ hq)) rfl hs hix.1 rfl rfl) (V8 rfl rfl rfl Jzd hbi (fun q hq => Or.inr (List.mem_append_right _ hq)) (ku ?_)); refine kB ?_; refine ko ?_; refine Jc rfl rfl rfl Jj0 (wQ hti1) (fun q hq => Or.inr (List.mem_append_right _ hq)) (JP 12 rfl (cD (fun g => ?_) fun g => ?_))
  refine GN ?_; refine VA (T := X5 r3 f row1 own1) (L0 := (r9, .cells (JF k 0 ins i).cells.toArray 76 (0, 0)) :: X5 r4 th row2 own2) (Rl := []) List.perm_middle.symm rfl rfl rfl Jjw (wP hb1 (s2 := S) m0) oN fun x => ?_
  obtain ⟨row1x, hb1x⟩ := x
  refine gt ?_
  (rw [if_pos m9] at hinv
   refine jz (L' := X5 r3 (f ++ S) row1x true ++ X5 r4 th row2 own2) ((List.Sublist.refl _).append (.cons _ (List.Sublist.refl _))) ?_
   exact Vg (f ++ S, th, row1x, row2, true, own2) ⟨by omega, hinv, hb1x, hb2, by simp only [List.length_append]; omega⟩ rfl)
  ·refine Da ?_; refine JR 10 m5 m5 (Jb rfl rfl rfl (Jd (v := .int .i64 (H : Int)) rfl (JG (k := 2) rfl) rfl rfl) (V8 rfl rfl rfl (enters_of Tryz.func102 m5 rfl) (Jzn r4 own2 hb2) (fun q hq => Or.inl (by rw [List.mem_singleton.1 hq]; exact List.mem_cons_of_mem _ (List.mem_append_right _ List.mem_cons_self))) ?_))
   refine No ?_; refine Kz ny (No ?_); refine Kz (show _ = uV (H + th.length) from congrArg (Value.int .u64) (wrap_u64 m0 m0)) (Qk rfl rfl rfl (enters_of Tryz.func166 m5 rfl) (Je5 (n := H + th.length) m0 4) (DB ?_)); refine kB ?_; refine VA (T := X5 r3 f row1 own1) (L0 := (r9, .cells (JF k 0 ins i).cells.toArray 76 (0, 0)) :: X5 r4 th row2 own2) (Rl := []) List.perm_middle.symm rfl rfl rfl Jjw (wP hb1 (s2 := (qA (H + th.length) 4).1) m0) oN fun x => ?_
   obtain ⟨row1x, hb1x⟩ := x
   refine GU ?_; refine VA (T := X5 r4 th row2 own2) (L0 := X5 r3 (f ++ (qA (H + th.length) 4).1) row1x true ++ [(r9, .cells (JF k 0 ins i).cells.toArray 76 (0, 0))]) (Rl := []) (Jwg _ _ _) rfl rfl rfl Jjw (wP hb2 (s2 := S) m0) oN fun x => ?_
   obtain ⟨row2x, hb2x⟩ := x
   refine J0 2 rfl ?_
   (rw [if_neg Mq] at hinv
    refine wB List.perm_append_comm (jz (L' := X5 r3 (f ++ (qA (H + th.length) 4).1) row1x true ++ X5 r4 (th ++ S) row2x true) ((List.sublist_append_left _ _).append (List.Sublist.refl _)) ?_)
    exact Vg (f ++ (qA (H + th.length) 4).1, th ++ S, row1x, row2x, true, true) ⟨by omega, hinv, hb1x, hb2x, by simp only [List.length_append]; omega⟩ rfl)
 rintro D i ⟨f, th, row1, row2, own1, own2⟩ hfi ⟨him, hinv, hb1, hb2, hlen⟩
 simp only at hinv hb1 hb2 hlen
 have hin : i = items.length := hfi
 rw [hin, List.drop_length, Qf, XZ] at hinv; refine gqo 4 rfl (VA (T := X5 r3 f row1 own1) (L0 := _ :: (X5 r4 th row2 own2 ++ [jP rb items.length, VM ra (.mk k n p ins), _, _, _])) (Rl := []) (by rw [List.append_assoc]; exact List.perm_middle.symm) rfl rfl rfl Jqd (Jib hb1 m0) oN fun u1 => VA (T := X5 r4 th row2 own2) (L0 := _ :: [jP rb items.length, VM ra (.mk k n p ins), _, _, _]) (Rl := []) List.perm_middle.symm rfl rfl rfl Jqd (Jib hb2 m0) oN fun u2 => LR rfl (Qc (a := f) (b := th) rfl rfl m0) (Ge ?_)); refine DX ?_; refine ke fun w1 hs1 => ?_; exact ⟨by rw [← hinv]; rfl, hs1.keep⟩
 ·exact Gb
theorem W1 {a : Nat} {bits : List Bool} {items : List Vl} {pick k n : Int} {p : Pl} {ins : List Ty} (h : Ku (.mk a b c d bits pb items pi pick) (.mk k n p ins) = 0) :
  ¬ ((k = 4 ∧ n < items.length) ∨ (k = 6 ∧ n < bits.length)) ∧ xx k n ins.length (.mk a b c d bits pb items pi pick) = true ∧ Qz items k pick ins 0 = 0 := by
 rw [Ku] at h
 split at h
 ·cases h
 ·rename_i h1
  split at h
  ·cases h
  ·rename_i h2
   exact ⟨h1, by simpa using h2, h⟩
theorem Vx : ∀ {l : List Vl} {k pick : Int} {ins : List Ty} {i j : Nat} {x : Vl}, Qz l k pick ins i = 0 → l[j]? = some x → Ku x (JF k pick ins (i + j)) = 0
 | [], _, _, _, _, _, _, _, h => by simp at h
 | y :: ys, k, pick, ins, i, j, x, h0, h => by
  rw [Qz] at h0
  split at h0
  ·rename_i h1
   cases j with
   | zero => simp at h; subst h; exact h1
   | succ j =>
    rw [List.getElem?_cons_succ] at h
    have := Vx h0 h
    rwa [show i + 1 + j = i + (j + 1) by omega] at this
  ·rename_i h1; exact absurd h0 h1
theorem Jrr : ∀ {l : List Vl} {x : Vl}, x ∈ l → wV x ≤ wL l
 | y :: ys, x, h => by
  rw [wL]
  rcases List.mem_cons.1 h with rfl | h
  ·omega
  ·have := Jrr h; omega
theorem vu {a : Nat} {bits : List Bool} {items : List Vl} {pick : Int} {x : Vl} (h : x ∈ items) : wV x ≤ wV (.mk a b c d bits pb items pi pick) := by
 have := Jrr h
 rw [wV]; omega
theorem zI (items : List Vl) (k pick : Int) (ins : List Ty) : ∀ (l : List Vl) (i : Nat), wh (Qf l k pick ins i) ≤ 40 * wL l
 | [], i => by rw [Qf, wL]; exact Nat.zero_le _
 | x :: xs, i => by
  rw [Qf, wL, jQ]
  have h1 := qB x (JF k pick ins i)
  have h2 := zI items k pick ins xs (i + 1)
  simp only
  omega
theorem Jaj {z : Int} (h1 : 0 ≤ z) (h2 : z < 256) : Value.int .u8 (IntKind.u8.wrap z) = bV (UInt8.ofNat z.toNat) := by
 rw [jn h1 m0, ← yv m0, Int.toNat_of_nonneg h1]
theorem Jkj {l : List Vl} {k pick : Int} {ins : List Ty} (h : l.length = 1) : ((Qf l k pick ins 0).headD (default, [])).2 = Vj (X0 l 0) (JF k pick ins 0) := by
 match l, h with
 | [x], _ => rw [Qf]; rfl
theorem qF {a : Nat} {bits : List Bool} {items : List Vl} {pick k n : Int} {p : Pl} {ins : List Ty} (hc : Vp (.mk k n p ins) dp = 0) (h : Ku (.mk a b c d bits pb items pi pick) (.mk k n p ins) = 0) :
  items.length ≤ 512 ∧ bits.length ≤ 512 ∧ (k = 1 → 1 ≤ n ∧ n ≤ 32) ∧ (k = 8 → items.length = 1 ∧ 0 ≤ pick ∧ pick < ins.length ∧ ins.length ≤ 8) := by
 obtain ⟨h1, h2, _⟩ := W1 h
 obtain ⟨hk, hf, _, _⟩ := QE hc
 rw [QA k n ins.length a b c d bits pb items pi pick _ rfl] at h2; simp only [Q0] at h2
 unfold JM at hf
 have h9 : k = 1 ∨ k = 2 ∨ k = 3 ∨ k = 4 ∨ k = 5 ∨ k = 6 ∨ k = 7 ∨ k = 8 := by omega
 rcases h9 with rfl | rfl | rfl | rfl | rfl | rfl | rfl | rfl
 all_goals generalize items.length = I at *
 all_goals generalize bits.length = J at *
 all_goals generalize ins.length = K at *
 all_goals simp at h1 h2 hf ⊢
 all_goals omega
section
variable {c : Cx} {l : Kx} {L E : Jp} {X : XP} {Q : Exit → Act → World → Prop} {d : List Deferred}
variable {ops : Array Oper} {rest : List Nat} {i k : Nat} {v : Value} {o : Oper} {tb : qp} {S : Jp} {T : Jp → Act → Prop}
theorem QS {t : TypeId} {n : Nat} {vs : Kx} {r zs : List Value} (hk : WR ops.toList k = some ⟨some i, .buildSlice t n pa.toArray, ty, ps, af, gd⟩) (hg : Kv l ops ⟨some i, .buildSlice t n pa.toArray, ty, ps, af, gd⟩ = some true) (hi : Nat.ble (i + 1) c.n = true)
  (hA : tb k = .grow (VS (slV n) (.cells r.toArray e (0, 0))))
  (hp : Xf l pa = some vs) (ht : Kw c.P t = some e) (hz : QL c.P e = some z) (hs : KZ c.P e = some sz) (hzs : z.cells.size = sz) (hb : Nat.ble (n * sz) 16777216 = true) (h0 : Nat.ble 1 (n * sz) = true)
  (hmk : (madeCells z.cells (n * sz)).toList = zs) (hf : Zx (fun i => some (i * sz, sz)) zs (QM vs) = some r)
  (h : ∀ q, HB c d ((i, .slice (some ⟨q, 0, none⟩) n n) :: l) ((q, .cells r.toArray e (0, 0)) :: E) X S ops tb rest T) : HB c d l E X S ops tb (k :: rest) T :=
 Jo4 (V := slV n) hk hg rfl hi hA (fun a w hfr => by
  have h1 := V3 hfr hp
  have h2 : (pa.toArray.map fun (p : Nat × Operand) => (p.1, a.eval p.2)) = vs.toArray := by
   apply Array.toList_inj.1; rw [Array.toList_map]; simpa using h1
  rw [QI] at hf; subst hmk
  have h3 := VO ht hz hs hzs (Nat.le_of_ble_eq_true hb) (Nat.le_of_ble_eq_true h0) hf w
  rw [← h2] at h3; refine Hd ?_
  have h4 : (Instr.buildSlice t n (pa.toArray.map fun (i, x) => (i, a.eval x))).run c.P w = .ok (.slice (some ⟨w.heap.size, 0, none⟩) n n) (w.alloc (.cells r.toArray e)) := h3
  rw [h4]; rfl) h
end
section
variable {a b c d : Nat} {bits : List Bool} {pb : Pl} {items : List Vl} {pi : Pl} {pick k n : Int} {p : Pl} {ins : List Ty}
theorem Qr : Vj (.mk a b c d bits pb items pi pick) (.mk k n p ins) = if k = 1 then wp [a, b, c, d] n.toNat else if k = 2 then wp [a, b, c, d] 1 else if k = 5 then V9 bits else if k = 6 then V9 (bits ++ [true])
  else if k = 8 then UInt8.ofNat pick.toNat :: ((Qf items k pick ins 0).headD (default, [])).2 else XZ (Kp ((Qf items k pick ins 0).map Prod.fst)).toNat (Qf items k pick ins 0) [] [] := by rw [Vj]; rfl
end
set_option maxHeartbeats 1000000 in
theorem Jwh (hv : v.In R) : ∀ (t : Ty) (dp : Int), t.In R → Vp t dp = 0 → Ku v t = 0 → wV v ≤ 20000 → PureR Tryz.prog 77 [t.val, v.val].toArray (Jy (Vj v t)) R := by
 induction hv with
 | @mk a b c d bits pb items pi pick ha hb hc hd hlb hsb hl hs hp hi ih =>
 intro t dp ht hck hfit hw
 have ht0 := ht
 cases ht with
 | @mk k n p ins hk hn hlt hst hit =>
 obtain ⟨hk8, ho, h6, hci⟩ := QE hck
 obtain ⟨hf1, hf2, hf3⟩ := W1 hfit
 obtain ⟨m1, m2, m3, m4⟩ := qF hck hfit
 have hxl : ∀ i, i < items.length → VF k pick i < ins.length := fun i hi => Y4 (v := .mk a b c d bits pb items pi pick) hck hf2 hi
 have hwd : WOk [a, b, c, d] := ⟨rfl, fun x hx => by simp at hx; rcases hx with rfl | rfl | rfl | rfl <;> assumption⟩
 have hfx := Zo hwd
 have hlen32 : (Yz [a, b, c, d] 32).reverse.length = 32 := by rw [List.length_reverse, QC]
 have hpt := Jfj (s := Yz [a, b, c, d] 32) (by rw [QC]; decide)
 have hle : ∀ m, wp [a, b, c, d] m = ((Yz [a, b, c, d] 32).reverse.take m).drop 0 := fun m => by rw [List.drop_zero]; rfl
 have hrow : ¬ k = 1 → ¬ k = 2 → ¬ k = 5 → ¬ k = 6 → ¬ k = 8 → PureR Tryz.prog 119 [Ty.val (.mk k n p ins), KE items.length pi].toArray (Jy (Vj (.mk a b c d bits pb items pi pick) (.mk k n p ins))) R := fun h1 h2 h5 h6 h8 => by
  have hx0 : ∀ i, i < items.length → VF k 0 i < ins.length := fun i hi => by have := hxl i hi; unfold VF at this ⊢; rw [if_neg h8] at this ⊢; exact this
  have hwl : wL items ≤ wV (.mk a b c d bits pb items pi pick) := by rw [wV]; omega
  have := Jzp (B := 800000) ht0 hs m0 hx0 (fun i x hxi => by
   have hm := List.mem_of_getElem? hxi
   have hlt3 := (List.getElem?_eq_some_iff.1 hxi).1
   have hty := (KC (hx0 i hlt3)).2
   have hg := Vx hf3 hxi
   rw [Nat.zero_add, qE h8] at hg
   exact ih x hm _ (dp + 1) (hit _ hty) (hci _ hty) hg (Nat.le_trans (vu hm) hw)) (by have := zI items k 0 ins items 0; omega) m7
  rw [Qr, if_neg h1, if_neg h2, if_neg h5, if_neg h6, if_neg h8, wR h8, zH]; exact this
 refine Ja Tryz.func77 rfl rfl fun w => NA fun r1 r2 => ?_; refine XO 7 [0] rfl rfl (LR rfl (Jl rfl hsb rfl) (LN rfl fun r3 => ?_))
 refine kq ?_; refine Goc 16 [2] rfl rfl (cD (fun h6 => ?_) fun h6 => ?_)
 refine He ?_
 have hn1 := m3 m9
 refine JR 8 m5 m5 ?_
 refine Jb rfl rfl rfl (Jw rfl rfl rfl) (Jb rfl rfl rfl (Jq (vs := [_, _, _, _]) rfl (kn 1 rfl) rfl rfl rfl rfl) (Qk rfl rfl rfl Jjx hfx (Qk rfl rfl rfl Jqf hpt ?_)))
 refine Jb rfl rfl rfl (Jw rfl rfl rfl) (Jb rfl rfl rfl (Jd rfl (kn 2 rfl) rfl rfl) (Jb rfl rfl rfl (Vu (kl := none) (kh := some (.i64, n)) (m := 0) (n := n.toNat) rfl rfl rfl rfl rfl (by show n = ((n.toNat : Nat) : Int); omega) (Nat.zero_le _) (by rw [hlen32]; omega) rfl) ?_)); rw [← hle]; refine ku ?_; refine Ev fun w1 hs1 => ?_; rw [Qr, if_pos m9]; rfl
 ·refine NK ?_; refine cD (fun g => ?_) fun g => ?_
  refine QZ 4 [1] rfl rfl (J2 rfl rfl rfl Jjx hfx (J2 rfl rfl rfl Jqf hpt (LR rfl (Vu (kl := none) (kh := some (.i64, 1)) (m := 0) (n := 1) rfl rfl rfl rfl rfl (by show (1 : Int) = ((1 : Nat) : Int); omega) (Nat.zero_le _) (by rw [hlen32]; omega) rfl) ?_))); rw [← hle]; refine Dc fun w1 hs1 => ?_; rw [Qr, if_neg m9, if_pos m9]; rfl
  ·refine NK ?_; refine cD (fun g => ?_) fun g => ?_
   refine kj ?_; refine LR rfl (Jd rfl (kn 0 rfl) rfl rfl) (GP ?_); refine Jc (Rl := WE r2 (.mk a b c d bits pb items pi pick) :: R) rfl rfl rfl (enters_of Tryz.func116 m5 rfl) (Jrq (caps := [Vk r2]) m0 (enters_of Tryz.func117 m5 rfl) (fun i hi => J22 hsb m0 r2 hi)) (fun q hq => (List.mem_cons.1 hq).elim (fun h => .inl (by rw [h]; exact List.mem_cons_of_mem _ List.mem_cons_self)) .inr) ?_; exact EP
   ·refine NK ?_; refine cD (fun g => ?_) fun g => ?_
    refine gu ?_; refine Jj (show _ = Value.int .i64 (((bits ++ [true]).length : Nat) : Int) from by rw [wrap_i64 m0 m0]; congr 1; rw [List.length_append]; rfl) (GP ?_)
    refine Jc (Rl := jP r3 bits.length :: WE r2 (.mk a b c d bits pb items pi pick) :: R) rfl rfl rfl (enters_of Tryz.func116 m5 rfl) (Jrq (caps := [Vk r3, Vk r2]) (by rw [List.length_append]; simp; omega) (enters_of Tryz.func118 m5 rfl) (fun i hi => J23 hsb m0 r3 r2 hi)) (fun q hq => by rcases List.mem_cons.1 hq with rfl | hq; exact .inl List.mem_cons_self; rcases List.mem_cons.1 hq with rfl | hq; exact .inl (List.mem_cons_of_mem _ List.mem_cons_self); exact .inr hq) ?_; exact EH
    ·refine NK ?_; refine cD (fun g => ?_) fun g => ?_
     refine He ?_
     have hk0 : k = 8 := by assumption
     have h81 := (m4 hk0).1
     have hx8 := VK (l := items) (i := 0) m0
     have hty8 := KC (hxl 0 m0)
     have hix8 : VF k pick 0 = pick.toNat := by unfold VF; rw [if_neg m0, if_pos hk0]
     rw [hix8] at hty8
     have hg8 := Vx hf3 hx8.1
     have hw8 := Nat.le_trans (vu (a := a) (b := b) (c := c) (d := d) (bits := bits) (pb := pb) (pi := pi) (pick := pick) hx8.2) hw
     have hrec := ih _ hx8.2 (JF k pick ins 0) (dp + 1) (hit _ hty8.2) (hci _ hty8.2) hg8 hw8
     have hpl8 := qB (X0 items 0) (JF k pick ins 0)
     refine gN ?_; refine JY (k := 1) rfl rfl rfl rfl rfl (Jd rfl (kn 1 rfl) rfl rfl) (HX ?_); refine JY (k := 6) rfl rfl rfl rfl rfl (Jd rfl (kn 2 rfl) rfl rfl) ?_
     refine Gj ?_; refine JY (k := 8) rfl rfl rfl rfl rfl (Jd rfl (kn 1 rfl) rfl rfl) (Gd ?_); refine JY (k := 12) rfl rfl rfl rfl rfl (Jd rfl (kn 1 rfl) rfl rfl) ?_
     refine HO ?_; refine JU (k := 15) rfl rfl rfl rfl rfl Jzd hrec oR (kw fun rv w1 hs1 => ?_); rfl
     ·refine gH ?_; refine E0 ?_
      refine LS 2 [1] rfl rfl (Jc rfl rfl rfl (enters_of Tryz.func119 m5 rfl) (hrow m9 m9 m9 m9 m9) oR (DP fun w1 hs1 => ?_))
      rfl
section
variable {c : Cx} {l : Kx} {L : Jp} {X : XP} {Q : Exit → Act → World → Prop} {d : List Deferred}
variable {ops : Array Oper} {rest : List Oper} {i : Nat} {v : Value} {t : TypeId} {ps : String} {af : Array Edge} {gd : Option (Nat × Bool)} {ty : TypeId}
theorem Jfn {x : Operand} {n : Nat} {p : Pl} {news xs : List Value} {L0 : Jp}
  (hp : L.Perm (JJ e xs row ++ L0)) (hg : Kv l ops ⟨some i, .call ⟨.builtin .append, #[x, y], #[t, t]⟩, ty, ps, af, gd⟩ = some true) (hi : Nat.ble (i + 1) c.n = true) (hx : Kq l x = some (J3 n row)) (hy : Kq l y = some (KE m p)) (hs : Seg R m news p) (hR : ∀ q ∈ R, known c L0 q.1 q.2)
  (ht : Kw c.P t = some e) (hz : QL c.P e = some z) (hsz : KZ c.P e = some sz) (hb : Ja1 c.P e = some b) (hzs : z.cells.size = sz) (h0 : 0 < sz) (hcs : news.length = m * sz) (hone : news.all Va = true) (ho : rowOk sz n xs row) (h63 : n + m ≤ 9223372036854775807) (h47 : (n + m) * b ≤ 140737488355328)
  (h : ∀ row', rowOk sz (n + m) (xs ++ news) row' → HL c d ((i, J3 (n + m) row') :: l) (JJ e (xs ++ news) row' ++ L0) X ops rest Q) : HL c d l L X ops (⟨some i, .call ⟨.builtin .append, #[x, y], #[t, t]⟩, ty, ps, af, gd⟩ :: rest) Q := by
 by_cases hm : m = 0
 ·subst hm
  have hn0 : news = [] := List.length_eq_zero_iff.1 (by rw [hcs, Nat.zero_mul])
  subst hn0
  have h2 := h row (by rw [List.append_nil, Nat.add_zero]; exact ho)
  rw [List.append_nil, Nat.add_zero] at h2; refine KR hp ?_
  cases row with
  | none => exact jL hg hi (show _ = some (Value.slice none n 0) from by rw [hx, ho.1]; rfl) hy ht hsz (by rw [ho.1]; exact Nat.le_refl _) (by rw [ho.1] at h2 ⊢; exact h2)
  | some q =>
   obtain ⟨r, cap, sp⟩ := q
   refine jL hg hi hx hy ht hsz ?_ h2
   have h3 := ho.2
   exact Nat.le_of_mul_le_mul_right (by omega : n * sz ≤ cap * sz) h0
 ·cases p with
  | none => exact absurd hs hm
  | some q =>
   obtain ⟨⟨r2, o2, s2⟩, cap⟩ := q
   obtain ⟨hs1, hs2⟩ := hs
   obtain ⟨h3, all, e', fr, h4, h5⟩ := hs2 m0
   have h3 : s2 = none := h3
   subst h3; rw [hcs] at h5; refine JB hp hg hi hx hy (hR _ h4) ht hz hsz hb hzs h0 h5 hcs hone m0 ho h63 h47 fun r' cap' spare hok => ?_; exact h (some (r', cap', spare)) hok
end
theorem Xc (h : Vc t v = 0) : Vp t 0 = 0 ∧ Ku v t = 0 := by
 unfold Vc at h
 split at h
 ·rename_i h1; exact ⟨h1, h⟩
 ·rename_i h1; exact absurd h h1
theorem Jkk (t : Ty) (h : wV v ≤ 20000) : (Vj v t).length ≤ 800000 := by have := qB v t; omega
theorem Jrs (ht : t.In R) (hv : v.In R) (hw : wV v ≤ 20000) : PureR Tryz.prog 52 [t.val, v.val].toArray (YI (ZY t v)) R := by
 have h1 := Jq4 ht hv
 have h2 := fun h => Jwh hv t 0 ht (Xc (t := t) (v := v) h).1 (Xc h).2 hw
 have hlb := Jkk t hw
 unfold ZY
 generalize Vc t v = e at h1 h2 ⊢
 generalize Vj v t = s at h2 hlb ⊢
 obtain ⟨k, n, p, ins⟩ := t
 obtain ⟨a, b, c, d, bits, pb, items, pi, pick⟩ := v
 refine Ja Tryz.func52 rfl rfl fun w => NA fun r1 r2 => ?_; refine XO 9 [1, 0] rfl rfl (Jc rfl rfl rfl (enters_of Tryz.func76 m5 rfl) h1 oR (HN ?_)); refine cD (fun g => ?_) fun g => ?_
 exact De
 ·refine QZ 6 [1, 0] rfl rfl (Jc rfl rfl rfl Jzd (h2 m0) oR (Gq ?_)); refine kG ?_; refine kU ?_; refine cD (fun g => ?_) fun g => ?_
  exact EO
  ·exact EM
theorem Jrt {n : Nat} (hn : n ≤ 4611686018427387904) : Pure Tryz.prog 124 [.int .i64 (n : Int)].toArray (Jy (qA n 4).1) := by
 have h := Jrb (n := n) m0 4
 generalize qA n 4 = q at h ⊢
 refine Jz Tryz.func124 rfl rfl fun w => G0 ?_; refine Jj (show _ = uV n from congrArg (Value.int .u64) (wrap_u64 m0 m0)) (J2 rfl rfl rfl (enters_of Tryz.func169 m5 rfl) h (J0 14 rfl ?_)); exact Nz
theorem Jru {k n : Int} {p : Pl} {ins : List Ty} (ht : Ty.In R (.mk k n p ins)) (hv : v.In R) (h8 : k ≠ 8) (hm : m ≤ 600) (hx : ∀ i, i < m → VF k 0 i < ins.length) : PureR Tryz.prog 121 [Ty.val (.mk k n p ins), v.val, .int .i64 (m : Int)].toArray (.int .i64 (Kp (KF k ins m))) R := by
 have hti := fun i h => ht.sub _ (KC (hx i h)).2
 have hin := fun i (h : i < m) => q7 (v := v) (i := i) (y := JF k 0 ins i) ht hv (fun e => absurd e h8) nZ
 obtain ⟨a, b, c, d, bits, pb, items, pi, pick⟩ := v
 refine Ja Tryz.func121 rfl rfl fun w => NA fun r1 r2 => ?_; refine JP 15 rfl (Js (σ := Nat) (fun i => i ≤ m) (fun i => [(2, .int .i64 (m : Int)), (3, Vk r1), (4, Vk r2), (7, .int .i64 (Kp (KF k ins i))), (8, .int .i64 (i : Int))]) (fun _ => [WE r2 (.mk a b c d bits pb items pi pick), VM r1 (.mk k n p ins)]) (fun _ _ _ => True) (fun i => m - i) 0 (Nat.zero_le _) (lK rfl) (List.Sublist.refl _) (fun _ _ h => h) ?_); intro i hi1; change HC _ _ _ ((r2, _) :: (r1, _) :: []) _ _ _; refine J9 8 rfl (cD (fun g => ?_) fun g => ?_)
 ·refine gr ?_
  have hil : i < m := by omega
  have hb1 := qD (JF k 0 ins i)
  have hb2 := Zt (KF k ins i)
  rw [WF] at hb2; refine QZ 4 [1, 0] rfl rfl (Jc rfl rfl rfl Jjy (hin i hil) oR (g7 fun r9 => ?_)); refine GU ?_; refine ko ?_; refine Jc rfl rfl rfl Jqg (ZQ (hti i hil)) oR (HY ?_); refine cD (fun g => ?_) fun g => ?_
  ·refine kj ?_; refine ko ?_; refine Jc rfl rfl rfl (enters_of Tryz.func140 m5 rfl) (zr (hti i hil)) oR (D0 ?_); refine Jj (show _ = Value.int .i64 (Kp (KF k ins (i + 1))) from by rw [vr, Zs, if_pos m9]; unfold YD; rw [if_pos m9]; exact congrArg (Value.int .i64) (wrap_i64 N2 N2)) (Gq ?_); exact GH
  ·refine GN ?_; refine Jj (show _ = Value.int .i64 (Kp (KF k ins (i + 1))) from by rw [vr, Zs, if_neg Mq]; exact congrArg (Value.int .i64) (wrap_i64 m0 m0)) (Gq ?_); exact GH
 ·refine NK ?_
  obtain rfl : m = i := by omega
  refine KQ 6 rfl ?_; exact Nz
theorem Jm3 (a b : List Bool) : Qd (a ++ b) = Qd a ++ Qd b := by unfold Qd; rw [List.map_append]
theorem Jrv (l : List Bool) : (Qd l).length = l.length := by unfold Qd; rw [List.length_map]
theorem Jm4 (l : List Bool) : (Qd l).all Va = true := by
 exact EI
set_option maxHeartbeats 1000000 in
theorem Jfo (hv : v.In R) : ∀ (t : Ty) (dp : Int), t.In R → Vp t dp = 0 → Ku v t = 0 → wV v ≤ 20000 → PureR Tryz.prog 82 [t.val, v.val].toArray (Jy (Vj v t)) R := by
 have hv0 := hv
 induction hv with
 | @mk a b c d bits pb items pi pick ha hb hc hd hlb hsb hl hs hp hi ih =>
 intro t dp ht hck hfit hw
 have ht0 := ht
 cases ht with
 | @mk k n p ins hk hn hlt hst hit =>
 obtain ⟨hk8, ho, h6, hci⟩ := QE hck
 obtain ⟨hf1, hf2, hf3⟩ := W1 hfit
 obtain ⟨m1, m2, m3, m4⟩ := qF hck hfit
 have hxl : ∀ i, i < items.length → VF k pick i < ins.length := fun i hi => Y4 (v := .mk a b c d bits pb items pi pick) hck hf2 hi
 have hwd : WOk [a, b, c, d] := ⟨rfl, fun x hx => by simp at hx; rcases hx with rfl | rfl | rfl | rfl <;> assumption⟩
 have hwl : wL items ≤ 20000 := by rw [wV] at hw; omega
 have hrB := zI items k 0 ins items 0
 obtain ⟨TOT, hTOT⟩ : ∃ T, T = XZ (Kp (KF k ins items.length)).toNat (Qf items k 0 ins 0) [] [] := ⟨_, rfl⟩
 refine Ja Tryz.func82 rfl rfl fun w => NA fun r1 r2 => ?_; refine Goc 17 [1] rfl rfl (cD (fun g => ?_) fun g => ?_)
 refine QZ 6 [0, 1] rfl rfl (J2 rfl rfl rfl Jqa (by rw [show n = ((n.toNat : Nat) : Int) by have := m3 m9; omega]; exact Jfd hwd (n := n.toNat) (by have := m3 m9; omega)) (Dc fun w1 hs1 => ?_)); rw [Qr, if_pos m9]; rfl
 ·refine NK ?_; refine cD (fun h8 => ?_) fun h8 => ?_
  refine gu ?_; refine J2 rfl rfl rfl Jqa (Jfd hwd (n := 1) m7) (Dc fun w1 hs1 => ?_); rw [Qr, if_neg m9, if_pos m9]; rfl
  ·refine NK ?_; refine cD (fun g => ?_) fun g => ?_
   refine gu ?_; refine Jc rfl rfl rfl Jmn (vt m0 hsb) oR ?_; exact EP
   ·refine NK ?_; refine cD (fun g => ?_) fun g => ?_
    refine QZ 10 [0] rfl rfl (Jfn (e := 4) (L0 := [_, _]) (xs := []) (row := none) (n := 0) (sz := 1) (b := 1) (List.Perm.refl _) rfl rfl rfl rfl hsb oR rfl rfl rfl rfl rfl m7 (by rw [Jrv, Nat.mul_one]) (Jm4 _) ⟨rfl, rfl⟩ m0 m0 fun row1 hr1 => ?_); rw [Nat.zero_add, List.nil_append] at hr1; rw [Nat.zero_add, List.nil_append]; refine G1 ?_; refine J8 (vs := [_]) (zs := [_]) (r := [_]) rfl rfl rfl rfl rfl rfl rfl rfl rfl mf rfl fun r3 => JB (L0 := _ :: [_, _]) (xs := Qd bits) (row := row1) (n := bits.length) (sz := 1) (b := 1) (news := [_]) List.perm_middle.symm rfl rfl rfl rfl (kn 0 rfl) rfl rfl rfl rfl rfl m7 rfl rfl rfl m7 hr1 m0 m0 fun ra cap sp hra => Jj (show _ = KE (bits ++ [true]).length (Qv (some (ra, cap, sp))) from by rw [List.length_append]; rfl) (Jc (Rl := JJ 4 (Qd bits ++ [Value.bool true]) (some (ra, cap, sp))) rfl rfl rfl Jmn (vt (l := bits ++ [true]) (by rw [List.length_append]; simp; omega) (by rw [Jm3, List.length_append]; exact Ke hra m7)) (fun q hq => .inl n7) ?_); exact EH
    ·refine NK ?_; refine cD (fun g => ?_) fun g => ?_
     refine He ?_
     have hk0 : k = 8 := by assumption
     have h81 := (m4 hk0).1
     have hx8 := VK (l := items) (i := 0) m0
     have hty8 := KC (hxl 0 m0)
     have hix8 : VF k pick 0 = pick.toNat := by unfold VF; rw [if_neg m0, if_pos hk0]
     rw [hix8] at hty8
     have hg8 := Vx hf3 hx8.1
     have hw8 := Nat.le_trans (vu (a := a) (b := b) (c := c) (d := d) (bits := bits) (pb := pb) (pi := pi) (pick := pick) hx8.2) hw
     have hrec := ih _ hx8.2 (hi _ hx8.2) (JF k pick ins 0) (dp + 1) (hit _ hty8.2) (hci _ hty8.2) hg8 hw8
     have hpl8 := qB (X0 items 0) (JF k pick ins 0)
     refine gN ?_; refine JY (k := 1) rfl rfl rfl rfl rfl (Jd rfl (kn 0 rfl) rfl rfl) (HX ?_); refine JY (k := 6) rfl rfl rfl rfl rfl (Jd rfl (kn 1 rfl) rfl rfl) ?_
     refine Gj ?_; refine JY (k := 8) rfl rfl rfl rfl rfl (Jd rfl (kn 0 rfl) rfl rfl) (Gd ?_); refine JY (k := 12) rfl rfl rfl rfl rfl (Jd rfl (kn 0 rfl) rfl rfl) ?_
     refine HO ?_; refine JU (k := 15) rfl rfl rfl rfl rfl Jvh hrec oR (kw fun rv w1 hs1 => ?_); rfl
     ·refine J9 4 rfl ?_
      have h8 : ¬ k = 8 := by assumption
      have hx0 : ∀ i, i < items.length → VF k 0 i < ins.length := fun i hi => by have := hxl i hi; unfold VF at this ⊢; rw [if_neg h8] at this ⊢; exact this
      have hput : Vj (.mk a b c d bits pb items pi pick) (.mk k n p ins) = TOT := by rw [Qr, if_neg m9, if_neg m9, if_neg m9, if_neg m9, if_neg h8, wR h8, zH]; exact hTOT.symm
      have hbg := Jru (m := items.length) ht0 hv0 h8 m0 hx0
      have hbl := Zt (KF k ins items.length)
      rw [WF] at hbl
      obtain ⟨H, hH⟩ : ∃ H, H = (Kp (KF k ins items.length)).toNat := ⟨_, rfl⟩
      have hHi : Kp (KF k ins items.length) = (H : Int) := by omega
      rw [hHi] at hbg; rw [← hH] at hTOT
      have hHb : H ≤ 1351079888211148800 := by omega
      refine QZ 15 [1, 0, 0] rfl rfl (NE ?_); refine Jc rfl rfl rfl (enters_of Tryz.func121 m5 rfl) hbg oR (DE ?_); refine Js (σ := Nat × BS × BS) (fun q => q.1 ≤ items.length ∧ XZ H (Qf (items.drop q.1) k 0 ins q.1) q.2.1 q.2.2 = TOT ∧ q.2.1.length + q.2.2.length + wh (Qf (items.drop q.1) k 0 ins q.1) ≤ 800000) (fun q => [(2, Vk r1), (3, Vk r2), (6, Jy q.2.1), (7, Jy q.2.2), (8, .int .i64 (H : Int)), (9, .int .i64 (q.1 : Int))]) (fun _ => [WE r2 (.mk a b c d bits pb items pi pick), VM r1 (.mk k n p ins)]) (fun _ _ _ => True) (fun q => items.length - q.1) (0, [], []) ⟨Nat.zero_le _, hTOT.symm, by show 0 + 0 + wh (Qf items k 0 ins 0) ≤ 800000; omega⟩ (lK rfl) (List.Sublist.refl _) (fun _ _ h => h) ?_; rintro ⟨i, f, th⟩ ⟨hi1, hinv, hlen⟩; simp only at hi1 hinv hlen; change HC _ _ [(2, _), (3, _), (6, Jy f), (7, Jy th), (8, _), (9, .int .i64 (i : Int))] ((r2, _) :: (r1, _) :: []) _ _ _; refine G8 ?_; refine cD (fun g => ?_) fun g => ?_
      ·refine gr ?_
       have hii : i < items.length := by omega
       have hti1 := ht0.sub _ (KC (hx0 i hii)).2
       have hix := VK hii
       have hin := q7 (v := .mk a b c d bits pb items pi pick) (i := i) (y := JF k 0 ins i) ht0 hv0 (fun e => absurd e h8) (by have := (KC (hx0 i hii)).1; unfold VF at this ⊢; rw [if_neg h8] at this ⊢; exact this)
       have hbi : PureR Tryz.prog 82 [(JF k 0 ins i).val, (X0 items i).val].toArray (Jy (Vj (X0 items i) (JF k 0 ins i))) R := by
        have hty := (KC (hx0 i hii)).2
        have hg := Vx hf3 hix.1
        rw [Nat.zero_add, qE h8] at hg; exact ih _ hix.2 (hi _ hix.2) _ (dp + 1) (hit _ hty) (hci _ hty) hg (Nat.le_trans (vu hix.2) hw)
       rw [X7 hix.1, Qf, XZ] at hinv; rw [X7 hix.1, Qf, jQ] at hlen
       obtain ⟨S, hS⟩ : ∃ S, S = Vj (X0 items i) (JF k 0 ins i) := ⟨_, rfl⟩
       simp only [← hS] at hinv hlen; rw [← hS] at hbi
       have hle4 := zx (H + th.length)
       refine QZ 4 [1, 0] rfl rfl (Jc rfl rfl rfl Jjy hin oR (g7 fun r9 => ?_)); refine kU ?_; refine JR 8 m5 m5 (EB ?_)
       refine Hq ?_; refine Nm ?_
       refine gW ?_; refine Jb rfl rfl rfl (KV oR rfl hs hix.1 rfl rfl) (V8 rfl rfl rfl Jvh hbi oR (ku ?_)); refine GU ?_; refine ko ?_; refine Jc rfl rfl rfl Jqg (ZQ hti1) oR (HY ?_); refine cD (fun g => ?_) fun g => ?_
       ·refine GN ?_; refine LR rfl (Qc (a := f) (b := S) rfl rfl m0) (Gq ?_); refine ND ?_
        (rw [if_pos m9] at hinv
         exact Jm (i + 1, f ++ S, th) ⟨by simp only; omega, hinv, by simp only [List.length_append]; omega⟩ ml (lK rfl) (.cons _ (List.Sublist.refl _)) (fun _ _ h => h))
       ·refine gH ?_; refine kG ?_
        refine D0 ?_; refine Jj ny (J2 rfl rfl rfl (enters_of Tryz.func124 m5 rfl) (Jrt (n := H + th.length) m0) (LR rfl (Qc (a := f) (b := (qA (H + th.length) 4).1) rfl rfl m0) (G1 ?_))); refine LR rfl (Qc (a := th) (b := S) rfl rfl m0) (Gq ?_); refine ND ?_
        (rw [if_neg Mq] at hinv
         exact Jm (i + 1, f ++ (qA (H + th.length) 4).1, th ++ S) ⟨by simp only; omega, hinv, by simp only [List.length_append]; omega⟩ ml (lK rfl) (.cons _ (List.Sublist.refl _)) (fun _ _ h => h))
      ·refine NK ?_
       have hin : i = items.length := by omega
       rw [hin, List.drop_length, Qf, XZ] at hinv; refine GN ?_; refine LR rfl (Qc (a := f) (b := th) rfl rfl m0) (DP fun w1 hs1 => ?_); rw [hput, ← hinv]; rfl
theorem Jzq (ht : t.In R) (hv : v.In R) (hw : wV v ≤ 20000) : PureR Tryz.prog 55 [t.val, v.val].toArray (YI (ZY t v)) R := by
 have h1 := Jhu ht hv
 have h2 := fun h => Jfo hv t 0 ht (Xc (t := t) (v := v) h).1 (Xc h).2 hw
 have hlb := Jkk t hw
 unfold ZY
 generalize Vc t v = e at h1 h2 ⊢
 generalize Vj v t = s at h2 hlb ⊢
 obtain ⟨k, n, p, ins⟩ := t
 obtain ⟨a, b, c, d, bits, pb, items, pi, pick⟩ := v
 refine Ja Tryz.func55 rfl rfl fun w => NA fun r1 r2 => ?_; refine XO 8 [1, 0] rfl rfl (Jc rfl rfl rfl (enters_of Tryz.func81 m5 rfl) h1 oR (DE ?_)); refine cD (fun g => ?_) fun g => ?_
 exact De
 ·refine QZ 6 [1, 0] rfl rfl (Jc rfl rfl rfl Jvh (h2 m0) oR (Gq ?_)); refine kG ?_; refine kU ?_; refine cD (fun g => ?_) fun g => ?_
  exact EO
  ·exact EM
section
variable {c : Cx} {l : Kx} {L : Jp} {X : XP} {d : List Deferred} {i : Nat} {ps : String} {af : Array Edge} {gd : Option (Nat × Bool)} {ty : TypeId}
theorem Jfp {x : Operand} {b : List UInt8} {off n : Nat} {e src dst : TypeId} (hx : Kq l x = some (.slice (some ⟨r, off, none⟩) n cap)) (hk : known c L r (.cells cs e fr)) (hn : n = b.length) (ht : (cs.toList.drop off).take b.length = b.map bV)
  (hs : Kw c.P src = some e) (he : c.P.underlying e = some (.int .u8)) (hd : yr c.P dst = true) :
  JC c d l L X ⟨some i, .convert src dst x, ty, ps, af, gd⟩ (.string (bs b)) := fun a' w hf hst => by
 subst hn; simp only [execOp]; rw [hf.eval hx]
 have hget := hst.known hk
 have hl : (loadCells ⟨r, off, none⟩ (b.map bV).length).run c.P w = .ok (b.map bV).toArray w := run_loadCells_list w ⟨r, off, none⟩ (b.map bV) fun j v hj => by
  have hlt := (List.getElem?_eq_some_iff.1 hj).1
  rw [List.length_map] at hlt
  have hj2 : cs[off + j]? = some v := by
   rw [← ht, List.getElem?_take, if_pos hlt, List.getElem?_drop] at hj
   simpa using hj
  rw [qh, W5 hget]; exact hj2
 rw [List.length_map] at hl; simp only [Sem.run_bind]; rw [run_convert_bytes_string w src dst e _ _ _ (Kt hs) he (V4 hd)]; rw [run_bytesToString w _ _ _ (b.map fun x => ((x.toNat : Nat) : Int)) MI]
 have := jt b []
 rw [show (bs [] : ByteArray) = ByteArray.empty from rfl] at this; rw [this]
 rfl
end
def WH (s : BS) (i : Nat) : BS := (s.drop (32 * i)).take 32
def vv (s : BS) : Nat := (s.length + 31) / 32
def jC (s : BS) (m : Nat) : List BS := (List.range m).map fun i => Y1 (WH s i)
def Wv (s : BS) : List BS := jC s (vv s)
theorem Jrw (s : BS) (m : Nat) : (jC s m).length = m := by unfold jC; rw [List.length_map, List.length_range]
theorem Yb (s : BS) : (Wv s).length = vv s := Jrw _ _
theorem Yc (s : BS) (i : Nat) : (WH s i).length = min 32 (s.length - 32 * i) := by unfold WH; rw [List.length_take, List.length_drop]
theorem Jak (s : BS) (i : Nat) : VH (jC s (i + 1)) = VH (jC s i) ++ [Jy (Y1 (WH s i))] := by
 unfold jC
 rw [List.range_succ, List.map_append, List.map_cons, List.map_nil, Wo]
theorem VX (s : BS) : ∀ x ∈ Wv s, x.length = 32 := by
 intro x hx
 unfold Wv jC at hx
 obtain ⟨i, _, rfl⟩ := List.mem_map.1 hx
 exact W9 (by rw [Yc]; omega)
theorem Jrx (s : BS) (i : Nat) (sp : List Value) : ((s.map bV ++ sp).toArray.toList.drop (32 * i)).take (WH s i).length = (WH s i).map bV := by
 simp only [List.toList_toArray]; rw [Yc]
 by_cases h : 32 * i ≤ s.length
 ·rw [List.drop_append_of_le_length M6, List.take_append_of_le_length Ms]
  unfold WH
  rw [List.map_take, List.map_drop]
  rcases Nat.le_total 32 (s.length - 32 * i) with h2 | h2
  ·rw [Nat.min_eq_left h2]
  ·rw [Nat.min_eq_right h2, List.take_of_length_le Ms, List.take_of_length_le Ms]
 ·unfold WH
  rw [show s.length - 32 * i = 0 by omega, Nat.min_zero, List.take_zero, List.drop_of_length_le m0]; rfl
theorem Jm5 (s : BS) (i : Nat) : (s.take (min (32 * i + 32) s.length)).drop (32 * i) = WH s i := by
 unfold WH
 rw [List.drop_take]
 rcases Nat.le_total (32 * i + 32) s.length with h | h
 ·rw [Nat.min_eq_left h, show 32 * i + 32 - 32 * i = 32 by omega]
 ·rw [Nat.min_eq_right h, List.take_of_length_le Me, List.take_of_length_le Me]
def chM (rb n cap : Nat) (p : Nat × Nat) : Jp := [(p.2, .cells #[.int .i64 32] 3 (0, 0)), (p.1, .cells #[.slice (some ⟨rb, 0, none⟩) n cap] 55 (0, 0))]
theorem Jry (rb n cap : Nat) : PureE (α := Nat × Nat) Tryz.prog 236 [.slice (some ⟨rb, 0, none⟩) n cap, .int .i64 32].toArray (fun p => .func (.func 257) #[] #[Vk p.1, Vk p.2]) (chM rb n cap) := by
 refine VP Tryz.func236 rfl rfl fun w => NA fun r1 r2 => ?_; refine Goc 10 [0] rfl rfl (JI rfl (fun h4 => ?_) (fun h4 => ?_))
 exact absurd h4 m7
 ·try simp only [ZZ] at h4
  refine GO ?_; exact kN
def Jic (rb n j : Nat) : List Value := [.slice (some ⟨rb, 32 * j, none⟩) (min 32 (n - 32 * j)) (min 32 (n - 32 * j))]
theorem Jrz {n : Nat} (hn : N = (n + 31) / 32) (hcap : n ≤ cap) (hlim : n ≤ 1000000) (p1 p2 : Nat) : Ja2 Tryz.prog 257 [Vk p1, Vk p2] (chM rb n cap (p1, p2)) 0 (nxN (Jic rb n) N) (Jgq N) := by
  refine WW Tryz.func257 rfl rfl fun q xids w2 XI XF hY => JN (NK ?_); refine Js (σ := Nat) (fun i => i ≤ N) (fun i => [(0, .func (.yield q) #[] #[]), (1, Vk p1), (2, Vk p2), (4, .int .i64 ((32 * i : Nat) : Int))]) (fun _ => []) (fun i => XI i) (fun i => N - i) 0 (Nat.zero_le _) (lK rfl) (List.nil_sublist _) (fun _ _ h => h) ?_; intro i hi; refine GO ?_; refine H0 ?_; refine gg ?_; refine kU ?_; refine cD (fun g => ?_) fun g => ?_
  · refine gr ?_
    obtain ⟨M, hM⟩ : ∃ M, M = min 32 (n - 32 * i) := ⟨_, rfl⟩
    have hM1 : M ≤ 32 := by omega
    have hM2 : 0 < M := by omega
    refine EA ?_; refine Jb rfl rfl rfl (JZ (kl := some (32 * i)) (kh := none) (km := none) (sz := 1) (m := 32 * i) (q := n) (z := cap) rfl rfl rfl ⟨_, rfl⟩ trivial trivial rfl rfl rfl m0 hcap (Nat.le_refl _) (fun _ => rfl) rfl) (Jb rfl rfl rfl (KS rfl rfl) ?_)
    refine Jb rfl rfl rfl (Jg0 (r := ((M : Nat) : Int)) rfl rfl (by rw [hM]; split <;> omega)) ?_; refine ku ?_; refine kB ?_; refine H0 ?_; refine GU ?_; refine Jj nF ?_; refine JK 3 rfl ?_; refine Jj nF ?_
    refine LR rfl (JZ (kl := some (32 * i)) (kh := some (32 * i + M)) (km := some (32 * i + M)) (sz := 1) (m := 32 * i) (q := 32 * i + M) (z := 32 * i + M) (off' := 32 * i) rfl rfl rfl ⟨_, rfl⟩ ⟨_, rfl⟩ ⟨_, rfl⟩ rfl rfl rfl m0 (Nat.le_refl _) m0 (fun h => by cases h) mz) ?_; refine Jj (show _ = Value.slice (some ⟨rb, 32 * i, none⟩) (min 32 (n - 32 * i)) (min 32 (n - 32 * i)) from by congr 1 <;> omega) ?_; refine Xi (XT := XI (i + 1)) (XF := XF) rfl rfl rfl rfl (hY i (Jic rb n i) (i + 1) ⟨by omega, rfl, rfl⟩) ?_ ?_
    all_goals (
     refine HV ?_; refine JI rfl (fun g => ?_) (fun g => ?_)
     · try exact Bool.noConfusion g
       all_goals try simp only [ZZ] at g
       all_goals (
        exact Nv
        skip)
     · try exact Bool.noConfusion g
       all_goals try simp only [ZZ] at g
       all_goals (
        refine gH ?_; refine GZ ?_
        refine D0 ?_; refine Jj nC (HG ?_); exact kr
        skip)
     skip)
  · exact Hg
theorem J1i (hl : s.length ≤ 1000000) : PureT (α := { row : Vn // rowOk 1 (vv s) (VH (Wv s)) row }) Tryz.prog 172 [Jy s].toArray (fun x => J3 (vv s) x.1) [] (fun x => JJ 9 (VH (Wv s)) x.1) [] := by
 obtain ⟨N, hN⟩ : ∃ N, N = vv s := ⟨_, rfl⟩
 have hN2 : N = (s.length + 31) / 32 := hN
 have hC : Wv s = jC s N := by rw [hN]; rfl
 rw [hC, ← hN]; refine JE Tryz.func172 rfl rfl fun w => JN (Jt 7 rfl (LN rfl fun r1 => G1 ?_)); refine Yp rfl rfl rfl rfl rfl rfl fun rb kb => VD rfl rfl rfl (enters_of Tryz.func236 m5 rfl) (Jry rb s.length (s.length + kb)) fun pp => ?_
 obtain ⟨p1, p2⟩ := pp
 change HL _ _ _ [(p2, _), (p1, _), (rb, _), (r1, _)] _ _ _ _; refine kU ?_; refine YZ [3, 0, 1, 2] (L' := [_, _, _, _]) m7 rfl ?_
 refine XB (τ := Unit) (fun i (q : Nat × Vn) => i ≤ N ∧ i = q.1 ∧ rowOk 1 q.1 (VH (jC s q.1)) q.2) (fun q => (r1, .cells #[J3 q.1 q.2] 109 (0, 0)) :: JJ 9 (VH (jC s q.1)) q.2) (fun _ _ => False) (fun _ => []) [(p2, _), (p1, _), (rb, _)] (0, none) rfl rfl (enters_of Tryz.func257 m5 rfl) (Jrz (rb := rb) (cap := s.length + kb) hN2 m0 hl p1 p2) mI rfl (fun q hq => .inl (by rcases List.mem_cons.1 hq with rfl | hq; exact List.mem_cons_self; rw [List.mem_singleton.1 hq]; exact List.mem_cons_of_mem _ List.mem_cons_self)) rfl ⟨Nat.zero_le _, rfl, rfl, rfl⟩ ?_ ?_ ?_
 rintro q Xr Xb w3 i _ _ ⟨i2, row⟩ ⟨hii, rfl, rfl⟩ ⟨him, he, hrow⟩ Kr hKr; refine inR ?_
 simp only at he
 obtain rfl := he
 simp only at hrow
 unfold Jic
 refine KQ 3 rfl (hKr _ _ (JN ?_)); clear hKr; refine He ?_
 have hfull := Jia (s := WH s i) (by rw [Yc]; omega)
 have hsn := Jak s i
 obtain ⟨sv, hsv⟩ : ∃ x, x = Y1 (WH s i) := ⟨_, rfl⟩
 rw [← hsv] at hfull hsn
 refine JD [] [(1, .pure), (3, .pure), (4, .grow (VS (slV 1) (.cells #[Jy sv] 9 (0, 0))))] 5 [0, 1, 2, 3, 4] m5 m5 m6 (JY (k := 0) rfl rfl rfl rfl rfl (Jd (v := J3 i row) rfl (kn 0 rfl) rfl rfl) (Jk (k := 1) rfl rfl rfl rfl rfl (fun _ hS => (Jg rfl)) (JY (k := 2) rfl rfl rfl rfl rfl (Jfp (b := WH s i) rfl (JG (k := 2) rfl) (Yc s i).symm (Jrx s i _) rfl rfl rfl) (Vi (k := 3) rfl rfl rfl rfl rfl Jql hfull (QS (k := 4) (n := 1) (sz := 1) (vs := [_]) (zs := [_]) (r := [Jy sv]) rfl rfl rfl rfl rfl rfl rfl rfl rfl rfl rfl mf rfl fun rv => Kc (JB (L0 := [_, _]) (xs := VH (jC s i)) (row := row) (n := i) (sz := 1) (b := 16) (news := [Jy sv]) (List.perm_append_comm (l₁ := [_, _])) rfl rfl rfl rfl (kn 0 rfl) rfl rfl rfl rfl rfl m7 rfl rfl rfl m7 hrow m0 m0 fun ra cap sp hra => Ky (k := 2) (cs' := #[J3 (i + 1) (some (ra, cap, sp))]) rfl rfl rfl rfl rfl rfl rfl rfl rfl rfl (J0 2 rfl (Qm [2, 0] (L' := [_, _]) m7 rfl ?_)))))))); exact Vg (i + 1, some (ra, cap, sp)) ⟨by omega, rfl, by simp only; rw [hsn]; exact hra⟩ (by simp only; rw [hsn]; rfl)
 rintro D i ⟨i2, row⟩ hfi ⟨him, he, hrow⟩
 simp only at he hrow
 obtain rfl : N = i := Eq.symm hfi
 obtain rfl := he
 refine gqo 4 rfl (LR rfl (Jd (v := J3 N row) rfl (kn 1 rfl) rfl rfl) (Ge ?_)); refine DX ?_; refine ke fun w1 hs1 => ?_; exact ⟨⟨row, hrow⟩, rfl, hs1.weakL (.cons _ (.cons _ (List.sublist_append_left _ _)))⟩
 ·exact Gb
theorem Jr0 {n : Nat} (hn : n ≤ 4611686018427387904) : Pure Tryz.prog 173 [.int .i64 (n : Int)].toArray (.int .i64 (((n + 31) / 32 : Nat) : Int)) := by
 refine Jz Tryz.func173 rfl rfl fun w => ?_; refine G0 ?_; refine Jj (show _ = Value.int .i64 ((n + 32 : Nat) : Int) from by rw [wrap_i64 m0 m0]; congr 1 <;> omega) ?_
 refine D0 ?_; refine Jj (show _ = Value.int .i64 ((n + 31 : Nat) : Int) from by rw [wrap_i64 m0 m0]; congr 1 <;> omega) ?_; refine Vf rfl (Jj (show _ = Value.int .i64 (((n + 31) / 32 : Nat) : Int) from congrArg (Value.int .i64) (Kl m0 m7 m0)) (J0 4 rfl ?_)); exact Nz
theorem Jm6 (hl : s.length ≤ 1000000) : PureT (α := { row : Vn // rowOk 1 (vv s) (VH (Wv s)) row }) Tryz.prog 90 [Jy s].toArray (fun x => J3 (vv s) x.1) [] (fun x => JJ 9 (VH (Wv s)) x.1) [] := by
 obtain ⟨N, hN⟩ : ∃ N, N = vv s := ⟨_, rfl⟩
 have hN2 : N = (s.length + 31) / 32 := hN
 have hC : Wv s = jC s N := by rw [hN]; rfl
 rw [hC, ← hN]; refine JE Tryz.func90 rfl rfl fun w => JN (J9 17 rfl (Js (σ := Nat × Vn) (fun q => q.1 ≤ N ∧ rowOk 1 q.1 (VH (jC s q.1)) q.2) (fun q => [(0, Jy s), (3, J3 q.1 q.2), (4, .int .i64 ((32 * q.1 : Nat) : Int))]) (fun q => JJ 9 (VH (jC s q.1)) q.2) (fun _ _ _ => True) (fun q => N - q.1) (0, none) ⟨Nat.zero_le _, rfl, rfl⟩ (lK rfl) (List.Sublist.refl _) (fun _ _ h => h) ?_)); rintro ⟨i, row⟩ ⟨hi1, hrow⟩; simp only at hi1 hrow; change HC _ _ [(0, Jy s), (3, J3 i row), (4, .int .i64 ((32 * i : Nat) : Int))] (JJ _ (VH (jC s i)) row) _ _ _; refine gH ?_; refine kG ?_; refine kU ?_; refine cD (fun g => ?_) fun g => ?_
 ·refine gr ?_
  have hil : 32 * i < s.length := by omega
  obtain ⟨E, hE⟩ : ∃ E, E = min (32 * i + 32) s.length := ⟨_, rfl⟩
  obtain ⟨P, hPd⟩ : ∃ P, P = WH s i := ⟨_, rfl⟩
  have hP : (s.take E).drop (32 * i) = P := by rw [hPd, hE]; exact Jm5 s i
  have hPl : P.length ≤ 32 := by rw [hPd, Yc]; omega
  have hsn := Jak s i
  rw [← hPd] at hsn
  obtain ⟨sv, hsv⟩ : ∃ x, x = Y1 P := ⟨_, rfl⟩
  rw [← hsv] at hsn; refine gH ?_; refine Jj (show _ = Value.int .i64 ((32 * i + 32 : Nat) : Int) from by rw [wrap_i64 m0 m0]; congr 1 <;> omega) ?_; refine Vb rfl (LR rfl (JO rfl rfl) ?_)
  refine LR rfl (Jg0 (r := ((E : Nat) : Int)) rfl rfl (by rw [hE]; split <;> omega)) ?_; refine LR rfl (Vu (kl := some (.i64, ((32 * i : Nat) : Int))) (kh := some (.i64, (E : Int))) (m := 32 * i) (n := E) (r := P) rfl rfl rfl rfl rfl rfl m0 m0 hP) ?_; refine Gq ?_; refine kG ?_
  refine D0 ?_; refine Jj (show _ = Value.int .i64 ((32 - P.length : Nat) : Int) from by rw [wrap_i64 m0 m0]; congr 1 <;> omega) ?_; refine Wq (n := 32 - P.length) (b := 1) rfl rfl rfl rfl rfl rfl rfl rfl rfl m0 m0 fun rm => ?_; refine LR rfl (KB (b := List.replicate (32 - P.length) 0) (row := some (rm, 32 - P.length, [])) (e := 5) (show _ = some (J3 (List.replicate (32 - P.length) (0 : UInt8)).length _) from by rw [List.length_replicate]; rfl) ⟨by simp, by simp⟩ (fun p hp => .inl (by rw [List.mem_singleton.1 hp, List.append_nil, List.map_replicate]; exact List.mem_cons_self)) rfl rfl rfl) ?_; refine LR rfl (Qc (a := P) (b := List.replicate (32 - P.length) 0) rfl rfl MS) ?_; refine Jj (show _ = Jy sv from by rw [hsv]; rfl) ?_; refine kc fun r1 => ?_; refine JB (L0 := [_, _]) (xs := VH (jC s i)) (row := row) (n := i) (sz := 1) (b := 16) (news := [Jy sv]) (List.perm_append_comm (l₁ := [_, _])) rfl rfl rfl rfl (kn 0 rfl) rfl rfl rfl rfl rfl m7 rfl rfl rfl m7 hrow m0 m0 fun ra cap sp hra => ?_; refine Gq ?_; refine Jj nC ?_; refine HG ?_; refine Qm [0] (L' := [_]) m7 rfl ?_; exact Jm (i + 1, some (ra, cap, sp)) ⟨by simp only; omega, by simp only; rw [hsn]; exact hra⟩ ml (lK rfl) (by simp only; rw [hsn]; exact List.Sublist.refl _) (fun _ _ h => h)
 ·refine NK ?_
  obtain rfl : i = N := by omega
  exact E2
def WI (x : Ty) : Bool := decide (x.k = 1) || decide (x.k = 2)
def WJ (items : List Vl) (x : Ty) : BS := (items.map fun v => Vj v x).flatten
def VY (k n : Int) (ins : List Ty) (items : List Vl) (rs : List BS) : BS :=
 if k = 7 then QR rs ins.length else if WI (ins.getD 0 default) = true then QR (Wv (WJ items (ins.getD 0 default))) ((n.toNat * (JV (ins.getD 0 default)).toNat + 31) / 32) else QR rs n.toNat
mutual
def KD : Vl → Ty → BS
 | .mk a b c d bits _ items _ pick, t =>
  if t.k = 1 ∨ t.k = 2 then wp [a, b, c, d] 32 else if t.k = 4 then XA (VY t.k t.n t.ins items (Kf items t.k pick t.ins 0)) items.length
  else if t.k = 5 then QR (Wv (V9 bits)) ((t.n.toNat + 255) / 256) else if t.k = 6 then XA (QR (Wv (V9 bits)) ((t.n.toNat + 255) / 256)) bits.length
  else if t.k = 8 then XA ((Kf items t.k pick t.ins 0).headD []) pick.toNat else VY t.k t.n t.ins items (Kf items t.k pick t.ins 0)
def Kf : List Vl → Int → Int → List Ty → Nat → List BS
 | [], _, _, _, _ => []
 | x :: xs, k, pick, ins, i => KD x (JF k pick ins i) :: Kf xs k pick ins (i + 1)
end
section
variable {a b c d : Nat} {bits : List Bool} {pb : Pl} {items : List Vl} {pi : Pl} {pick k n : Int} {p : Pl} {ins : List Ty}
theorem WK : KD (.mk a b c d bits pb items pi pick) (.mk k n p ins) = if k = 1 ∨ k = 2 then wp [a, b, c, d] 32 else if k = 4 then XA (VY k n ins items (Kf items k pick ins 0)) items.length
  else if k = 5 then QR (Wv (V9 bits)) ((n.toNat + 255) / 256) else if k = 6 then XA (QR (Wv (V9 bits)) ((n.toNat + 255) / 256)) bits.length
  else if k = 8 then XA ((Kf items k pick ins 0).headD []) pick.toNat else VY k n ins items (Kf items k pick ins 0) := by rw [KD]; rfl
end
theorem VG : ∀ (l : List Vl) (k pick : Int) (ins : List Ty) (i : Nat), (Kf l k pick ins i).length = l.length
 | [], _, _, _, _ => by rw [Kf]; rfl
 | x :: xs, k, pick, ins, i => by rw [Kf, List.length_cons, VG xs, List.length_cons]
theorem qG {k : Int} (h8 : k ≠ 8) (pick : Int) (ins : List Ty) : ∀ (l : List Vl) (i : Nat), Kf l k pick ins i = Kf l k 0 ins i
 | [], i => by rw [Kf, Kf]
 | x :: xs, i => by rw [Kf, Kf, qG h8 pick ins xs (i + 1), qE h8]
theorem Xd : ∀ {l : List Vl} {k pick : Int} {ins : List Ty} {i : Nat} {s : BS}, s ∈ Kf l k pick ins i → ∃ j x, l[j]? = some x ∧ s = KD x (JF k pick ins (i + j))
 | [], _, _, _, _, _, h => by rw [Kf] at h; cases h
 | y :: ys, k, pick, ins, i, s, h => by
  rw [Kf] at h
  rcases List.mem_cons.1 h with rfl | h
  ·exact ⟨0, y, rfl, rfl⟩
  ·obtain ⟨j, x, h1, h2⟩ := Xd h
   exact ⟨j + 1, x, h1, by rw [h2, show i + 1 + j = i + (j + 1) by omega]⟩
theorem jR (k : Int) (ins : List Ty) : ∀ {l : List Vl} {i j : Nat} {x : Vl}, l[j]? = some x → (Kf l k 0 ins i).take (j + 1) = (Kf l k 0 ins i).take j ++ [KD x (JF k 0 ins (i + j))]
 | [], _, _, _, h => by simp at h
 | y :: ys, i, 0, x, h => by
  simp at h; subst h; rw [Kf]; rfl
 | y :: ys, i, j + 1, x, h => by
  rw [List.getElem?_cons_succ] at h; rw [Kf, List.take_succ_cons, List.take_succ_cons, jR k ins h, show i + 1 + j = i + (j + 1) by omega]; rfl
theorem Jwi {k n : Int} {p : Pl} {ins : List Ty} {d : Int} (hk : 1 ≤ k ∧ k ≤ 8) (ho : JM k n ins.length = true) : Vp (.mk k n p ins) d = if 6 ≤ d then 7 else Xw ins (d + 1) := by
 rw [Vp, if_neg m0, if_neg (by rw [ho]; simp)]
theorem Jal : ∀ {ins : List Ty} {d : Int}, (∀ x ∈ ins, Vp x d = 0) → Xw ins d = 0
 | [], _, _ => by rw [Xw]
 | x :: xs, d, h => by
  rw [Xw, if_pos (h x List.mem_cons_self)]; exact Jal fun y hy => h y (List.mem_cons_of_mem _ hy)
theorem Jm7 (t : Ty) : ∀ d : Int, Vp t (d + 1) = 0 → Vp t d = 0 := by
 induction t using Ty.ind with
 | h k n p ins ih =>
  intro d h
  obtain ⟨hk, ho, h6, hi⟩ := QE h
  rw [Jwi hk ho, if_neg m0]; exact Jal fun x hx => ih x hx (d + 1) (hi x hx)
theorem vw {t : Ty} : ∀ {d : Nat}, Vp t (d : Int) = 0 → Vp t 0 = 0
 | 0, h => h
 | d + 1, h => vw (d := d) (Jm7 t d (by rw [Int.natCast_add] at h; exact h))
theorem VZ {k n : Int} {p : Pl} {ins : List Ty} (h : Vp (.mk k n p ins) 0 = 0) : ∀ x ∈ ins, Vp x 0 = 0 := fun x hx => vw (d := 1) ((QE h).2.2.2 x hx)
theorem YM (hc : Vp x 0 = 0) (hp : WI x = true) : JL x = true ∧ 1 ≤ JV x ∧ JV x ≤ 32 ∧ ∀ v : Vl, Ku v x = 0 → ((Vj v x).length : Int) = JV x := by
 obtain ⟨k, n, p, ins⟩ := x
 obtain ⟨hk, hf, _, _⟩ := QE hc
 have hk2 : k = 1 ∨ k = 2 := by
  unfold WI at hp
  rw [Bool.or_eq_true] at hp; exact hp.imp of_decide_eq_true of_decide_eq_true
 unfold JM at hf
 have hins : ins.length = 0 := by
  rcases hk2 with rfl | rfl
  all_goals generalize ins.length = m at hf ⊢
  all_goals simp at hf
  all_goals omega
 have hi : ins = [] := List.length_eq_zero_iff.1 hins
 subst hi
 rcases hk2 with rfl | rfl
 ·have hn : 1 ≤ n ∧ n ≤ 32 := by simp at hf; omega
  refine ⟨W0.2 ⟨hc, by rw [Wi, Zf]; rfl⟩, by rw [JV, if_pos rfl]; exact hn.1, by rw [JV, if_pos rfl]; exact hn.2, fun v _ => ?_⟩
  obtain ⟨a, b, c, d, bits, pb, items, pi, pick⟩ := v
  rw [Qr, if_pos rfl, JV, if_pos rfl, wI _ m0]; omega
 ·refine ⟨W0.2 ⟨hc, by rw [Wi, Zf]; rfl⟩, by rw [JV, if_neg m7, if_pos rfl]; decide, by rw [JV, if_neg m7, if_pos rfl]; decide, fun v _ => ?_⟩
  obtain ⟨a, b, c, d, bits, pb, items, pi, pick⟩ := v
  rw [Qr, if_neg m7, if_pos rfl, JV, if_neg m7, if_pos rfl, wI _ m7]
  rfl
theorem ja {x : Ty} {z : Nat} : ∀ {items : List Vl}, (∀ v ∈ items, (Vj v x).length = z) → (WJ items x).length = items.length * z
 | [], _ => by unfold WJ; simp
 | v :: l, h => by
  have ih := ja (items := l) fun y hy => h y (List.mem_cons_of_mem _ hy)
  unfold WJ at ih ⊢
  rw [List.map_cons, List.flatten_cons, List.length_append, ih, h v List.mem_cons_self, List.length_cons, Nat.succ_mul, Nat.add_comm]
theorem qH {a : Nat} {bits : List Bool} {items : List Vl} {pick k n : Int} {p : Pl} {ins : List Ty} (hc : Vp (.mk k n p ins) dp = 0) (h : Ku (.mk a b c d bits pb items pi pick) (.mk k n p ins) = 0) :
  (k = 3 ∨ k = 4 → 1 ≤ n ∧ n ≤ 512 ∧ (items.length : Int) ≤ n ∧ ins.length = 1) ∧ (k = 5 ∨ k = 6 → 1 ≤ n ∧ n ≤ 512 ∧ (bits.length : Int) ≤ n) ∧ (k = 7 → items.length = ins.length ∧ 1 ≤ ins.length ∧ ins.length ≤ 16) := by
 obtain ⟨h1, h2, _⟩ := W1 h
 obtain ⟨hk, hf, _, _⟩ := QE hc
 rw [QA k n ins.length a b c d bits pb items pi pick _ rfl] at h2; simp only [Q0] at h2
 unfold JM at hf
 have h9 : k = 1 ∨ k = 2 ∨ k = 3 ∨ k = 4 ∨ k = 5 ∨ k = 6 ∨ k = 7 ∨ k = 8 := by omega
 rcases h9 with rfl | rfl | rfl | rfl | rfl | rfl | rfl | rfl
 all_goals generalize items.length = I at *
 all_goals generalize bits.length = J at *
 all_goals generalize ins.length = K at *
 all_goals simp at h1 h2 hf ⊢
 all_goals omega
theorem j6 {bits : List Bool} {n : Int} (h : (bits.length : Int) ≤ n) : (Wv (V9 bits)).length ≤ (n.toNat + 255) / 256 := by
 rw [Yb]
 unfold vv
 rw [WZ]; omega
theorem Wa (v : Vl) : ∀ (t : Ty) (dp : Nat), Vp t (dp : Int) = 0 → Ku v t = 0 → (KD v t).length = 32 := by
 induction v using Vl.ind with
 | h a b c d bits pb items pi pick ih =>
 intro t dp hck hfit
 obtain ⟨k, n, p, ins⟩ := t
 obtain ⟨hk8, ho, h6, hci⟩ := QE hck
 obtain ⟨hf1, hf2, hf3⟩ := W1 hfit
 obtain ⟨q1, q2, q3⟩ := qH hck hfit
 have hxl : ∀ i, i < items.length → VF k pick i < ins.length := fun i hi => Y4 (v := .mk a b c d bits pb items pi pick) hck hf2 hi
 have hrs : ∀ s ∈ Kf items k pick ins 0, s.length = 32 := fun s hs => by
  obtain ⟨j, x, h1, rfl⟩ := Xd hs
  have hlt := (List.getElem?_eq_some_iff.1 h1).1
  rw [Nat.zero_add]
  have hty := KC (hxl j hlt)
  exact ih x (List.mem_of_getElem? h1) _ (dp + 1) (hci _ hty.2) (by have := Vx hf3 h1; rwa [Nat.zero_add] at this)
 have hrl := VG items k pick ins 0
 have hrow : k = 3 ∨ k = 4 ∨ k = 7 → (VY k n ins items (Kf items k pick ins 0)).length = 32 := fun hk => by
  unfold VY
  split
  ·rename_i h7
   exact VE (by have := q3 h7; omega) hrs
  ·rename_i h7
   have := q1 m0
   split
   ·rename_i hp
    have hin0 : ins.getD 0 default ∈ ins := by
     match ins, this.2.2.2 with
     | [x], _ => exact List.mem_cons_self
    have hc0 : Vp (ins.getD 0 default) 0 = 0 := VZ (vw hck) _ hin0
    obtain ⟨f1, f2, f3, f4⟩ := YM hc0 hp
    refine VE ?_ (VX _); rw [Yb]
    unfold vv
    have hz : ∀ v ∈ items, (Vj v (ins.getD 0 default)).length = (JV (ins.getD 0 default)).toNat := fun v hv => by
     obtain ⟨j, hj⟩ := List.getElem?_of_mem hv
     have hg := Vx hf3 hj
     rw [Nat.zero_add] at hg
     have he : JF k pick ins j = ins.getD 0 default := by unfold JF VF; rw [if_neg h7, if_neg m0]
     rw [he] at hg
     have := f4 v hg
     omega
    rw [ja hz]
    have hm : items.length * (JV (ins.getD 0 default)).toNat ≤ n.toNat * (JV (ins.getD 0 default)).toNat := Nat.mul_le_mul_right _ m0
    omega
   ·exact VE m0 hrs
 rw [WK]
 split
 ·exact wI _ (Nat.le_refl _)
 ·split
  ·exact jx _
  ·split
   ·rename_i h5
    exact VE (j6 (q2 m0).2.2) (VX _)
   ·split
    ·exact jx _
    ·split
     ·exact jx _
     ·exact hrow m0
def WL (head : Nat) : List (Ty × List UInt8) → Nat → List UInt8
 | [], _ => []
 | (x, s) :: l, n => if JL x then s ++ WL head l n else (qA (head + n) 4).1 ++ WL head l (n + s.length)
def jb : List (Ty × List UInt8) → List UInt8
 | [] => []
 | (x, s) :: l => if JL x then jb l else s ++ jb l
theorem Jck (head : Nat) : ∀ (l : List (Ty × List UInt8)) (f th : List UInt8), XZ head l f th = (f ++ WL head l th.length) ++ (th ++ jb l)
 | [], f, th => by rw [XZ, WL, jb]; simp
 | (x, s) :: l, f, th => by
  rw [XZ, WL, jb]
  split
  ·rw [Jck head l]; simp
  ·rw [Jck head l, List.length_append]; simp
theorem J1j {n : Nat} (h : n < 4294967296) : (qA n 4).1 = Y5 n 4 := by
 unfold qA
 rw [if_neg]
 ·rfl
 ·have := (Jka (n := n) (k := 4) m0 m7).2 nz
  omega
theorem Jm8 {n : Nat} (h : n < 4294967296) : (qA n 4).1.length = 4 := by rw [J1j h, QG]
def Jkl (l : List (Ty × List UInt8)) : Prop := ∀ p ∈ l, JL p.1 = true → (p.2.length : Int) = JV p.1
def Jm9 : List (Ty × List UInt8) → Nat
 | [] => 0
 | p :: l => p.2.length + 4 + Jm9 l
def jc : List (Ty × List UInt8) → Nat
 | [] => 0
 | (x, s) :: l => if JL x then jc l else s.length + jc l
theorem zJ : ∀ l : List (Ty × List UInt8), (jb l).length = jc l
 | [] => rfl
 | (x, s) :: l => by
  rw [jb, jc]
  split
  ·exact zJ l
  ·rw [List.length_append, zJ l]
def QT (s : List UInt8) (head : Nat) : List Ty → Nat → Nat → Bool → Option (List Nat)
  | [], _, _, op => if op = false ∧ head ≠ s.length then none else some [s.length]
  | x :: xs, at_, last, op => if JL x then QT s head xs (at_ + (JV x).toNat) last op else
      if (op = false ∧ Xj ((s.drop at_).take 4) ≠ head) ∨ Xj ((s.drop at_).take 4) < last ∨ s.length < Xj ((s.drop at_).take 4) then none
      else (QT s head xs (at_ + 4) (Xj ((s.drop at_).take 4)) true).map fun r => Xj ((s.drop at_).take 4) :: r
def VV (s : List UInt8) : List Ty → Nat → List Nat → List (List UInt8)
  | [], _, _ => []
  | x :: xs, at_, os => if JL x then (s.drop at_).take (JV x).toNat :: VV s xs (at_ + (JV x).toNat) os else
      (s.take (os.getD 1 0)).drop (os.getD 0 0) :: VV s xs (at_ + 4) os.tail
theorem wS : ∀ {ts : List Ty}, (∀ x ∈ ts, JL x = true → 0 ≤ JV x) → 0 ≤ Kp ts
 | [], _ => by rw [Kp]; exact Int.le_refl _
 | x :: xs, h => by
  have h1 := wS (ts := xs) fun y hy => h y (List.mem_cons_of_mem _ hy)
  rw [Kp, Xq]
  split
  ·have := h x List.mem_cons_self ‹_›; omega
  ·omega
theorem wT {s : List UInt8} {head : Nat} : ∀ {ts : List Ty} {at_ last : Nat} {op : Bool} {os : List Nat}, QT s head ts at_ last op = some os → last ≤ s.length → (op = false → last = head) → ∃ o r, os = o :: r ∧ last ≤ o ∧ o ≤ s.length ∧ (op = false → o = head)
 | [], at_, last, op, os, h, hl, ho => by
  rw [QT] at h
  split at h
  ·cases h
  ·rename_i h1
   cases h
   refine ⟨s.length, [], rfl, hl, Nat.le_refl _, fun hop => ?_⟩; exact Decidable.byContradiction fun h2 => h1 ⟨hop, fun e => h2 e.symm⟩
 | x :: xs, at_, last, op, os, h, hl, ho => by
  rw [QT] at h
  split at h
  ·exact wT h hl ho
  ·split at h
   ·cases h
   ·rename_i h1
    obtain ⟨r, _, rfl⟩ := Option.map_eq_some_iff.1 h
    refine ⟨_, r, rfl, by omega, by omega, fun hop => ?_⟩; exact Decidable.byContradiction fun h2 => h1 (.inl ⟨hop, h2⟩)
theorem Jcl {s : List UInt8} {head : Nat} (hs : s.length < 4294967296) (hh : head ≤ s.length) : ∀ {ts : List Ty} {at_ last : Nat} {op : Bool} {os : List Nat}, QT s head ts at_ last op = some os → last ≤ s.length → head ≤ last → (op = false → last = head) →
  (∀ x ∈ ts, JL x = true → 0 ≤ JV x) → (at_ : Int) + Kp ts = head →
  ∀ o r, os = o :: r → WL head (ts.zip (VV s ts at_ os)) (o - head) = (s.take head).drop at_ ∧ jb (ts.zip (VV s ts at_ os)) = s.drop o ∧ Jkl (ts.zip (VV s ts at_ os)) ∧ (VV s ts at_ os).length = ts.length
 | [], at_, last, op, os, h, hl, hhl, ho, hz, hb, o, r, e => by
  rw [QT] at h
  split at h
  ·cases h
  ·cases h
   cases e
   rw [Kp] at hb
   have ha : at_ = head := by omega
   subst ha; refine ⟨?_, ?_, fun p hp => by simp [VV] at hp, rfl⟩
   ·rw [VV, List.zip_nil_right, WL, List.drop_of_length_le (by rw [List.length_take]; omega)]
   ·rw [VV, List.zip_nil_right, jb, List.drop_length]
 | x :: xs, at_, last, op, os, h, hl, hhl, ho, hz, hb, o, r, e => by
  have hz2 : ∀ y ∈ xs, JL y = true → 0 ≤ JV y := fun y hy => hz y (List.mem_cons_of_mem _ hy)
  rw [Kp, Xq] at hb; rw [QT] at h
  by_cases hf : JL x = true
  ·rw [if_pos hf] at h hb
   have h0 := hz x List.mem_cons_self hf
   obtain ⟨i1, i2, i3, i4⟩ := Jcl hs hh h hl hhl ho hz2 m0 o r e
   have hlen : ((s.drop at_).take (JV x).toNat).length = (JV x).toNat := by
    have hbg := wS hz2
    rw [List.length_take, List.length_drop]; omega
   rw [VV, if_pos hf, List.zip_cons_cons, WL, jb, if_pos hf, if_pos hf]; refine ⟨?_, i2, ?_, by rw [List.length_cons, i4, List.length_cons]⟩
   ·rw [i1]
    have hbg := wS hz2
    have e2 : (s.drop at_).take (JV x).toNat = ((s.take head).drop at_).take (JV x).toNat := by
     rw [List.drop_take, List.take_take, Nat.min_eq_left m0]
    rw [e2, ← List.drop_drop, List.take_append_drop]
   ·intro p hp
    rcases List.mem_cons.1 hp with rfl | hp
    ·intro _; simp only; rw [hlen]; omega
    ·exact i3 p hp
  ·rw [if_neg hf] at h hb
   split at h
   ·cases h
   ·rename_i h1
    obtain ⟨r2, h2, hr2⟩ := Option.map_eq_some_iff.1 h
    subst hr2
    obtain ⟨rfl, rfl⟩ := List.cons.inj e
    have hbg := wS hz2
    have h4 : ((s.drop at_).take 4).length = 4 := by rw [List.length_take, List.length_drop]; omega
    have hn : Xj ((s.drop at_).take 4) ≤ s.length := by omega
    have hnl : last ≤ Xj ((s.drop at_).take 4) := by omega
    have hle : Y5 (Xj ((s.drop at_).take 4)) 4 = (s.drop at_).take 4 := by
     have := Jix ((s.drop at_).take 4)
     rwa [h4] at this
    generalize hq : Xj ((s.drop at_).take 4) = q at *
    obtain ⟨b, r3, rfl, hb1, hb2, _⟩ := wT h2 hn (fun h => by cases h)
    obtain ⟨i1, i2, i3, i4⟩ := Jcl hs hh h2 hn m0 (fun h => by cases h) hz2 m0 b r3 rfl
    rw [VV, if_neg hf, List.zip_cons_cons, WL, jb, if_neg hf, if_neg hf]; simp only [List.tail_cons]
    have hpl : ((s.take b).drop q).length = b - q := by rw [List.length_drop, List.length_take]; omega
    refine ⟨?_, ?_, ?_, by rw [List.length_cons, i4, List.length_cons]⟩
    ·show (qA (head + (q - head)) 4).1 ++ WL head _ (q - head + ((s.take b).drop q).length) = _
     rw [hpl, show q - head + (b - q) = b - head by omega, i1, show head + (q - head) = q by omega, J1j m0, hle]
     have e2 : (s.drop at_).take 4 = ((s.take head).drop at_).take 4 := by
      rw [List.drop_take, List.take_take, Nat.min_eq_left m0]
     rw [e2, ← List.drop_drop, List.take_append_drop]
    ·show (s.take b).drop q ++ _ = _
     rw [i2]
     have e3 : s.drop q = (s.drop q).take (b - q) ++ (s.drop q).drop (b - q) := (List.take_append_drop _ _).symm
     rw [e3, List.drop_drop, List.drop_take, show q + (b - q) = b by omega]
    ·intro p hp
     rcases List.mem_cons.1 hp with rfl | hp
     ·intro hff; exact absurd hff hf
     ·exact i3 p hp
theorem Jr1 (hc : Vp t 0 = 0) : JL t = Wi t := by unfold JL; rw [hc]; simp
theorem qI (h : JL t = true) : 1 ≤ JV t := by
 obtain ⟨h1, h2⟩ := W0.1 h
 exact (jI t 0 (Int.le_refl _) h1 h2).1
mutual
def Xh : Vl → Vl
 | .mk a b c d bits _ items _ pick => .mk a b c d bits none (YN items) none pick
def YN : List Vl → List Vl
 | [] => []
 | x :: xs => Xh x :: YN xs
end
theorem Wr : ∀ l : List Vl, YN l = l.map Xh
 | [] => by rw [YN]; rfl
 | x :: xs => by rw [YN, Wr xs]; rfl
def v0L : Vl := .mk 0 0 0 0 [] none [] none 0
def zK (w : List Nat) : Vl := .mk (w.getD 0 0) (w.getD 1 0) (w.getD 2 0) (w.getD 3 0) [] none [] none 0
def jS (l : List Bool) : Vl := .mk 0 0 0 0 l none [] none 0
def KP (l : List Vl) (pick : Int) : Vl := .mk 0 0 0 0 [] none l none pick
def Kk (k n : Int) (ins : List Ty) (s : List UInt8) : Nat × Int :=
 if k = 7 then (ins.length, 0) else if k = 3 then (n.toNat, 0) else if s = [] then (0, 0)
 else if JL (JF k 0 ins 0) then (if s.length % (JV (JF k 0 ins 0)).toNat ≠ 0 then (0, 2) else if n < ((s.length / (JV (JF k 0 ins 0)).toNat : Nat) : Int) then (0, 5) else (s.length / (JV (JF k 0 ins 0)).toNat, 0))
 else if s.length < 4 ∨ Xj (s.take 4) % 4 ≠ 0 ∨ Xj (s.take 4) = 0 then (0, 2) else if n < ((Xj (s.take 4) / 4 : Nat) : Int) then (0, 5) else (Xj (s.take 4) / 4, 0)
abbrev Gf : Type := List UInt8 → Vl × Int
def Wb : List (Gf × List UInt8) → List Vl × Int
 | [] => ([], 0)
 | (f, s) :: r => if (f s).2 ≠ 0 then ([], (f s).2) else if (Wb r).2 ≠ 0 then ([], (Wb r).2) else ((f s).1 :: (Wb r).1, 0)
def Xt (s : List UInt8) : Nat → Nat
 | 0 => 0
 | i + 1 => if Vv s i = true then i else Xt s i
def g0 : Gf := fun _ => (v0L, 0)
def Jcm (k n : Int) (ins : List Ty) (fs : List Gf) (s : List UInt8) : Vl × Int :=
 if (Kk k n ins s).2 ≠ 0 then (v0L, (Kk k n ins s).2)
 else if (s.length : Int) < Kp (KF k ins (Kk k n ins s).1) then (v0L, 2)
 else match QT s (Kp (KF k ins (Kk k n ins s).1)).toNat (KF k ins (Kk k n ins s).1) 0 (Kp (KF k ins (Kk k n ins s).1)).toNat false with
  | none => (v0L, 2)
  | some os =>
   let r := Wb (((List.range (Kk k n ins s).1).map fun i => fs.getD (VF k 0 i) g0).zip (VV s (KF k ins (Kk k n ins s).1) 0 os))
   if r.2 ≠ 0 then (v0L, r.2) else (KP r.1 0, 0)
def jT (k n : Int) (p : Pl) (ins : List Ty) (fs : List Gf) (s : List UInt8) : Vl × Int :=
 if JL (.mk k n p ins) = true ∧ (s.length : Int) ≠ JV (.mk k n p ins) then (v0L, 2)
 else if k = 1 then (zK (Y2 s), 0)
 else if k = 2 then (if 1 < (s.getD 0 0).toNat then (v0L, 2) else (zK (Y2 s), 0))
 else if k = 5 then (if ((JQ s (8 * s.length)).drop n.toNat).any id then (v0L, 8) else (jS (JQ s n.toNat), 0))
 else if k = 6 then (if s.getLast? = none ∨ s.getLast? = some 0 then (v0L, 2) else if n < (Xt s (8 * s.length) : Int) then (v0L, 5) else (jS (JQ s (Xt s (8 * s.length))), 0))
 else if k = 8 then (match s with
  | [] => (v0L, 2)
  | b :: r => if ins.length ≤ b.toNat then (v0L, 9) else if (fs.getD b.toNat g0 r).2 ≠ 0 then (v0L, (fs.getD b.toNat g0 r).2) else (KP [(fs.getD b.toNat g0 r).1] b.toNat, 0))
 else Jcm k n ins fs s
mutual
def Qg : Ty → List UInt8 → Vl × Int
 | .mk k n p ins, s => jT k n p ins (ZB ins) s
def ZB : List Ty → List Gf
 | [] => []
 | x :: xs => Qg x :: ZB xs
end
theorem Jfq : ∀ l : List Ty, ZB l = l.map Qg
 | [] => by rw [ZB]; rfl
 | x :: xs => by rw [ZB, Jfq xs]; rfl
theorem wU {ins : List Ty} (h : ins[i]? = some x) : (ZB ins).getD i g0 = Qg x := by
 rw [Jfq, List.getD_eq_getElem?_getD, List.getElem?_map, h]; rfl
section
variable {a b c d : Nat} {bits : List Bool} {pb : Pl} {items : List Vl} {pi : Pl} {pick k n : Int} {p : Pl} {ins : List Ty}
theorem Jcn (hc : Vp (.mk k n p ins) 0 = 0) (h : Ku (.mk a b c d bits pb items pi pick) (.mk k n p ins) = 0) (h8 : k ≠ 8) {x : Vl} (hx : items[j]? = some x) : ins[VF k 0 j]? = some (JF k 0 ins j) ∧ JF k 0 ins j ∈ ins ∧ Vp (JF k 0 ins j) 0 = 0 ∧ Ku x (JF k 0 ins j) = 0 := by
 obtain ⟨_, h2, h3⟩ := W1 h
 have hlt := (List.getElem?_eq_some_iff.1 hx).1
 have hin := Y4 (v := .mk a b c d bits pb items pi pick) hc h2 hlt
 have hg := Vx h3 hx
 rw [Nat.zero_add, qE h8] at hg
 have e : VF k (Vl.pick (.mk a b c d bits pb items pi pick)) j = VF k 0 j := by unfold VF; rw [if_neg h8, if_neg h8]
 rw [e] at hin
 have hty := KC hin
 exact ⟨hty.1, hty.2, VZ hc _ hty.2, hg⟩
end
theorem Qs (a b c d : Nat) (bits : List Bool) (pb : Pl) (items : List Vl) (pi : Pl) (pick : Int) : Xh (.mk a b c d bits pb items pi pick) = .mk a b c d bits none (YN items) none pick := by rw [Xh]
theorem Jkm (k pick : Int) (ins : List Ty) : ∀ (l : List Vl), (∀ x ∈ l, ∀ t, Vj (Xh x) t = Vj x t) → ∀ i : Nat, Qf (YN l) k pick ins i = Qf l k pick ins i
 | [], _, i => by rw [YN]
 | x :: xs, h, i => by rw [YN, Qf, Qf, h x List.mem_cons_self, Jkm k pick ins xs (fun y hy => h y (List.mem_cons_of_mem _ hy))]
theorem Jr2 (v : Vl) : ∀ t, Vj (Xh v) t = Vj v t := by
 induction v using Vl.ind with
 | h a b c d bits pb items pi pick ih =>
 intro t
 obtain ⟨k, n, p, ins⟩ := t
 rw [Qs, Qr, Qr, Jkm k pick ins items ih]
theorem Jfr (k pick : Int) (ins : List Ty) : ∀ (l : List Vl), (∀ x ∈ l, ∀ t, KD (Xh x) t = KD x t) → ∀ i : Nat, Kf (YN l) k pick ins i = Kf l k pick ins i
 | [], _, i => by rw [YN]
 | x :: xs, h, i => by rw [YN, Kf, Kf, h x List.mem_cons_self, Jfr k pick ins xs (fun y hy => h y (List.mem_cons_of_mem _ hy))]
theorem Jwj (x : Ty) (l : List Vl) : WJ (YN l) x = WJ l x := by
 unfold WJ
 rw [Wr, List.map_map]
 congr 1
 exact List.map_congr_left fun v _ => Jr2 v x
theorem Jkn (v : Vl) : ∀ t, KD (Xh v) t = KD v t := by
 induction v using Vl.ind with
 | h a b c d bits pb items pi pick ih =>
 intro t
 obtain ⟨k, n, p, ins⟩ := t
 have hl : (YN items).length = items.length := by rw [Wr, List.length_map]
 rw [Qs, WK, WK, Jfr k pick ins items ih, hl]
 unfold VY
 rw [Jwj]
theorem Jfs : ∀ {l : List (Gf × List UInt8)} {vs : List Vl}, Wb l = (vs, 0) → vs.length = l.length ∧ ∀ (i : Nat) f s v, l[i]? = some (f, s) → vs[i]? = some v → f s = (v, 0)
 | [], vs, h => by
  rw [Wb] at h
  obtain rfl := (Prod.mk.inj h).1
  exact ⟨rfl, fun i f s v h1 => by simp at h1⟩
 | (f, s) :: l, vs, h => by
  rw [Wb] at h
  by_cases h1 : (f s).2 ≠ 0
  ·rw [if_pos h1] at h; exact absurd (Prod.mk.inj h).2 h1
  rw [if_neg h1] at h
  by_cases h2 : (Wb l).2 ≠ 0
  ·rw [if_pos h2] at h; exact absurd (Prod.mk.inj h).2 h2
  rw [if_neg h2] at h
  have h3 := (Prod.mk.inj h).1
  subst h3
  have h4 : Wb l = ((Wb l).1, 0) := by rw [← Decidable.not_not.1 h2]
  obtain ⟨i1, i2⟩ := Jfs h4
  refine ⟨by rw [List.length_cons, List.length_cons, i1], fun i f' s' v' hl hv => ?_⟩
  cases i with
  | zero =>
   cases hl; cases hv
   rw [← Decidable.not_not.1 h1]
  | succ i => exact i2 i f' s' v' hl hv
theorem Jam : ∀ {l : List Vl} {k pick : Int} {ins : List Ty} {i : Nat}, (∀ (j : Nat) x, l[j]? = some x → Ku x (JF k pick ins (i + j)) = 0) → Qz l k pick ins i = 0
 | [], _, _, _, _, _ => by rw [Qz]
 | x :: xs, k, pick, ins, i, h => by
  have h0 := h 0 x rfl
  rw [Nat.add_zero] at h0; rw [Qz, if_pos h0]; exact Jam fun j y hy => by rw [show i + 1 + j = i + (j + 1) by omega]; exact h (j + 1) y MR
theorem Jr3 : ∀ {l : List Vl}, (∀ x ∈ l, Xh x = x) → YN l = l
 | [], _ => by rw [YN]
 | x :: xs, h => by rw [YN, h x List.mem_cons_self, Jr3 fun y hy => h y (List.mem_cons_of_mem _ hy)]
theorem Jft {k : Int} {ins : List Ty} : ∀ {vs : List Vl} {ps : List (List UInt8)} {i : Nat}, vs.length = ps.length → (∀ (j : Nat) x s, vs[j]? = some x → ps[j]? = some s → Vj x (JF k 0 ins (i + j)) = s) → Qf vs k 0 ins i = ((List.range' i vs.length).map fun j => JF k 0 ins j).zip ps
 | [], _, _, _, _ => by rw [Qf]; rfl
 | x :: xs, [], _, h, _ => by simp at h
 | x :: xs, s :: ps, i, h, hg => by
  have h0 := hg 0 x s rfl rfl
  rw [Nat.add_zero] at h0
  rw [Qf, h0, List.length_cons, List.range'_succ, List.map_cons, List.zip_cons_cons, Jft (vs := xs) (ps := ps) (i := i + 1) nz fun j y t hy ht => by
   rw [show i + 1 + j = i + (j + 1) by omega]; exact hg (j + 1) y t MR Ng]
theorem Jzr (k : Int) (ins : List Ty) (m : Nat) : ((List.range' 0 m).map fun j => JF k 0 ins j) = KF k ins m := by
 unfold KF; rw [List.range_eq_range']
theorem Jko : ∀ {l : List (Ty × List UInt8)}, Jkl l → (Jm9 l : Int) ≤ Kp (l.map Prod.fst) + jc l + 4 * l.length
 | [], _ => by rw [Jm9, jc, List.map_nil, Kp]; simp
 | (x, s) :: l, h => by
  have h1 := Jko (l := l) fun p hp => h p (List.mem_cons_of_mem _ hp)
  have h2 := h _ List.mem_cons_self
  simp only at h2; rw [Jm9, jc, List.map_cons, Kp, Xq, List.length_cons]
  simp only
  split
  ·rename_i h3
   have := h2 h3
   omega
  ·omega
theorem Jr4 {A H : Nat} : ∀ {l : List (Ty × List UInt8)} {vs : List Vl} {n : Nat}, vs.length = l.length → Jkl l → (∀ p ∈ l, JL p.1 = true → 1 ≤ JV p.1) → (∀ (j : Nat) p v, l[j]? = some p → vs[j]? = some v → wV v ≤ A * p.2.length + 1) → H + n + Jm9 l < 4294967296 → wL vs ≤ (A + 1) * ((WL H l n).length + jc l)
 | [], [], _, _, _, _, _, _ => by rw [wL]; exact Nat.zero_le _
 | [], _ :: _, _, h, _, _, _, _ => by simp at h
 | _ :: _, [], _, h, _, _, _, _ => by simp at h
 | (x, s) :: l, v :: vs, n, h, hs, hz, hg, hb => by
  rw [Jm9] at hb; simp only at hb
  have g0 := hg 0 (x, s) v rfl rfl
  simp only at g0
  have hs2 : Jkl l := fun p hp => hs p (List.mem_cons_of_mem _ hp)
  have hz2 : ∀ p ∈ l, JL p.1 = true → 1 ≤ JV p.1 := fun p hp => hz p (List.mem_cons_of_mem _ hp)
  have hg2 : ∀ (j : Nat) p u, l[j]? = some p → vs[j]? = some u → wV u ≤ A * p.2.length + 1 := fun j p u hp hu => hg (j + 1) p u (by simpa using hp) (by simpa using hu)
  rw [wL, WL, jc]
  by_cases hf : JL x = true
  ·have ih := Jr4 (A := A) (H := H) (l := l) (vs := vs) (n := n) nz hs2 hz2 hg2 m0
   have h1 := hs _ List.mem_cons_self hf
   have h2 := hz _ List.mem_cons_self hf
   simp only at h1 h2; rw [if_pos hf, if_pos hf, List.length_append, Nat.add_assoc, Nat.mul_add]
   have h3 : 1 ≤ s.length := by omega
   rw [Nat.add_mul, Nat.one_mul]; omega
  ·have ih := Jr4 (A := A) (H := H) (l := l) (vs := vs) (n := n + s.length) nz hs2 hz2 hg2 m0
   rw [if_neg hf, if_neg hf, List.length_append, Jm8 m0]
   have e : 4 + (WL H l (n + s.length)).length + (s.length + jc l) = ((WL H l (n + s.length)).length + jc l) + (s.length + 4) := by omega
   rw [e, Nat.mul_add, Nat.mul_add (A + 1) s.length 4, Nat.add_mul A 1 s.length, Nat.one_mul]; omega
theorem Jan {s : List UInt8} : ∀ {N i : Nat}, i < N → Vv s i = true → Xt s N < N ∧ i ≤ Xt s N ∧ Vv s (Xt s N) = true ∧ ∀ j, Xt s N < j → j < N → Vv s j = false
 | 0, _, h, _ => by omega
 | N + 1, i, h, hb => by
  rw [Xt]
  by_cases e : Vv s N = true
  ·rw [if_pos e]
   exact ⟨Nat.lt_succ_self _, by omega, e, fun j h1 h2 => by omega⟩
  ·rw [if_neg e]
   have hi : i ≠ N := fun h => e (h ▸ hb)
   obtain ⟨h1, h2, h3, h4⟩ := Jan (N := N) (i := i) m0 hb
   refine ⟨by omega, h2, h3, fun j h5 h6 => ?_⟩
   by_cases hj : j = N
   ·subst hj; simpa using e
   ·exact h4 j h5 m0
theorem Jkp {s : List UInt8} (hx : ¬ (s.getLast? = none ∨ s.getLast? = some 0)) : s.length = (Xt s (8 * s.length) + 8) / 8 ∧ Vv s (Xt s (8 * s.length)) = true ∧ ∀ i, Xt s (8 * s.length) < i → i < 8 * s.length → Vv s i = false := by
 have hne : s ≠ [] := fun e => hx (.inl (by rw [e]; rfl))
 have hpos : 0 < s.length := List.length_pos_iff.2 hne
 obtain ⟨x, hl⟩ : ∃ x, s.getLast? = some x := by
  cases h : s.getLast? with
  | none => exact absurd (.inl h) hx
  | some x => exact ⟨x, rfl⟩
 have h0 : x ≠ 0 := fun e => hx (.inr (by rw [hl, e]))
 have hg : s.getD (s.length - 1) 0 = x := by
  rw [List.getLast?_eq_getElem?] at hl; rw [List.getD_eq_getElem?_getD, hl]; rfl
 have hj : ∃ j, j < 8 ∧ x.toNat.testBit j = true := by
  refine Decidable.byContradiction fun hn => h0 (Ji3 fun j hj => ?_)
  have : ¬ x.toNat.testBit j = true := fun h => hn ⟨j, hj, h⟩
  rw [Bool.not_eq_true] at this; rw [this]; simp
 obtain ⟨j, hj, hb⟩ := hj
 have hbit : Vv s (8 * (s.length - 1) + j) = true := by
  unfold Vv
  rw [show (8 * (s.length - 1) + j) / 8 = s.length - 1 by omega, show (8 * (s.length - 1) + j) % 8 = j by omega, hg]; exact hb
 obtain ⟨h1, h2, h3, h4⟩ := Jan (N := 8 * s.length) m0 hbit
 exact ⟨by omega, h3, h4⟩
theorem vx {s : List UInt8} : ∀ {ts : List Ty} {at_ : Nat} {os : List Nat} {q : List UInt8}, q ∈ VV s ts at_ os → q.length ≤ s.length
 | [], _, _, _, h => by rw [VV] at h; cases h
 | x :: xs, at_, os, q, h => by
  rw [VV] at h
  split at h
  ·rcases List.mem_cons.1 h with rfl | h
   ·rw [List.length_take, List.length_drop]; omega
   ·exact vx h
  ·rcases List.mem_cons.1 h with rfl | h
   ·rw [List.length_drop, List.length_take]; omega
   ·exact vx h
theorem chkL_mem : ∀ {ins : List Ty} {d : Int}, Xw ins d = 0 → ∀ x ∈ ins, Vp x d = 0
 | [], _, _, x, hx => by cases hx
 | y :: ys, d, h, x, hx => by
  rw [Xw] at h
  by_cases h1 : Vp y d = 0
  ·rw [if_pos h1] at h
   rcases List.mem_cons.1 hx with rfl | hx
   ·exact h1
   ·exact chkL_mem h x hx
  ·rw [if_neg h1] at h; exact absurd h h1
theorem wW {k n : Int} {ins : List Ty} {s : List UInt8} (hk : 1 ≤ k ∧ k ≤ 8) (ho : JM k n ins.length = true) (h3 : k = 3 ∨ k = 4 ∨ k = 7) (h : (Kk k n ins s).2 = 0) :
  (Kk k n ins s).1 ≤ 512 ∧ (k = 3 → ((Kk k n ins s).1 : Int) = n) ∧ (k = 7 → (Kk k n ins s).1 = ins.length) ∧ (k = 4 → ((Kk k n ins s).1 : Int) ≤ n) := by
 unfold JM at ho
 unfold Kk at h ⊢
 rcases h3 with rfl | rfl | rfl
 ·exact EJ
 ·simp only [show ¬ ((4 : Int) = 7) by decide, show ¬ ((4 : Int) = 3) by decide, if_false] at h ⊢
  simp at ho
  split at h
  ·rename_i h1; rw [if_pos h1]; simp; omega
  ·rename_i h1
   rw [if_neg h1]
   split at h
   ·rename_i h2
    rw [if_pos h2]
    split at h
    ·simp at h
    ·rename_i h4
     rw [if_neg h4]
     split at h
     ·simp at h
     ·rename_i h5
      rw [if_neg h5]
      simp only
      refine ⟨?_, fun e => absurd e m7, fun e => absurd e m7, fun _ => ?_⟩
      ·revert h5; generalize s.length / (JV (JF 4 0 ins 0)).toNat = q; intro h5; omega
      ·revert h5; generalize s.length / (JV (JF 4 0 ins 0)).toNat = q; intro h5; omega
   ·rename_i h2
    rw [if_neg h2]
    split at h
    ·simp at h
    ·rename_i h4
     rw [if_neg h4]
     split at h
     ·simp at h
     ·rename_i h5
      rw [if_neg h5]
      simp only
      refine ⟨?_, fun e => absurd e m7, fun e => absurd e m7, fun _ => ?_⟩
      ·revert h5; generalize Xj (s.take 4) / 4 = q; intro h5; omega
      ·revert h5; generalize Xj (s.take 4) / 4 = q; intro h5; omega
 ·exact EJ
theorem zM {k n : Int} {ins : List Ty} {s : List UInt8} (hk : 1 ≤ k ∧ k ≤ 8) (ho : JM k n ins.length = true) (h3 : k = 3 ∨ k = 4 ∨ k = 7) (h : (Kk k n ins s).2 = 0) : ∀ i, i < (Kk k n ins s).1 → VF k 0 i < ins.length := by
 intro i hi
 obtain ⟨_, _, h7, _⟩ := wW hk ho h3 h
 unfold JM at ho
 unfold VF
 rcases h3 with rfl | rfl | rfl
 ·exact EJ
 ·exact EJ
 ·have := h7 rfl
  simp; omega
theorem Jwk (t : Ty) : ∀ (d : Nat), Vp t (d : Int) = 0 → ∀ (s : List UInt8) (v : Vl), s.length ≤ 100000 → Qg t s = (v, 0) → Ku v t = 0 ∧ Vj v t = s ∧ Xh v = v ∧ wV v ≤ (7 - d) * s.length + 1 := by
 induction t using Ty.ind with
 | h k n p ins ih =>
 intro d hcd s v hlen hget
 have hc : Vp (.mk k n p ins) 0 = 0 := vw hcd
 obtain ⟨hk8, ho, hd6, hsubd⟩ := QE hcd
 have hsub := VZ hc
 rw [Qg] at hget
 unfold jT at hget
 by_cases hfx : JL (.mk k n p ins) = true ∧ (s.length : Int) ≠ JV (.mk k n p ins)
 ·rw [if_pos hfx] at hget; simp at hget
 rw [if_neg hfx] at hget
 have hsz : JL (.mk k n p ins) = true → (s.length : Int) = JV (.mk k n p ins) := fun h => Decidable.byContradiction fun h2 => hfx ⟨h, h2⟩
 have hplain : k = 1 ∨ k = 2 ∨ k = 5 → (s.length : Int) = JV (.mk k n p ins) := fun h => hsz (by
  rw [Jr1 hc, Wi]
  unfold JM at ho
  have hi : ins = [] := by
   rcases h with rfl | rfl | rfl <;> simp at ho <;> first | exact ho.1 | exact ho.1.1
  subst hi; rw [Zf]
  rcases h with rfl | rfl | rfl <;> rfl)
 rw [JV] at hplain
 by_cases h1 : k = 1
 ·subst h1
  rw [if_pos rfl] at hget
  obtain rfl := (Prod.mk.inj hget).1
  have hs1 := hplain (.inl rfl)
  rw [if_pos rfl] at hs1
  unfold JM at ho
  simp at ho
  have hn : s.length ≤ 32 := by omega
  obtain ⟨a, b, c, e, hnum⟩ : ∃ a b c e, Y2 s = [a, b, c, e] := by
   have := (Jbj s).1
   match hq : Y2 s, this with
   | [a, b, c, e], _ => exact ⟨a, b, c, e, rfl⟩
  have hle := Jyw hn
  rw [hnum] at hle
  unfold zK
  rw [hnum]; simp only [List.getD_cons_zero, List.getD_cons_succ]; refine ⟨?_, ?_, ?_, ?_⟩
  ·refine (Xa m0 ?_).trans (by rw [Qz])
   rw [QA 1 n ins.length a b c e [] none [] none 0 _ rfl, if_pos rfl, Q0]
   have hb : (Wu [a, b, c, e]).length ≤ s.length := by
    have hz := fun t h3 h4 => Jo5 hn (t := t) h3 h4
    rw [hnum] at hz; exact (q9 _ 32 _).2 hz
   simp; omega
  ·rw [Qr, if_pos rfl, show n.toNat = s.length by omega, hle]
  ·rw [Qs, YN]
  ·rw [wV, wL]; simp
 by_cases h2 : k = 2
 ·subst h2
  rw [if_neg h1, if_pos rfl] at hget
  have hs1 := hplain (.inr (.inl rfl))
  rw [if_neg h1, if_pos rfl] at hs1
  match s, hs1 with
  | [x], _ =>
  by_cases hx : 1 < x.toNat
  ·rw [if_pos Nd] at hget; simp at hget
  rw [if_neg Nd] at hget
  obtain rfl := (Prod.mk.inj hget).1
  have hx2 : x = 0 ∨ x = 1 := by
   have : x.toNat = 0 ∨ x.toNat = 1 := by omega
   rcases this with h | h
   ·exact .inl (by rw [← UInt8.toNat_inj]; exact h)
   ·exact .inr (by rw [← UInt8.toNat_inj]; exact h)
  have hi : ins = [] := by unfold JM at ho; simp at ho; exact ho.1
  subst hi
  rcases hx2 with rfl | rfl
  ·have e : zK (Y2 [0]) = .mk 0 0 0 0 [] none [] none 0 := by rw [show Y2 [0] = [0, 0, 0, 0] by decide +kernel]; rfl
   rw [e]; refine ⟨(Xa m0 (by rw [QA 2 n _ 0 0 0 0 [] none [] none 0 _ rfl]; rfl)).trans (by rw [Qz]), by rw [Qr, if_neg m7, if_pos rfl]; decide +kernel, by rw [Qs, YN], by rw [wV, wL]; simp⟩
  ·have e : zK (Y2 [1]) = .mk 1 0 0 0 [] none [] none 0 := by rw [show Y2 [1] = [1, 0, 0, 0] by decide +kernel]; rfl
   rw [e]; refine ⟨(Xa m0 (by rw [QA 2 n _ 1 0 0 0 [] none [] none 0 _ rfl]; rfl)).trans (by rw [Qz]), by rw [Qr, if_neg m7, if_pos rfl]; decide +kernel, by rw [Qs, YN], by rw [wV, wL]; simp⟩
 rw [if_neg h1, if_neg h2] at hget; rw [if_neg h1, if_neg h2] at hplain
 by_cases h5 : k = 5
 ·subst h5
  rw [if_pos rfl] at hget
  have hs1 := hplain (.inr (.inr rfl))
  rw [if_pos rfl] at hs1
  by_cases hx : ((JQ s (8 * s.length)).drop n.toNat).any id = true
  ·rw [if_pos hx] at hget; simp at hget
  rw [if_neg hx] at hget
  obtain rfl := (Prod.mk.inj hget).1
  unfold JM at ho
  simp at ho
  have hl : s.length = (n.toNat + 7) / 8 := by omega
  have hz : ∀ i, n.toNat ≤ i → i < 8 * s.length → Vv s i = false := fun i h3 h4 => by
   rw [Bool.not_eq_true, List.any_eq_false] at hx
   have := hx (Vv s i) (List.mem_iff_getElem?.2 ⟨i - n.toNat, by rw [List.getElem?_drop, show n.toNat + (i - n.toNat) = i by omega, Vz s h4]⟩)
   simpa using this
  unfold jS
  refine ⟨(Xa m0 ?_).trans (by rw [Qz]), ?_, by rw [Qs, YN], ?_⟩
  ·rw [QA 5 n _ 0 0 0 0 _ none [] none 0 _ rfl, if_neg h1, if_neg h2, if_neg m7, if_neg m7, if_pos rfl, Q0, KH]
   simp; omega
  ·rw [Qr, if_neg h1, if_neg h2, if_pos rfl, vQ hl hz]
  ·exact EF
 rw [if_neg h5] at hget
 by_cases h6 : k = 6
 ·subst h6
  rw [if_pos rfl] at hget
  by_cases hx : s.getLast? = none ∨ s.getLast? = some 0
  ·rw [if_pos hx] at hget; simp at hget
  rw [if_neg hx] at hget
  by_cases hn : n < (Xt s (8 * s.length) : Int)
  ·rw [if_pos hn] at hget; simp at hget
  rw [if_neg hn] at hget
  obtain rfl := (Prod.mk.inj hget).1
  obtain ⟨L, hL⟩ : ∃ L, L = Xt s (8 * s.length) := ⟨_, rfl⟩
  obtain ⟨q1, q2, q3⟩ := Jkp hx
  rw [← hL] at hn q1 q2 q3 ⊢
  unfold jS
  refine ⟨(Xa Nh ?_).trans (by rw [Qz]), ?_, by rw [Qs, YN], ?_⟩
  ·rw [QA 6 n _ 0 0 0 0 _ none [] none 0 _ rfl]; rfl
  ·rw [Qr, if_neg h1, if_neg h2, if_neg h5, if_pos rfl]
   have e : JQ s L ++ [true] = JQ s (L + 1) := by
    apply List.ext_getElem?
    intro i
    by_cases hi : i < L
    ·rw [List.getElem?_append_left (by rw [KH]; exact hi), Vz s hi, Vz s m0]
    ·by_cases hi2 : i = L
     ·subst hi2
      rw [List.getElem?_append_right (by rw [KH]; exact Nat.le_refl _), KH, Nat.sub_self, Vz s (Nat.lt_succ_self _), q2]; rfl
     ·rw [List.getElem?_eq_none (by rw [List.length_append, KH]; simp; omega), List.getElem?_eq_none Nh]
   rw [e]; exact vQ m0 fun i h3 h4 => q3 i m0 h4
  ·exact EF
 rw [if_neg h6] at hget
 by_cases h8 : k = 8
 ·subst h8
  rw [if_pos rfl] at hget
  cases s with
  | nil => simp at hget
  | cons b r =>
  simp only at hget
  by_cases hb : ins.length ≤ b.toNat
  ·rw [if_pos hb] at hget; simp at hget
  rw [if_neg hb] at hget
  by_cases hg : ((ZB ins).getD b.toNat g0 r).2 ≠ 0
  ·rw [if_pos hg] at hget; exact absurd (Prod.mk.inj hget).2 hg
  rw [if_neg hg] at hget
  obtain rfl := (Prod.mk.inj hget).1
  obtain ⟨x, hx⟩ : ∃ x, ins[b.toNat]? = some x := ⟨_, List.getElem?_eq_getElem m0⟩
  have hxm := List.mem_of_getElem? hx
  rw [wU hx] at hg ⊢
  obtain ⟨y, hy⟩ : ∃ y, y = (Qg x r).1 := ⟨_, rfl⟩
  have hgx : Qg x r = (y, 0) := by rw [hy, ← Decidable.not_not.1 hg]
  rw [← hy]
  obtain ⟨i1, i2, i3, i4⟩ := ih x hxm (d + 1) (by have := hsubd x hxm; simpa using this) r y (by simp at hlen; omega) hgx
  have hin : JF 8 (b.toNat : Int) ins 0 = x := by
   unfold JF VF
   rw [if_neg m7, if_pos rfl, Int.toNat_natCast, List.getD_eq_getElem?_getD, hx]; rfl
  unfold JM at ho
  simp at ho
  unfold KP
  refine ⟨(Xa m0 ?_).trans ?_, ?_, ?_, ?_⟩
  ·rw [QA 8 n _ 0 0 0 0 [] none [y] none b.toNat _ rfl, if_neg h1, if_neg h2, if_neg m7, if_neg m7, if_neg h5, if_neg h6, if_neg m7, Q0]
   simp; omega
  ·rw [Qz, hin, if_pos i1, Qz]
  ·rw [Qr, if_neg h1, if_neg h2, if_neg h5, if_neg h6, if_pos rfl, Qf, hin, i2]
   simp only [List.headD_cons, Int.toNat_natCast]; rw [show UInt8.ofNat b.toNat = b from by rw [← UInt8.toNat_inj, UInt8.toNat_ofNat']; exact Nat.mod_eq_of_lt (UInt8.toNat_lt b)]
  ·rw [Qs, YN, YN, i3]
  ·rw [wV, wL, wL, List.length_cons]
   have e : (7 - d) * (r.length + 1) = (7 - (d + 1)) * r.length + r.length + (7 - d) := by
    rw [Nat.mul_add, Nat.mul_one]
    congr 1
    have : 7 - d = (7 - (d + 1)) + 1 := by omega
    rw [this, Nat.add_mul, Nat.one_mul]
   simp only [List.length_nil, Nat.zero_div]; omega
 rw [if_neg h8] at hget
 have h3 : k = 3 ∨ k = 4 ∨ k = 7 := by omega
 unfold Jcm at hget
 by_cases hm : (Kk k n ins s).2 ≠ 0
 ·rw [if_pos hm] at hget; exact absurd (Prod.mk.inj hget).2 hm
 rw [if_neg hm] at hget
 have hm0 := Decidable.not_not.1 hm
 obtain ⟨m1, m2, m3, m4⟩ := wW hk8 ho h3 hm0
 have hX := zM hk8 ho h3 hm0
 generalize hM : (Kk k n ins s).1 = M at *
 by_cases hbg : (s.length : Int) < Kp (KF k ins M)
 ·rw [if_pos hbg] at hget; simp at hget
 rw [if_neg hbg] at hget
 have hbl := Zt (KF k ins M)
 obtain ⟨H, hH⟩ : ∃ H, H = (Kp (KF k ins M)).toNat := ⟨_, rfl⟩
 have hHi : Kp (KF k ins M) = (H : Int) := by omega
 rw [← hH] at hget
 cases hos : QT s H (KF k ins M) 0 H false with
 | none => rw [hos] at hget; simp at hget
 | some os =>
 rw [hos] at hget; simp only at hget
 have hty : ∀ i, i < M → ins[VF k 0 i]? = some (JF k 0 ins i) ∧ JF k 0 ins i ∈ ins := fun i hi => KC (hX i hi)
 have htys : ∀ x ∈ KF k ins M, x ∈ ins := fun x hx => by
  unfold KF at hx
  obtain ⟨i, hi, rfl⟩ := List.mem_map.1 hx
  exact (hty i (List.mem_range.1 hi)).2
 generalize hps : VV s (KF k ins M) 0 os = ps at *
 obtain ⟨o, r, rfl, o1, o2, o3⟩ := wT hos m0 (fun _ => rfl)
 have ho3 := (o3 rfl).symm
 subst ho3
 have hg := Jcl m0 m0 hos m0 (Nat.le_refl _) (fun _ => rfl) (fun x _ hx => by have := qI hx; omega) m0 H r rfl
 rw [hps, Nat.sub_self, List.drop_zero] at hg
 obtain ⟨f1, f2, f3, f4⟩ := hg
 rw [WF] at f4
 by_cases hr : (Wb (((List.range M).map fun i => (ZB ins).getD (VF k 0 i) g0).zip ps)).2 ≠ 0
 ·rw [if_pos hr] at hget; exact absurd (Prod.mk.inj hget).2 hr
 rw [if_neg hr] at hget
 obtain ⟨vs, hvs⟩ : ∃ vs, vs = (Wb (((List.range M).map fun i => (ZB ins).getD (VF k 0 i) g0).zip ps)).1 := ⟨_, rfl⟩
 have hrun : Wb (((List.range M).map fun i => (ZB ins).getD (VF k 0 i) g0).zip ps) = (vs, 0) := by rw [hvs]; exact Prod.ext rfl (Decidable.not_not.1 hr)
 rw [← hvs] at hget
 obtain rfl := (Prod.mk.inj hget).1
 obtain ⟨r1, r2⟩ := Jfs hrun
 have hvl : vs.length = M := by rw [r1, List.length_zip, List.length_map, List.length_range, f4, Nat.min_self]
 have hall : ∀ (j : Nat) x q, vs[j]? = some x → ps[j]? = some q → Ku x (JF k 0 ins j) = 0 ∧ Vj x (JF k 0 ins j) = q ∧ Xh x = x ∧ wV x ≤ (7 - (d + 1)) * q.length + 1 := fun j x q hx hq => by
  have hj : j < M := by rw [← hvl]; exact (List.getElem?_eq_some_iff.1 hx).1
  obtain ⟨e1, e2⟩ := hty j hj
  have hql : q.length ≤ 100000 := by
   have hqm := List.mem_of_getElem? hq
   rw [← hps] at hqm
   have := vx hqm
   omega
  refine ih _ e2 (d + 1) (by have := hsubd _ e2; simpa using this) q x hql (r2 j _ q x ?_ hx); rw [List.getElem?_zip_eq_some]; exact ⟨by rw [List.getElem?_map, List.getElem?_range hj, Option.map_some, wU e1], hq⟩
 have hpl : Qf vs k 0 ins 0 = (KF k ins M).zip ps := by
  rw [Jft (ps := ps) (by rw [hvl, f4]) fun j x q hx hq => by rw [Nat.zero_add]; exact (hall j x q hx hq).2.1, hvl, Jzr]
 have hzl : ((KF k ins M).zip ps).length = M := by rw [List.length_zip, WF, f4, Nat.min_self]
 have hfst : ((KF k ins M).zip ps).map Prod.fst = KF k ins M := by
  rw [List.map_fst_zip]; rw [WF, f4]; exact Nat.le_refl _
 have htl := congrArg List.length f2
 rw [zJ, List.length_drop] at htl
 have hfl := congrArg List.length f1
 rw [List.length_take, Nat.min_eq_left m0] at hfl
 have hsb := Jko f3
 rw [hfst, hHi, hzl] at hsb
 have hitem : ∀ (j : Nat) x, vs[j]? = some x → ∃ q, ps[j]? = some q := fun j x hx => by
  have hj : j < M := by rw [← hvl]; exact (List.getElem?_eq_some_iff.1 hx).1
  exact ⟨_, List.getElem?_eq_getElem m0⟩
 unfold KP
 refine ⟨(Xa ?_ ?_).trans ?_, ?_, ?_, ?_⟩
 ·rw [hvl]
  rintro (⟨e1, e2⟩ | ⟨e1, _⟩)
  ·have := m4 e1; omega
  ·omega
 ·rw [QA k n _ 0 0 0 0 [] none vs none 0 _ rfl, Q0, Q0, Q0, Q0, hvl]
  rcases h3 with rfl | rfl | rfl
  ·have := m2 rfl; simp; omega
  ·simp
  ·have := m3 rfl; simp; omega
 ·exact Jam fun j x hx => by
   obtain ⟨q, hq⟩ := hitem j x hx
   rw [Nat.zero_add]; exact (hall j x q hx hq).1
 ·rw [Qr, if_neg h1, if_neg h2, if_neg h5, if_neg h6, if_neg h8, wR h8, zH, hvl, ← hH, hpl, Jck, List.nil_append, List.nil_append, List.length_nil, f1, f2, List.take_append_drop]
 ·rw [Qs, Jr3 fun x hx => by
   obtain ⟨j, hj⟩ := List.getElem?_of_mem hx
   obtain ⟨q, hq⟩ := hitem j x hj
   exact (hall j x q hj hq).2.2.1]
 ·have hw := Jr4 (A := 7 - (d + 1)) (H := H) (l := (KF k ins M).zip ps) (vs := vs) (n := 0) (by rw [hvl, hzl]) f3 (fun p _ hp => qI hp) (fun j p v hp hv => by
   obtain ⟨q, hq⟩ := hitem j v hv
   rw [List.getElem?_zip_eq_some] at hp
   have e : p.2 = q := by have := hp.2; rw [hq] at this; exact (Option.some.inj this).symm
   rw [e]
   exact (hall j v q hv hq).2.2.2) m0
  rw [hfl, htl, show 7 - (d + 1) + 1 = 7 - d by omega, show H + (s.length - H) = s.length by omega] at hw; rw [wV]; simp only [List.length_nil, Nat.zero_div]; omega
abbrev wrV (e : Int) : Value := .iface 113 (.agg #[.int .i64 e])
theorem We (b : Bool) (e : Int) : PureX (α := Unit) Tryz.prog 94 [.bool b, .int .i64 e].toArray (b = true) (fun v => b = false ∧ v = wrV e) (fun _ => .tuple #[]) (fun _ => []) [] := by
 refine Ys Tryz.func94 rfl rfl fun w => JN (NK ?_); refine cD (fun g => ?_) fun g => ?_
 refine kj ?_; refine Hl ?_; refine Vf rfl (Jpw rfl rfl ?_); exact QD rfl rfl ⟨by assumption, rfl⟩
 ·refine KQ 1 rfl (QK rfl rfl .nil (fun w1 hs1 => ?_)); exact .inl ⟨by assumption, (), rfl, hs1.weakL (List.nil_sublist _)⟩
theorem Jya (h : 4 ≤ s.length) : zw (s.take 4) = (Xj (s.take 4), 0) ∧ Xj (s.take 4) < 4294967296 := by
 have hl : (s.take 4).length = 4 := by rw [List.length_take]; omega
 have h2 := Jgz (s.take 4)
 rw [hl] at h2; refine ⟨?_, h2⟩
 unfold zw
 rw [if_neg m0]
theorem Jr5 (h : 4 ≤ s.length) : Pure Tryz.prog 186 [Jy s].toArray (.int .i64 ((Xj (s.take 4) : Nat) : Int)) := by
 obtain ⟨h1, h2⟩ := Jya h
 refine Jz Tryz.func186 rfl rfl fun w => HH ?_; refine LR rfl (Vu (kl := none) (kh := some (.i64, 4)) (m := 0) (n := 4) rfl rfl rfl rfl rfl rfl m0 m0 (show _ = s.take 4 from by rw [List.drop_zero])) (J2 rfl rfl rfl (enters_of Tryz.func246 m5 rfl) (Jh2 (s.take 4)) (Jj (congrArg J09 h1) (JK 11 rfl (Jj (show _ = Value.int .i64 ((Xj (s.take 4) : Nat)) from congrArg (Value.int .i64) (wrap_i64 m0 m0)) ?_)))); exact NS
theorem Jid (s : BS) : ∃ a b c d, Y2 s = [a, b, c, d] := by
 have := (Jbj s).1
 match hq : Y2 s, this with
 | [a, b, c, d], _ => exact ⟨a, b, c, d, rfl⟩
theorem Jwl (h : s.length ≤ 32) : wo (Y1 s).reverse = (Y2 s, 0) := by
 unfold wo Y2
 rw [if_pos (by rw [List.length_reverse, W9 h])]
theorem Jap (h : s.length ≤ 32) : Pure Tryz.prog 144 [Jy s].toArray (Go.SL.wV (Y2 s)) := by
 have hu := Jwl h
 have hp := W9 h
 obtain ⟨a, b, c, d, hn⟩ := Jid s
 rw [hn] at hu ⊢; refine Jz Tryz.func144 rfl rfl fun w => Nl fun r1 => ?_; refine G1 ?_; refine kG ?_; refine D0 ?_; refine Jj (show _ = Value.int .i64 ((32 - s.length : Nat)) from congrArg (Value.int .i64) ma) (Db ?_); refine J2 rfl rfl rfl Jqf (Jfj (s := Y1 s) m0) (J2 rfl rfl rfl (enters_of Tryz.func184 m5 rfl) (zt (Y1 s).reverse) (Jj (congrArg Juo hu) (GK ?_))); refine LN rfl fun r2 => ?_
 refine kq ?_; refine kB ?_; refine LR rfl (Jq (vs := [_, _, _, _]) rfl (kn 0 rfl) rfl rfl rfl rfl) ?_
 refine Eo ?_; refine Ha ?_; refine Jn rfl rfl (.cons (J4 (vs := [_, _, _, _]) rfl (kn 1 rfl) rfl rfl) .nil) (fun w1 hs1 => ?_); exact Ns
theorem Jwm (s : BS) (i : Nat) : Qd (JQ s (i + 1)) = Qd (JQ s i) ++ [Value.bool (Vv s i)] := by
 unfold Qd JQ
 rw [List.range_succ, List.map_append, List.map_append]; rfl
theorem J1k {b : UInt8} : (b.toNat / 2 ^ i) &&& 1 = if b.toNat.testBit i then 1 else 0 := by
 rw [Nat.and_one_is_mod, Nat.testBit_eq_decide_div_mod_eq]
 by_cases h : b.toNat / 2 ^ i % 2 = 1
 ·rw [h]; simp
 ·rw [if_neg nz]; omega
theorem Jr6 {n : Nat} (hn : n ≤ 8 * s.length) (hl : s.length ≤ 100000) : PureT (α := { row : Vn // rowOk 1 n (Qd (JQ s n)) row }) Tryz.prog 145 [Jy s, .int .i64 (n : Int)].toArray (fun x => J3 n x.1) [] (fun x => JJ 4 (Qd (JQ s n)) x.1) [] := by
 refine JE Tryz.func145 rfl rfl fun w => JN (J9 18 rfl (Js (σ := Nat × Vn) (fun q => q.1 ≤ n ∧ rowOk 1 q.1 (Qd (JQ s q.1)) q.2) (fun q => [(0, Jy s), (5, J3 q.1 q.2), (7, .int .i64 (n : Int)), (8, .int .i64 (q.1 : Int))]) (fun q => JJ 4 (Qd (JQ s q.1)) q.2) (fun _ _ _ => True) (fun q => n - q.1) (0, none) ⟨Nat.zero_le _, rfl, rfl⟩ (lK rfl) (List.Sublist.refl _) (fun _ _ h => h) ?_)); rintro ⟨i, row⟩ ⟨hi1, hrow⟩; simp only at hi1 hrow; refine NK ?_; refine cD (fun g => ?_) fun g => ?_
 ·refine Jt 15 rfl (Jj (show _ = Value.int .i64 ((i / 8 : Nat)) from congrArg (Value.int .i64) (Kl m0 m7 m0)) (LR rfl (Vt (j := i / 8) rfl rfl rfl rfl m0 rfl) (NZ ?_))); refine Jj (show _ = Value.int .i64 ((i % 8 : Nat)) from congrArg (Value.int .i64) (KM _ _)) (LR rfl (jE (n := i % 8) (b := (((s.getD (i / 8) 0).toNat / 2 ^ (i % 8) : Nat) : Int)) rfl rfl rfl Mx m0 (by rw [Int.natCast_ediv])) (LR rfl (wE (op := .and) (m := (s.getD (i / 8) 0).toNat / 2 ^ (i % 8)) (n := 1) rfl rfl rfl (Nat.lt_of_le_of_lt (Nat.div_le_self _ _) (Vh _)) m7 (congrArg Int.ofNat J1k)) ?_))
  refine D0 ?_; refine Jj (show _ = Value.bool (Vv s i) from by unfold Vv; cases (s.getD (i / 8) 0).toNat.testBit (i % 8) <;> rfl) ?_; refine kc fun r1 => ?_; refine JB (L0 := [_]) (xs := Qd (JQ s i)) (row := row) (n := i) (sz := 1) (b := 1) (news := [Value.bool (Vv s i)]) (List.perm_append_comm (l₁ := [_])) rfl rfl rfl rfl (kn 0 rfl) rfl rfl rfl rfl rfl m7 rfl rfl rfl m7 hrow m0 m0 fun ra cap sp hra => ?_; refine G1 ?_; refine ND ?_; refine jz (L' := JJ 4 (Qd (JQ s i) ++ [Value.bool (Vv s i)]) (some (ra, cap, sp))) (List.sublist_append_left (JJ 4 (Qd (JQ s i) ++ [Value.bool (Vv s i)]) (some (ra, cap, sp))) _) ?_; rw [show Qd (JQ s i) ++ [Value.bool (Vv s i)] = Qd (JQ s (i + 1)) from (Jwm s i).symm] at hra ⊢; exact gV
 ·refine NK ?_
  obtain rfl : i = n := by omega
  exact E2
section
variable {c : Cx} {l : Kx} {L : Jp} {X : XP} {d : List Deferred} {i : Nat} {t t2 : TypeId} {ps : String} {af : Array Edge} {gd : Option (Nat × Bool)} {ty : TypeId}
theorem Jr7 {x : Operand} {a : Nat} (hx : Kq l x = some (.int .i64 (a : Int))) (hy : Kq l y = some (.int .i64 (b : Int))) (h0 : 0 < b) : JC c d l L X ⟨some i, .binOp .rem t x y t2, ty, ps, af, gd⟩ (.int .i64 ((a % b : Nat) : Int)) := fun a' w hf _ => by
 simp only [execOp]; rw [hf.eval hx, hf.eval hy]
 have e1 : ¬ ((b : Int) = 0) := by omega
 simp only [binOp, eqGuard, Op.intDiv, if_neg e1, Sem.run_bind]
 rfl
theorem Jco {x : Operand} {a : Nat} (hx : Kq l x = some (.int .i64 (a : Int))) (hy : Kq l y = some (.int .i64 (b : Int))) (h0 : 0 < b) (ha : a ≤ 9223372036854775807) : JC c d l L X ⟨some i, .binOp .quo t x y t2, ty, ps, af, gd⟩ (.int .i64 ((a / b : Nat) : Int)) := fun a' w hf _ => by
 simp only [execOp]; rw [hf.eval hx, hf.eval hy]
 have e1 : ¬ ((b : Int) = 0) := by omega
 have e2 := Kl (a := (a : Int)) (b := (b : Int)) m0 m0 m0
 simp only [binOp, eqGuard, Op.intDiv, if_neg e1, Sem.run_bind, e2]
 rfl
end
structure VR (v : Vl) : Type where
  x : Vl
  L : Jp
  ok : x.In L
  er : Xh x = v
def blT (n : Int) (s : List UInt8) : Vl × Int := if s.getLast? = none ∨ s.getLast? = some 0 then (v0L, 2) else if n < (Xt s (8 * s.length) : Int) then (v0L, 5) else (jS (JQ s (Xt s (8 * s.length))), 0)
theorem Jfu (h : s ≠ []) : s.getLast? = some (s.getD (s.length - 1) 0) := by
 have hp : 0 < s.length := List.length_pos_iff.2 h
 rw [List.getLast?_eq_getElem?, List.getD_eq_getElem?_getD, List.getElem?_eq_getElem m0]; rfl
theorem Jkq {n : Int} (h : s = []) : blT n s = (v0L, 2) := by unfold blT; rw [if_pos (.inl (by rw [h]; rfl))]
theorem J1l {n : Int} (h : s.getD (s.length - 1) 0 = 0) : blT n s = (v0L, 2) := by
 by_cases h0 : s = []
 ·exact Jkq h0
 ·unfold blT; rw [if_pos (.inr (by rw [Jfu h0, h]))]
theorem Jzs (h0 : s ≠ []) (h : s.getD (s.length - 1) 0 ≠ 0) : ¬ (s.getLast? = none ∨ s.getLast? = some 0) := by
 rw [Jfu h0]
 rintro (h1 | h1)
 ·cases h1
 ·exact h (Option.some.inj h1)
theorem Jwn {x : UInt8} : (((x.toNat : Int) != 0) = false) ↔ x = 0 := by
 rw [Z6, ← UInt8.toNat_inj]; exact Int.natCast_eq_zero
theorem Jfv (s : BS) {n : Nat} (h : m ≤ n) : (Qd (JQ s n)).take m = Qd (JQ s m) := by
 unfold Qd JQ
 rw [← List.map_take, ← List.map_take, List.take_range, Nat.min_eq_left h]
theorem vy (s : BS) (n : Nat) : (Qd (JQ s n)).length = n := by unfold Qd; rw [List.length_map, KH]
theorem Jkr (s : BS) {n : Nat} (h : i < n) (sp : List Value) : WR (Qd (JQ s n) ++ sp) i = some (.bool (Vv s i)) := by
 rw [V1, List.getElem?_append_left (by rw [vy]; exact h)]
 unfold Qd
 rw [List.getElem?_map, Vz s h]; rfl
theorem u0 : XD 0 := by unfold XD; omega
theorem i0 : Zy 0 := by unfold Zy; omega
theorem Jfw  {n : Nat} (h : m ≤ n) (hc : n ≤ cap) (h0 : n ≤ 800000) : Vl.In [(r, .cells (Qd (JQ s n) ++ sp).toArray e (0, 0))] (.mk 0 0 0 0 (JQ s m) (some (⟨r, 0, none⟩, cap)) [] none 0) := by
 refine .mk u0 u0 u0 u0 Nh ?_ m7 rfl i0 (fun x hx => nomatch hx); refine ⟨by rw [KH]; omega, fun _ => ⟨rfl, _, e, (0, 0), List.mem_singleton_self _, ?_⟩⟩; simp only [List.toList_toArray, List.drop_zero]; rw [vy, List.take_append_of_le_length (by rw [vy]; exact h), Jfv s h]
theorem Jks (s : BS) (m r cap : Nat) : Vl.val (.mk 0 0 0 0 (JQ s m) (some (⟨r, 0, none⟩, cap)) [] none 0) = .agg #[.int .u64 0, .int .u64 0, .int .u64 0, .int .u64 0, .slice (some ⟨r, 0, none⟩) m cap, .slice none 0 0, .int .i64 0] := by
 show Value.agg #[uV 0, uV 0, uV 0, uV 0, Value.slice (some ⟨r, 0, none⟩) (JQ s m).length cap, Value.slice none 0 0, Value.int .i64 0] = _
 rw [KH]; rfl
theorem Jzt {n : Int} {v : Value} (hno : ¬ (s.getLast? = none ∨ s.getLast? = some 0)) (hv : decide ((Xt s (8 * s.length) : Int) ≤ n) = false ∧ v = wrV 5) : (blT n s).2 ≠ 0 ∧ v = wrV (blT n s).2 := by
 have h : n < (Xt s (8 * s.length) : Int) := by have := hv.1; rw [Z2] at this; omega
 have e : (blT n s).2 = 5 := by unfold blT; rw [if_neg hno, if_pos h]
 rw [e]; exact ⟨by decide, hv.2⟩
theorem J1m {n : Int} (hno : ¬ (s.getLast? = none ∨ s.getLast? = some 0)) (h : decide ((Xt s (8 * s.length) : Int) ≤ n) = true) : blT n s = (jS (JQ s (Xt s (8 * s.length))), 0) := by
 have h : ¬ n < (Xt s (8 * s.length) : Int) := by rw [Z1] at h; omega
 unfold blT; rw [if_neg hno, if_neg h]
theorem Jna {k n : Int} {p : Pl} {ins : List Ty} (hl : s.length ≤ 100000) (hn : Zy n) : PureX (α := VR (blT n s).1) Tryz.prog 146 [Ty.val (.mk k n p ins), Jy s].toArray ((blT n s).2 = 0) (fun v => (blT n s).2 ≠ 0 ∧ v = wrV (blT n s).2) (fun y => y.x.val) (fun y => y.L) [] := by
 have bad2 : s = [] ∨ s.getD (s.length - 1) 0 = 0 → (blT n s).2 = 2 := fun h => h.elim (fun h => by rw [Jkq h]) (fun h => by rw [J1l h])
 have hbad2 : ∀ {v : Value} {b : Bool}, s = [] ∨ s.getD (s.length - 1) 0 = 0 → b = false ∧ v = wrV 2 → (blT n s).2 ≠ 0 ∧ v = wrV (blT n s).2 := fun h hv => by rw [bad2 h]; exact ⟨by decide, hv.2⟩
 have hT := Jr6 (s := s) (n := 8 * s.length) (Nat.le_refl _) hl
 refine Ys Tryz.func146 rfl rfl fun w => Df fun r1 r2 => ?_; refine LR rfl (jp rfl rfl) (DL ?_)
 refine Jo 9 rfl (fun gb => ?_) (fun gb => ?_) <;> (try simp only [ZZ] at gb) <;> first | (refine Vb rfl ?_) | (refine LK rfl ?_)
 all_goals refine Ei ?_
 all_goals refine kP ?_
 all_goals first | (have hpos : 0 < s.length := List.length_pos_iff.2 ‹s ≠ []›; refine Vf rfl ?_; refine Jj (show _ = Value.int .i64 ((s.length - 1 : Nat)) from congrArg (Value.int .i64) ma) ?_) | refine LK rfl ?_
 all_goals first | (refine LR rfl (Vt (j := s.length - 1) rfl rfl rfl rfl m0 rfl) ?_) | refine LK rfl ?_
 all_goals refine GL ?_
 all_goals refine Ql rfl rfl rfl jB (We (_) 2) oN (fun hok _ => ?_) (fun v hv => QD rfl rfl (hbad2 (by first | exact .inl ‹_› | exact .inr (Jwn.1 hv.1)) hv))
 all_goals try exact Bool.noConfusion hok
 refine kU ?_
 have hne : s ≠ [] := ‹s ≠ []›
 have hpos : 0 < s.length := List.length_pos_iff.2 hne
 have hno := Jzs hne (fun e => by rw [e] at hok; cases hok)
 obtain ⟨q1, q2, q3⟩ := Jkp hno
 refine GN ?_; refine kG ?_; refine D0 ?_; refine Jj np (Qu rfl rfl rfl (enters_of Tryz.func145 m5 rfl) hT oN fun x => ?_)
 obtain ⟨row, hrow⟩ := x
 match row, hrow with | none, hrow => ?_ | some (ra, cap, sp), hrow => ?_
 all_goals first | exact absurd hrow.1 m0 | skip
 refine G1 ?_; refine gg ?_; refine D0 ?_; refine Jj (show _ = Value.int .i64 ((8 * s.length - 1 : Nat)) from congrArg (Value.int .i64) ma) (JP 5 rfl (Js (σ := Nat) (fun i => Xt s (8 * s.length) ≤ i ∧ i < 8 * s.length) (fun i => [(2, Vk r1), (4, Vk r2), (5, .slice (some ⟨ra, 0, none⟩) (8 * s.length) cap), (6, .int .i64 (i : Int))]) (fun i => [(ra, .cells (Qd (JQ s (8 * s.length)) ++ sp).toArray 4 (0, 0)), WE r2 v0L, VM r1 (.mk k n p ins)]) (fun _ _ _ => True) (fun i => i) (8 * s.length - 1) ⟨by omega, by omega⟩ (lK rfl) (List.Sublist.refl _) (fun _ _ h => h) ?_)); rintro i ⟨hi1, hi2⟩; change HC _ _ _ ((ra, _) :: (r2, _) :: (r1, _) :: []) _ _ _; refine gH ?_; refine LR rfl (Kg (j := i) (m := 1) (off' := i) rfl rfl rfl rfl m0 m0 m0) (LR rfl (Jd rfl (kn 0 rfl) rfl (Jkr s (i := i) m0 sp)) (kU ?_)); refine cD (fun h14 => ?_) fun h14 => ?_
 refine Da ?_
 have hlt : Xt s (8 * s.length) ≠ i := fun e => by rw [e] at q2; rw [q2] at h14; cases h14
 refine GN ?_; refine Jj (show _ = Value.int .i64 ((i - 1 : Nat)) from congrArg (Value.int .i64) ma) (Ha ?_); refine Jr ?_; exact Jm (i - 1) ⟨by omega, by omega⟩ m0 (lK rfl) (List.Sublist.refl _) (fun _ _ h => h)
 ·refine NK ?_
  have hcap : 8 * s.length ≤ cap := by have := hrow.2; omega
  have hL : i = Xt s (8 * s.length) := Decidable.byContradiction fun hne => by have := q3 i m0 hi2; rw [this] at h14; cases h14
  subst hL; refine QZ 5 [2] rfl rfl (Ql rfl rfl rfl jB (We (_) 5) oN (fun hok _ => ?_) (fun v hv => QD rfl rfl (Jzt hno hv))); refine G1 ?_
  refine LR rfl (JZ (kl := none) (kh := some (Xt s (8 * s.length))) (km := none) (m := 0) (q := Xt s (8 * s.length)) (z := cap) (off' := 0) (sz := 1) rfl rfl rfl trivial ⟨_, rfl⟩ trivial rfl rfl rfl m0 m0 (Nat.le_refl _) (fun e => nomatch e) My) ?_; refine g8 ?_
  refine Eo ?_; refine Ha ?_; refine Do fun w1 hs1 => ?_
  have hbo := J1m hno hok
  refine .inl ⟨by rw [hbo], ⟨.mk 0 0 0 0 (JQ s (Xt s (8 * s.length))) (some (⟨ra, 0, none⟩, cap)) [] none 0, [(ra, .cells (Qd (JQ s (8 * s.length)) ++ sp).toArray 4 (0, 0))], Jfw m0 m0 m0, by rw [hbo, Qs, YN]; rfl⟩, congrArg Ending.returned (Jks s _ ra cap).symm, hs1.weakL ((List.cons_sublist_cons).2 (List.nil_sublist _))⟩
theorem Jr8 {k n : Int} {ins : List Ty} {y : Nat} (h7 : k ≠ 7) (h3 : k ≠ 3) (hs : s ≠ []) (hF : JL (JF k 0 ins 0) = true → B = s.length ∧ y = (JV (JF k 0 ins 0)).toNat) (hV : JL (JF k 0 ins 0) = false → 4 ≤ s.length ∧ Xj (s.take 4) ≠ 0 ∧ B = Xj (s.take 4) ∧ y = 4) :
  Kk k n ins s = if B % y ≠ 0 then (0, 2) else if n < ((B / y : Nat) : Int) then (0, 5) else (B / y, 0) := by
 unfold Kk
 rw [if_neg h7, if_neg h3, if_neg hs]
 cases h : JL (JF k 0 ins 0) with
 | true => obtain ⟨rfl, rfl⟩ := hF h; rw [if_pos rfl]
 | false =>
  obtain ⟨e1, e2, rfl, rfl⟩ := hV h
  rw [if_neg mh]
  by_cases h4 : Xj (s.take 4) % 4 ≠ 0
  ·rw [if_pos (.inr (.inl h4)), if_pos h4]
  ·rw [if_neg (by rintro (h | h | h); omega; exact h4 h; exact e2 h), if_neg h4]
theorem Jzu {k n : Int} {ins : List Ty} (h7 : k ≠ 7) (h3 : k ≠ 3) (hs : s ≠ []) (hF : JL (JF k 0 ins 0) = false) (h : s.length < 4 ∨ Xj (s.take 4) = 0) : (Kk k n ins s).2 = 2 := by
 unfold Kk
 rw [if_neg h7, if_neg h3, if_neg hs, hF, if_neg mh, if_pos (by rcases h with h | h; exact .inl h; exact .inr (.inr h))]
theorem Jr9 {k n : Int} {ins : List Ty} (h7 : k = 7) : Kk k n ins s = (ins.length, 0) := by unfold Kk; rw [if_pos h7]
theorem Jsa {k n : Int} {ins : List Ty} (h7 : k ≠ 7) (h3 : k = 3) : Kk k n ins s = (n.toNat, 0) := by unfold Kk; rw [if_neg h7, if_pos h3]
theorem Jsb {k n : Int} {ins : List Ty} (h7 : k ≠ 7) (h3 : k ≠ 3) (hs : s = []) : Kk k n ins s = (0, 0) := by unfold Kk; rw [if_neg h7, if_neg h3, if_pos hs]
theorem Xe {r : Int} {v : Value} {e : Int} {b : Bool} (h : r = e) (he : e ≠ 0) (hv : b = false ∧ v = wrV e) : r ≠ 0 ∧ v = wrV r := by rw [h]; exact ⟨he, hv.2⟩
theorem Jzv {k n : Int} {p : Pl} {ins : List Ty} (ht : Ty.In R (.mk k n p ins)) (hc : Vp (.mk k n p ins) 0 = 0) (hk3 : k = 3 ∨ k = 4 ∨ k = 7) (hl : s.length ≤ 100000) :
  PureX (α := Unit) Tryz.prog 185 [Ty.val (.mk k n p ins), Jy s].toArray ((Kk k n ins s).2 = 0) (fun v => (Kk k n ins s).2 ≠ 0 ∧ v = wrV (Kk k n ins s).2) (fun _ => .int .i64 ((Kk k n ins s).1 : Int)) (fun _ => []) R := by
 obtain ⟨hk8, ho, _, _⟩ := QE hc
 have hsg : Seg R ins.length (xu ins) p := by cases ht; assumption
 have hin0 : VF k 0 0 < ins.length := by
  unfold JM at ho
  unfold VF
  rcases hk3 with rfl | rfl | rfl <;> simp at ho ⊢ <;> omega
 obtain ⟨hx0, hxm⟩ := KC hin0
 have hsz := wQ (ht.sub _ hxm)
 have hfx := qI (t := JF k 0 ins 0)
 have hbl := qD (JF k 0 ins 0)
 have hbe := Zs (JF k 0 ins 0)
 obtain ⟨y, hy⟩ : ∃ y : Nat, Xq (JF k 0 ins 0) = (y : Int) := ⟨_, (Int.toNat_of_nonneg m0).symm⟩
 rw [hy] at hsz hbl hbe
 have hnk : k = 3 → 0 ≤ n := fun e => by subst e; unfold JM at ho; simp at ho; omega
 refine Ys Tryz.func185 rfl rfl fun w => Nl fun r1 => ?_; refine Goc 13 [0] rfl rfl (cD (fun g => ?_) fun g => ?_)
 refine gu ?_; refine LR rfl (Jl rfl hsg rfl) (J0 6 rfl (ke fun w1 hs1 => ?_)); exact .inl ⟨by rw [Jr9 ‹k = 7›], (), by rw [Jr9 ‹k = 7›]; rfl, hs1.weakL (List.nil_sublist _)⟩
 ·refine Gcc 8 [0] rfl rfl (cD (fun h7 => ?_) fun h7 => ?_)
  refine gu ?_; refine Jj (show _ = Value.int .i64 ((n.toNat : Nat) : Int) from congrArg (Value.int .i64) (by have := hnk ‹_›; omega)) (J0 6 rfl (ke fun w1 hs1 => ?_)); exact .inl ⟨by rw [Jsa ‹k ≠ 7› ‹k = 3›], (), by rw [Jsa ‹k ≠ 7› ‹k = 3›]; rfl, hs1.weakL (List.nil_sublist _)⟩
  ·refine GN ?_; refine LR rfl (V5 rfl rfl) (kU ?_); refine cD (fun g => ?_) fun g => ?_
   refine KQ 8 rfl (ke fun w1 hs1 => ?_); exact .inl ⟨by rw [Jsb ‹k ≠ 7› ‹k ≠ 3› ‹s = []›], (), by rw [Jsb ‹k ≠ 7› ‹k ≠ 3› ‹s = []›]; rfl, hs1.weakL (List.nil_sublist _)⟩
   ·refine J9 4 rfl ?_
    have h7 : k ≠ 7 := ‹_›
    have h3 : k ≠ 3 := ‹_›
    have hne : s ≠ [] := ‹_›
    have hx00 : ins[0]? = some (JF k 0 ins 0) := by have := hx0; unfold VF at this; rw [if_neg h7] at this; split at this <;> exact this
    refine QZ 3 [0] rfl rfl ?_
    refine LR rfl (Jf (j := 0) rfl hsg rfl rfl rfl me m0) (LR rfl (Ko oR rfl hsg hx00 rfl rfl) (Jc rfl rfl rfl Jj0 hsz oR (JK 10 rfl (kG ?_)))); refine DE ?_; refine cD (fun g => ?_) fun g => ?_
    ·refine GN ?_; refine Ey ?_
     refine Jo 39 rfl (fun gb => ?_) (fun gb => ?_) <;> (try simp only [ZZ] at gb) <;> first | (refine Vb rfl ?_) | (refine LK rfl ?_)
     all_goals first | (refine J2 rfl rfl rfl Jqn (Jr5 (s := s) m0) ?_) | refine LK rfl ?_
     all_goals refine GL ?_
     all_goals refine Ql rfl rfl rfl jB (We (_) 2) oN (fun hok _ => ?_) (fun v hv => QD rfl rfl (Xe (Jzu ‹k ≠ 7› ‹k ≠ 3› hne ‹JL (JF k 0 ins 0) = false› (by first | exact .inl m0 | exact .inr (Int.natCast_eq_zero.1 (Z6.1 hv.1)))) m7 hv))
     all_goals try exact Bool.noConfusion hok
     have hl0 := fun e => Z5.1 hok (Int.natCast_eq_zero.2 e)
     refine GU ?_; refine J2 rfl rfl rfl Jqn (Jr5 (s := s) m0) (G5 ?_)
     (have hif : JL (JF k 0 ins 0) = false := ‹_›
      rw [hif, if_neg m7] at hbe
      have hlt := (Jya (s := s) m0).2
      have hmq := Jr8 (n := n) (ins := ins) (B := Xj (s.take 4)) (y := y) h7 h3 hne (fun e => by rw [hif] at e; cases e) (fun _ => ⟨by omega, hl0, rfl, by omega⟩)
      obtain ⟨B, hB⟩ : ∃ B, B = Xj (s.take 4) := ⟨_, rfl⟩
      have hBl : B ≤ 4294967295 := by omega
      rw [← hB] at hmq ⊢)
     refine GN ?_; refine LR rfl (Jr7 (a := B) (b := y) rfl rfl m0) (D0 ?_); refine Ql rfl rfl rfl jB (We (_) 2) oN (fun hok _ => ?_) (fun v hv => QD rfl rfl (Xe MG m7 hv))
     have hmod : ¬ B % y ≠ 0 := fun e => e (Int.natCast_eq_zero.1 (Z3.1 hok))
     refine kC ?_; refine Kc (Ql rfl rfl rfl jB (We (_) 5) oN (fun hok _ => ?_) (fun v hv => QD rfl rfl (Xe MH m7 hv))); exact Gw
    ·refine Da ?_
     (have hif : JL (JF k 0 ins 0) = true := ‹_›
      rw [if_pos hif] at hbe
      have hmq := Jr8 (n := n) (ins := ins) (B := s.length) (y := y) h7 h3 hne (fun _ => ⟨rfl, by omega⟩) (fun e => by rw [hif] at e; cases e)
      obtain ⟨B, hB⟩ : ∃ B, B = s.length := ⟨_, rfl⟩
      have hBl : B ≤ 4294967295 := by omega
      rw [← hB] at hmq ⊢)
     refine GN ?_; refine LR rfl (Jr7 (a := B) (b := y) rfl rfl m0) (D0 ?_); refine Ql rfl rfl rfl jB (We (_) 2) oN (fun hok _ => ?_) (fun v hv => QD rfl rfl (Xe MG m7 hv))
     have hmod : ¬ B % y ≠ 0 := fun e => e (Int.natCast_eq_zero.1 (Z3.1 hok))
     refine kC ?_; refine Kc (Ql rfl rfl rfl jB (We (_) 5) oN (fun hok _ => ?_) (fun v hv => QD rfl rfl (Xe MH m7 hv))); exact Gw
def KW : List Ty → Nat → List Nat → List (Ty × Nat × Nat)
 | [], _, _ => []
 | x :: xs, a, os => if JL x then (x, a, a + (JV x).toNat) :: KW xs (a + (JV x).toNat) os else (x, os.getD 0 0, os.getD 1 0) :: KW xs (a + 4) os.tail
theorem vz : ∀ (ts : List Ty) (a : Nat) (os : List Nat), (KW ts a os).length = ts.length
 | [], _, _ => rfl
 | x :: xs, a, os => by rw [KW]; split <;> rw [List.length_cons, vz xs, List.length_cons]
theorem jU (s : BS) : ∀ (ts : List Ty) (a : Nat) (os : List Nat), VV s ts a os = (KW ts a os).map fun q => (s.take q.2.2).drop q.2.1
 | [], _, _ => rfl
 | x :: xs, a, os => by
  rw [VV, KW]
  split
  ·rw [List.map_cons, jU s xs]
   congr 1
   simp only
   rw [List.drop_take]
   congr 1; omega
  ·rw [List.map_cons, jU s xs]
theorem vB : ∀ (ts : List Ty) (a : Nat) (os : List Nat), (KW ts a os).map Prod.fst = ts
 | [], _, _ => rfl
 | x :: xs, a, os => by rw [KW]; split <;> rw [List.map_cons, vB xs]
def cV : List Ty → Nat
 | [] => 0
 | x :: xs => if JL x then cV xs else cV xs + 1
theorem Jcp : ∀ (ts : List Ty) (x : Ty), cV (ts ++ [x]) = if JL x then cV ts else cV ts + 1
 | [], x => rfl
 | y :: ys, x => by
  rw [List.cons_append, cV, cV, Jcp ys x]
  by_cases h1 : JL y = true <;> by_cases h2 : JL x = true <;> simp [h1, h2]
def VC : List Ty → Int
 | [] => -1
 | x :: xs => if 0 ≤ VC xs then VC xs + 1 else if JL x then -1 else 0
theorem YO : ∀ ts : List Ty, -1 ≤ VC ts ∧ VC ts < ts.length
 | [] => by rw [VC]; simp
 | x :: xs => by
  have := YO xs
  rw [VC, List.length_cons]
  split
  ·omega
  ·split <;> omega
theorem jV : ∀ (ts : List Ty) (x : Ty), VC (ts ++ [x]) = if JL x then VC ts else (ts.length : Int)
 | [], x => rfl
 | y :: ys, x => by
  rw [List.cons_append, VC, VC, jV ys x]
  by_cases h2 : JL x = true
  ·rw [if_pos h2, if_pos h2]
  ·rw [if_neg h2, if_neg h2, if_pos m0, List.length_cons]; omega
theorem vC {x : Ty} (hx : JL x = true) : ∀ (ts : List Ty) (a : Nat) (os : List Nat), (∀ y ∈ ts, JL y = true → 0 ≤ JV y) → ∀ b : Nat, (b : Int) = a + Kp ts → KW (ts ++ [x]) a os = KW ts a os ++ [(x, b, b + (JV x).toNat)]
 | [], a, os, _, b, hb => by
  rw [Kp] at hb
  have : b = a := by omega
  subst this
  show KW [x] _ os = [(x, _, _)]
  rw [KW, if_pos hx, KW]
 | y :: ys, a, os, hy, b, hb => by
  have hy2 : ∀ z ∈ ys, JL z = true → 0 ≤ JV z := fun z hz => hy z (List.mem_cons_of_mem _ hz)
  rw [Kp, Xq] at hb; rw [List.cons_append, KW, KW]
  by_cases hf : JL y = true
  ·have h0 := hy y List.mem_cons_self hf
   rw [if_pos hf] at hb; rw [if_pos hf, if_pos hf, vC hx ys _ os hy2 b m0]; rfl
  ·rw [if_neg hf] at hb
   rw [if_neg hf, if_neg hf, vC hx ys _ os.tail hy2 b m0]; rfl
theorem vD {x : Ty} (hx : ¬ JL x = true) (v e : Nat) : ∀ (ts : List Ty) (a : Nat) (pre : List Nat), pre.length = cV ts → KW (ts ++ [x]) a (pre ++ [v, e]) = KW ts a (pre ++ [v]) ++ [(x, v, e)]
 | [], a, pre, hp => by
  rw [cV] at hp
  obtain rfl := List.length_eq_zero_iff.1 hp
  show KW [x] _ [v, e] = [(x, v, e)]
  rw [KW, if_neg hx, KW]; rfl
 | y :: ys, a, pre, hp => by
  rw [cV] at hp; rw [List.cons_append, KW, KW]
  by_cases hf : JL y = true
  ·rw [if_pos hf] at hp
   rw [if_pos hf, if_pos hf, vD hx v e ys _ pre hp]; rfl
  ·rw [if_neg hf] at hp
   rw [if_neg hf, if_neg hf]
   cases pre with
   | nil => simp at hp
   | cons u pre =>
    have hp2 : pre.length = cV ys := by simpa using hp
    have e1 : (u :: pre ++ [v, e]).tail = pre ++ [v, e] := rfl
    have e2 : (u :: pre ++ [v]).tail = pre ++ [v] := rfl
    rw [e1, e2, vD hx v e ys _ pre hp2]
    have e3 : (u :: pre ++ [v, e]).getD 1 0 = (u :: pre ++ [v]).getD 1 0 := by cases pre <;> rfl
    rw [e3]; rfl
theorem jW : ∀ (ts : List Ty) (a : Nat) (os os' : List Nat), VC ts = -1 → KW ts a os = KW ts a os'
 | [], _, _, _, _ => rfl
 | x :: xs, a, os, os', h => by
  rw [VC] at h
  have := YO xs
  by_cases h1 : 0 ≤ VC xs
  ·rw [if_pos h1] at h; omega
  ·rw [if_neg h1] at h
   by_cases hf : JL x = true
   ·rw [KW, KW, if_pos hf, if_pos hf, jW xs _ os os' m0]
   ·rw [if_neg hf] at h; omega
theorem Jsc : ∀ {ts : List Ty}, 0 ≤ VC ts → 0 < cV ts
 | [], h => by rw [VC] at h; omega
 | x :: xs, h => by
  rw [VC] at h; rw [cV]
  by_cases h1 : 0 ≤ VC xs
  ·have := Jsc h1
   split <;> omega
  ·rw [if_neg h1] at h
   split
   ·rename_i hf; rw [if_pos hf] at h; omega
   ·omega
theorem Jkt : ∀ {ts : List Ty}, VC ts = -1 → cV ts = 0
 | [], _ => rfl
 | x :: xs, h => by
  rw [VC] at h; rw [cV]
  have := YO xs
  by_cases h1 : 0 ≤ VC xs
  ·rw [if_pos h1] at h; omega
  ·rw [if_neg h1] at h
   by_cases hf : JL x = true
   ·rw [if_pos hf]; exact Jkt m0
   ·rw [if_neg hf] at h; omega
theorem zN (v e : Nat) : ∀ (ts : List Ty) (a : Nat) (pre : List Nat) (j : Nat), pre.length = cV ts → VC ts = (j : Int) → ∃ x f, (KW ts a (pre ++ [e]))[j]? = some (x, f, e) ∧ KW ts a (pre ++ [v]) = (KW ts a (pre ++ [e])).set j (x, f, v)
 | [], _, _, j, _, h => by rw [VC] at h; omega
 | y :: ys, a, pre, j, hp, h => by
  have hge := YO ys
  rw [cV] at hp; rw [VC] at h; rw [KW, KW]
  by_cases h1 : 0 ≤ VC ys
  ·rw [if_pos h1] at h
   obtain ⟨j', rfl⟩ : ∃ j', j = j' + 1 := ⟨j - 1, by omega⟩
   by_cases hf : JL y = true
   ·rw [if_pos hf] at hp
    obtain ⟨x, f, g1, g2⟩ := zN v e ys (a + (JV y).toNat) pre j' hp m0
    rw [if_pos hf, if_pos hf]; exact ⟨x, f, by rw [List.getElem?_cons_succ]; exact g1, by rw [List.set_cons_succ, ← g2]⟩
   ·rw [if_neg hf] at hp
    cases pre with
    | nil => simp at hp
    | cons u pre =>
     obtain ⟨x, f, g1, g2⟩ := zN v e ys (a + 4) pre j' (by simpa using hp) m0
     rw [if_neg hf, if_neg hf]
     have hpos : 0 < cV ys := Jsc h1
     have e3 : (u :: pre ++ [v]).getD 1 0 = (u :: pre ++ [e]).getD 1 0 := by
      cases pre with
      | nil => simp at hp; omega
      | cons _ _ => rfl
     rw [e3]; exact ⟨x, f, by rw [List.getElem?_cons_succ]; exact g1, by rw [List.set_cons_succ]; exact congrArg _ g2⟩
  ·rw [if_neg h1] at h
   by_cases hf : JL y = true
   ·rw [if_pos hf] at h; omega
   ·rw [if_neg hf] at h hp
    have hj : j = 0 := by omega
    subst hj
    have hc0 : cV ys = 0 := Jkt m0
    cases pre with
    | nil => simp at hp
    | cons u pre =>
     have hn : pre = [] := List.length_eq_zero_iff.1 (by simp at hp; omega)
     subst hn; rw [if_neg hf, if_neg hf]; refine ⟨y, u, rfl, ?_⟩; rw [jW ys (a + 4) (([u] ++ [v]).tail) (([u] ++ [e]).tail) m0]; rfl
def prC (q : Ty × Nat × Nat) : List Value := q.1.cells ++ [.int .i64 (q.2.1 : Int), .int .i64 (q.2.2 : Int)]
def Yd (l : List (Ty × Nat × Nat)) : List Value := l.flatMap prC
theorem j7 (q : Ty × Nat × Nat) : (prC q).length = 5 := by unfold prC; rw [List.length_append, Ty.len]; rfl
theorem Jfx (l : List (Ty × Nat × Nat)) : (Yd l).length = l.length * 5 := Qq j7 l
theorem Jzw (x : Ty) (f e v : Nat) : (prC (x, f, e)).set 4 (.int .i64 (v : Int)) = prC (x, f, v) := by
 obtain ⟨k, n, p, ins⟩ := x; rfl
theorem Jfy : ∀ {l : List (Ty × Nat × Nat)} {j : Nat} {x : Ty} {f e : Nat} (v : Nat), l[j]? = some (x, f, e) → (Yd l).set (j * 5 + 4) (.int .i64 (v : Int)) = Yd (l.set j (x, f, v))
 | [], _, _, _, _, _, h => by simp at h
 | q :: l, 0, x, f, e, v, h => by
  cases h
  unfold Yd
  rw [List.set_cons_zero, List.flatMap_cons, List.flatMap_cons, List.set_append_left _ _ (by rw [j7]; decide), Nat.zero_mul, Nat.zero_add, Jzw]
 | q :: l, j + 1, x, f, e, v, h => by
  have ih := Jfy (l := l) v nz
  unfold Yd at ih ⊢
  rw [List.set_cons_succ, List.flatMap_cons, List.flatMap_cons, List.set_append_right _ _ (by rw [j7]; omega), j7, show (j + 1) * 5 + 4 - 5 = j * 5 + 4 by omega, ih]
theorem XE (l : List (Ty × Nat × Nat)) (q : Ty × Nat × Nat) : Yd (l ++ [q]) = Yd l ++ prC q := by unfold Yd; rw [List.flatMap_append]; simp
def Vy (k n : Int) (ins : List Ty) (s : BS) : List Nat × Int :=
 if (Kk k n ins s).2 ≠ 0 then ([], (Kk k n ins s).2)
 else if (s.length : Int) < Kp (KF k ins (Kk k n ins s).1) then ([], 2)
 else match QT s (Kp (KF k ins (Kk k n ins s).1)).toNat (KF k ins (Kk k n ins s).1) 0 (Kp (KF k ins (Kk k n ins s).1)).toNat false with
  | none => ([], 2)
  | some os => (os, 0)
theorem Jsd {k n : Int} {p : Pl} {ins : List Ty} (ht : Ty.In R (.mk k n p ins)) (hm : m ≤ 1000000) (hx : ∀ i, i < m → VF k 0 i < ins.length) (rt ri : Nat) :
    Jpy Tryz.prog 230 [Vk ri, Vk rt] (jP ri m :: VM rt (.mk k n p ins) :: R) 0 (nxN (itV k ins) m) (Jgq m) := by
  refine Jeo Tryz.func230 rfl rfl fun q xids w2 XI XF pc hY => kY ?_; intro i hi; refine NK ?_; refine cD (fun g => ?_) fun g => ?_
  · refine J9 11 rfl ?_
    have hil : i < m := by omega
    refine gF ?_; refine Jmd (XT := XI (i + 1)) (XF := XF) (pc := pc) rfl rfl rfl rfl (hY i (itV k ins i) (i + 1) ⟨hil, rfl, rfl⟩) ?_ ?_ (fun ch hch => Jjs fun w1 hs1 => .inr ⟨ch, rfl, hch, hs1.keep⟩)
    all_goals (
     refine HV ?_; refine JI rfl (fun g => ?_) (fun g => ?_)
     · try exact Bool.noConfusion g
       all_goals try simp only [ZZ] at g
       all_goals (
        refine KQ 5 rfl (Jn rfl rfl .nil (fun w1 hs1 => ?_))
        obtain ⟨xs1, hx1⟩ := hs1.now
        exact .inl ⟨⟨_, rfl⟩, hs1.keep, .inr ⟨_, hx1⟩⟩
        skip)
     · try exact Bool.noConfusion g
       all_goals try simp only [ZZ] at g
       all_goals (
        refine gH ?_; refine ND ?_; exact NC
        skip)
     skip)
  · refine Ga fun w1 hs1 => ?_
    obtain ⟨xs1, hx1⟩ := hs1.now
    exact .inl ⟨⟨_, rfl⟩, hs1.keep, .inl ⟨i, _, (by show i = m; omega), hx1⟩⟩
theorem Jwo {c : Cx} {d : List Deferred} {l : Kx} {code : Code} (js : List Nat) (hn : js.Nodup) (hL : Ja3 L js = L') (h : HCE c d l L' X code Q) : HCE c d l L X code Q := fun a w hf hs => h a w hf (hL ▸ hs.sel js hn)
theorem vE {σ τ : Type} {c3 : Cx} {d : List Deferred} {l : Kx} {Xb : XP} {I : σ → Prop} {LI : σ → Jp} {E : Code → τ → Prop} {LE : τ → Jp} {pc : List PanicEntry → Prop} (s : σ) (h : I s) (hL : L.Sublist (LI s) ∧ (LI s).Sublist L) : HQ c3 d l L Xb (wK c3 Xb I LI E LE pc .normal) := fun a w hf hs => ⟨s, h, hs.weakL hL.2⟩
theorem row_some {n : Nat} {xs : List Value} (h : rowOk sz n xs row) (h0 : 0 < n) : ∃ r cap sp, row = some (r, cap, sp) := by
 cases row with
 | none => have := h.1; omega
 | some q => obtain ⟨r, cap, sp⟩ := q; exact ⟨r, cap, sp, rfl⟩
def wX (s : BS) (TY : List Ty) (i : Nat) (pre : List Nat) : List (Ty × Nat × Nat) := KW (TY.take i) 0 (pre ++ [s.length])
structure PInv (s : BS) (H : Nat) (TY : List Ty) (i A la : Nat) (op : Int) (pre : List Nat) : Prop where
  le : i ≤ TY.length
  cv : pre.length = cV (TY.take i)
  opv : op = VC (TY.take i)
  at_ : (A : Int) = Kp (TY.take i)
  off : QT s H TY 0 H false = (QT s H (TY.drop i) A la (decide (0 ≤ op))).map (pre ++ ·)
section
variable {s : BS} {H : Nat} {TY : List Ty} {i A la : Nat} {op : Int} {pre : List Nat} {x : Ty}
theorem PInv.start : PInv s H TY 0 0 H (-1) [] := ⟨Nat.zero_le _, rfl, rfl, rfl, by rw [List.drop_zero, show decide ((0 : Int) ≤ -1) = false from rfl]; cases QT s H TY 0 H false <;> rfl⟩
theorem KJ {l : List α} {x : α} (h : l[i]? = some x) : l.take (i + 1) = l.take i ++ [x] := by rw [List.take_add_one, h]; rfl
theorem Qh {l : List α} {x : α} (h : l[i]? = some x) : l.drop i = x :: l.drop (i + 1) := by
 exact DW
theorem j8 (l : List Ty) : 0 ≤ Kp l := (Zt l).1
theorem PInv.bound (h : PInv s H TY i A la op pre) (hx : TY[i]? = some x) (hH : Kp TY = (H : Int)) : (A : Int) + Xq x ≤ H := by
 exact gh
theorem PInv.len (h : PInv s H TY i A la op pre) : (wX s TY i pre).length = i := by unfold wX; rw [vz, List.length_take, Nat.min_eq_left h.le]
theorem PInv.fix (h : PInv s H TY i A la op pre) (hx : TY[i]? = some x) (hf : JL x = true) (hz : ∀ y ∈ TY, JL y = true → 0 ≤ JV y) : PInv s H TY (i + 1) (A + (JV x).toNat) la op pre ∧ wX s TY (i + 1) pre = wX s TY i pre ++ [(x, A, A + (JV x).toNat)] := by
 have h0 := hz x (List.mem_of_getElem? hx) hf
 have hlt := (List.getElem?_eq_some_iff.1 hx).1
 have h1 := h.off
 rw [Qh hx, QT, if_pos hf] at h1; refine ⟨⟨hlt, ?_, ?_, ?_, h1⟩, ?_⟩
 ·rw [KJ hx, Jcp, if_pos hf]; exact h.cv
 ·rw [KJ hx, jV, if_pos hf]; exact h.opv
 ·exact DS
 ·unfold wX
  rw [KJ hx, vC hf _ 0 _ (fun y hy => hz y (List.mem_of_mem_take hy)) A (by rw [h.at_]; simp)]
theorem PInv.bad (h : PInv s H TY i A la op pre) (hx : TY[i]? = some x) (hf : JL x = false) {v : Nat} (hv : v = Xj ((s.drop A).take 4)) (hb : (¬ 0 ≤ op ∧ v ≠ H) ∨ v < la ∨ s.length < v) : QT s H TY 0 H false = none := by
 subst hv
 rw [h.off, Qh hx, QT, if_neg (by rw [hf]; decide), if_pos (by
  rcases hb with ⟨h1, h2⟩ | h1
  ·exact .inl ⟨by simp [h1], h2⟩
  ·exact .inr h1)]
 rfl
theorem PInv.var (h : PInv s H TY i A la op pre) (hx : TY[i]? = some x) (hf : JL x = false) {v : Nat} (hv : v = Xj ((s.drop A).take 4)) (h1 : 0 ≤ op ∨ v = H) (h2 : la ≤ v) (h3 : v ≤ s.length) :
  PInv s H TY (i + 1) (A + 4) v i (pre ++ [v]) ∧ (op = -1 → wX s TY (i + 1) (pre ++ [v]) = wX s TY i pre ++ [(x, v, s.length)]) ∧
   (∀ j : Nat, op = (j : Int) → ∃ x0 f0, (wX s TY i pre)[j]? = some (x0, f0, s.length) ∧ wX s TY (i + 1) (pre ++ [v]) = (wX s TY i pre).set j (x0, f0, v) ++ [(x, v, s.length)]) := by
 have hlt := (List.getElem?_eq_some_iff.1 hx).1
 have hn : ¬ JL x = true := by rw [hf]; decide
 have hlv : Xj ((s.drop A).take 4) = v := hv.symm
 have ho := h.off
 rw [Qh hx, QT, if_neg hn, hlv, if_neg (by
  rintro (⟨g1, g2⟩ | g | g)
  ·simp only [decide_eq_false_iff_not] at g1; omega
  ·omega
  ·omega), Option.map_map] at ho
 have hps : wX s TY (i + 1) (pre ++ [v]) = KW (TY.take i) 0 (pre ++ [v]) ++ [(x, v, s.length)] := by
  unfold wX
  rw [KJ hx, List.append_assoc]; exact vD hn v s.length _ 0 pre h.cv
 refine ⟨⟨hlt, ?_, ?_, ?_, ?_⟩, fun e => ?_, fun j e => ?_⟩
 ·rw [KJ hx, Jcp, if_neg hn, List.length_append, h.cv]; rfl
 ·rw [KJ hx, jV, if_neg hn, List.length_take, Nat.min_eq_left h.le]
 ·exact Dw
 ·rw [ho, show decide (0 ≤ (i : Int)) = true by simp]
  congr 1
  funext r
  simp
 ·rw [hps, jW _ 0 (pre ++ [v]) (pre ++ [s.length]) (by rw [← h.opv]; exact e)]; rfl
 ·obtain ⟨x0, f0, g1, g2⟩ := zN v s.length (TY.take i) 0 pre j h.cv (by rw [← h.opv]; exact e)
  exact ⟨x0, f0, g1, by rw [hps, g2]; rfl⟩
theorem PInv.done (h : PInv s H TY TY.length A la op pre) : wX s TY TY.length pre = KW TY 0 (pre ++ [s.length]) ∧ QT s H TY 0 H false = if ¬ 0 ≤ op ∧ H ≠ s.length then none else some (pre ++ [s.length]) := by
 refine ⟨by unfold wX; rw [List.take_length], ?_⟩; rw [h.off, List.drop_length, QT]
 by_cases hc : ¬ 0 ≤ op ∧ H ≠ s.length
 ·rw [if_pos hc, if_pos ⟨by simp [hc.1], hc.2⟩]; rfl
 ·rw [if_neg hc, if_neg (by rintro ⟨g1, g2⟩; exact hc ⟨by simpa using g1, g2⟩)]; rfl
end
abbrev ZC (k n : Int) (ins : List Ty) (s : BS) : List (Ty × Nat × Nat) := KW (KF k ins (Kk k n ins s).1) 0 (Vy k n ins s).1
section
variable {k n : Int} {ins : List Ty} {s : BS} {M H : Nat}
theorem qJ (h : (Kk k n ins s).2 ≠ 0) : (Vy k n ins s).2 = (Kk k n ins s).2 := by unfold Vy; rw [if_pos h]
theorem Jku (h0 : (Kk k n ins s).2 = 0) (hM : M = (Kk k n ins s).1) (hH : Kp (KF k ins M) = (H : Int)) (h : s.length < H) : (Vy k n ins s).2 = 2 := by
 unfold Vy; rw [if_neg (by rw [h0]; decide), ← hM, hH, if_pos m0]
theorem Jcq (h0 : (Kk k n ins s).2 = 0) (hM : M = (Kk k n ins s).1) (hH : Kp (KF k ins M) = (H : Int)) (h : H ≤ s.length) : Vy k n ins s = match QT s H (KF k ins M) 0 H false with | none => ([], 2) | some os => (os, 0) := by
 unfold Vy; rw [if_neg (by rw [h0]; decide), ← hM, hH, if_neg m0, Int.toNat_natCast]
 all_goals (cases QT s H (KF k ins M) 0 H false <;> rfl)
theorem Jkv (h0 : (Kk k n ins s).2 = 0) (hM : M = (Kk k n ins s).1) (hH : Kp (KF k ins M) = (H : Int)) (h : H ≤ s.length) (ho : QT s H (KF k ins M) 0 H false = none) : (Vy k n ins s).2 = 2 := by
 rw [Jcq h0 hM hH h, ho]
end
set_option maxHeartbeats 2000000 in
theorem Jwp {k n : Int} {p : Pl} {ins : List Ty} (ht : Ty.In R (.mk k n p ins)) (hc : Vp (.mk k n p ins) 0 = 0) (hk3 : k = 3 ∨ k = 4 ∨ k = 7) (hl : s.length ≤ 100000) :
    PureX (α := { row : Vn // rowOk 5 (ZC k n ins s).length (Yd (ZC k n ins s)) row }) Tryz.prog 147 [Ty.val (.mk k n p ins), Jy s].toArray ((Vy k n ins s).2 = 0) (fun v => (Vy k n ins s).2 ≠ 0 ∧ v = wrV (Vy k n ins s).2) (fun x => J3 (ZC k n ins s).length x.1) (fun x => JJ 162 (Yd (ZC k n ins s)) x.1) R := by
  obtain ⟨hk8, ho, _, _⟩ := QE hc
  have hmny := Jzv ht hc hk3 hl
  have hmok := wW (s := s) hk8 ho hk3
  have hmX := zM (s := s) hk8 ho hk3
  obtain ⟨M, hM⟩ : ∃ M, M = (Kk k n ins s).1 := ⟨_, rfl⟩
  rw [← hM] at hmny hmok hmX
  obtain ⟨TY, hTY⟩ : ∃ TY, TY = KF k ins M := ⟨_, rfl⟩
  have hTl : TY.length = M := by rw [hTY, WF]
  have hzz : ∀ z ∈ TY, JL z = true → 0 ≤ JV z := fun z _ hz => by have := qI hz; omega
  have hbl := j8 TY
  obtain ⟨H, hH⟩ : ∃ H, H = (Kp TY).toNat := ⟨_, rfl⟩
  have hHi : Kp TY = (H : Int) := by omega
  have hHi' : Kp (KF k ins M) = (H : Int) := by rw [← hTY]; exact hHi
  refine Jb1 Tryz.func147 rfl rfl fun w => WD fun K1 hK1 => Km (LN rfl fun r1 => (LN rfl fun r2 => ?_)); refine DL ?_; refine KX (hK1 _ _ _ _ ?_); refine WD fun K2 hK2 => Km (LS 2 [1, 0] rfl rfl ?_); refine Ql rfl rfl rfl (enters_of Tryz.func185 m5 rfl) hmny oR (fun hm0 _ => ?_) (fun v hv => QD rfl rfl (by rw [qJ hv.1]; exact hv))
  have hM5 := (hmok hm0).1
  have hX := hmX hm0
  have hti := fun i (h : i < M) => ht.sub _ (KC (hX i h)).2
  have hbg := Jfi ht (m := M) m0 hX
  rw [hHi'] at hbg; refine DL ?_; refine KX (hK2 _ _ _ _ ?_); refine WD fun K3 hK3 => Km (LS 2 [1] rfl rfl (Jc rfl rfl rfl (enters_of Tryz.func163 m5 rfl) hbg oR ?_)); refine LN rfl fun r3 => ?_
  refine kq ?_; refine KX (hK3 _ _ _ _ ?_); refine WD fun K4 hK4 => Km (LS 2 [0, 1] rfl rfl (LR rfl (JO rfl rfl) ?_)); refine D0 ?_; refine Ql rfl rfl rfl jB (We (_) 2) oN (fun hok _ => ?_) (fun v hv => QD rfl rfl (Xe (Jku hm0 hM hHi' Mt) m7 hv))
  have hHl : H ≤ s.length := by have := Z1.mp hok; omega
  refine KX (hK4 _ _ _ _ ?_); refine WD fun K5 hK5 => Km (LN rfl fun r4 => ?_); refine KX (hK5 _ _ _ _ ?_); refine WD fun K6 hK6 => ?_
  refine JD [(r3, .cells #[.int .i64 (H : Int)] 3 (0, 0))] [(0, .pure), (1, .grow (VS xo (.cells #[.int .i64 0] 3 (0, 0)))), (2, .grow (VS xo (.cells #[.int .i64 0] 3 (0, 0)))), (3, .grow (VS xo (.cells #[.int .i64 0] 3 (0, 0)))), (4, .turn), (5, .turn), (6, .turn)] 7 [0, 1, 2, 3, 4, 5, 6] m5 m5 m6 (Jk (k := 0) rfl rfl rfl rfl rfl (fun _ hS => (Jd rfl (.inl (hS _ (Kh (n := 0) rfl))) rfl rfl)) (XU (k := 1) (cs := #[_]) rfl rfl rfl rfl rfl rfl fun r5 => XU (k := 2) (cs := #[_]) rfl rfl rfl rfl rfl rfl fun r6 => XU (k := 3) (cs := #[_]) rfl rfl rfl rfl rfl rfl fun r7 => ?_))
  refine Xk (k := 4) (q := 2) rfl rfl rfl rfl rfl rfl rfl rfl rfl mi mj m6 ?_
  refine Xk (k := 5) (q := 1) rfl rfl rfl rfl rfl rfl rfl rfl rfl mi mj m6 ?_
  refine Xk (k := 6) (q := 0) rfl rfl rfl rfl rfl rfl rfl rfl rfl mi mj m6 (Kc (KX (hK6 _ _ _ _ ?_))); refine Jjt fun K7 hK7 => WD fun K8 hK8 => Km (LS 2 [6] rfl rfl (VD rfl rfl rfl Jqk (Jch (.mk k n p ins) (M : Int)) fun pp => ?_))
  obtain ⟨ra, rb⟩ := pp
  change HL _ _ _ (jP rb M :: VM ra (.mk k n p ins) :: _) _ _ _ _; refine KX (hK8 _ _ _ _ ?_); refine Jmh (Jwo [4, 3, 2, 5, 0, 1, 6, 7, 8] (L' := [_, _, _, _, _, _, _, _, _]) m7 rfl ?_)
  refine Jmi (τ := Unit) (fun ch => ∃ v, ((Vy k n ins s).2 ≠ 0 ∧ v = wrV (Vy k n ins s).2) ∧ ch = zi v) (fun i (q : Nat × Nat × Nat × Int × Vn × List Nat) => q.1 = i ∧ PInv s H TY q.1 q.2.1 q.2.2.1 q.2.2.2.1 q.2.2.2.2.2 ∧ rowOk 5 q.1 (Yd (wX s TY q.1 q.2.2.2.2.2)) q.2.2.2.2.1) (fun q => (r5, .cells #[.int .i64 (q.2.1 : Int)] 3 (0, 0)) :: (r6, .cells #[.int .i64 (q.2.2.1 : Int)] 3 (0, 0)) :: (r7, .cells #[.int .i64 q.2.2.2.1] 3 (0, 0)) :: (r4, .cells #[J3 q.1 q.2.2.2.2.1] 159 (0, 0)) :: JJ 162 (Yd (wX s TY q.1 q.2.2.2.2.2)) q.2.2.2.2.1) (fun _ _ => False) (fun _ => []) [jP rb M, VM ra (.mk k n p ins), _, _, _] (0, 0, H, -1, none, []) rfl rfl Jqq (Jsd ht m0 hX ra rb) mI rfl (fun q hq => by rcases List.mem_cons.1 hq with rfl | hq; exact .inl mh; rcases List.mem_cons.1 hq with rfl | hq; exact .inl mh; exact .inr hq) rfl ⟨rfl, PInv.start, rfl, rfl⟩ ?_ ?_ ?_ ?_
  · rintro q Xr Xb w3 i _ _ ⟨i2, A, la, op, row, pre⟩ ⟨hii, rfl, rfl⟩ ⟨he, hinv, hrow⟩ Kr hKr
    simp only at he hinv hrow; subst he
    have hti1 := hti i2 hii
    have hxx : TY[i2]? = some (JF k 0 ins i2) := by rw [hTY]; unfold KF; rw [List.getElem?_map, List.getElem?_range hii]; rfl
    have hsz := wQ hti1
    have hbd := hinv.bound hxx hHi
    have hbt := qD (JF k 0 ins i2)
    have hbe := Zs (JF k 0 ins i2)
    unfold itV
    obtain ⟨x, hx⟩ : ∃ x, x = JF k 0 ins i2 := ⟨_, rfl⟩
    rw [← hx] at hti1 hxx hsz hbd hbt hbe ⊢
    obtain ⟨y, hy⟩ : ∃ y : Nat, Xq x = (y : Int) := ⟨_, (Int.toNat_of_nonneg m0).symm⟩
    rw [hy] at hsz hbd hbt hbe
    obtain ⟨xk, xn, xp, xi⟩ := x
    refine WS fun K9 hK9 => Km (DL ?_); refine KX (hK9 _ _ _ _ ?_); refine Km (LN rfl fun r8 => ?_)
    refine Vr (k := 0) (n := 3) (cs' := #[_, _, _]) (vs := #[_, _, _]) rfl rfl rfl rfl rfl rfl rfl mH rfl mj (KX (hKr _ _ ?_)); clear hKr; refine yj (WS fun K10 hK10 => Km (LR rfl (Ji (xs := Ty.cells (.mk xk xn xp xi)) (n := 3) rfl (kn 0 rfl) rfl rfl (Ty.len _)) ?_)); refine Jc rfl rfl rfl Jj0 hsz (fun q hq => Or.inr (List.mem_append_right _ hq)) (LS 5 [] rfl rfl (KX (hK10 _ _ _ _ ?_))); refine WS fun K11 hK11 => Km (LR rfl (Ji (xs := Ty.cells (.mk xk xn xp xi)) (n := 3) rfl (kn 0 rfl) rfl rfl (Ty.len _)) (LS 4 [1, 1] rfl rfl (Jj mG (LR rfl (J5 (r := [_, _, _, _, _]) rfl rfl) (LN rfl fun r9 => ?_)))))
    refine kq ?_; refine KX (hK11 _ _ _ _ ?_); refine WS fun K12 hK12 => WS fun K13 hK13 => Km (NZ ?_); refine KX (hK13 _ _ _ _ ?_); refine cD (fun g => ?_) fun g => ?_
    · refine WS fun K15 hK15 => ?_
      have hff : JL (Ty.mk xk xn xp xi) = false := ‹_›
      rw [hff, if_neg m7] at hbe; refine Km (LR rfl (Jd rfl (JG (k := 3) rfl) rfl rfl) (LR rfl (Jd rfl (kn 2 rfl) rfl rfl) ?_)); refine LR rfl (Vu (kl := some (.i64, (A : Int))) (kh := none) (m := A) (n := s.length) rfl rfl rfl rfl rfl rfl m0 m0 (show _ = s.drop A from by rw [List.take_length])) (J2 rfl rfl rfl Jqn (Jr5 (s := s.drop A) Me) ?_)
      obtain ⟨v, hv⟩ : ∃ v, v = Xj ((s.drop A).take 4) := ⟨_, rfl⟩
      rw [← hv]; refine LS 1 [] rfl rfl ?_
      refine kq ?_; refine KX (hK15 _ _ _ _ ?_); refine WS fun K16 hK16 => Km (LS 5 [0, 3] rfl rfl ?_)
      refine Jo 55 rfl (fun gb => ?_) (fun gb => ?_) <;> (try simp only [ZZ] at gb) <;> first | (refine LR rfl (Jw rfl rfl rfl) ?_) | (refine LK rfl ?_)
      all_goals refine gC ?_
      all_goals first
        | (refine LR rfl (Jd rfl (JG (k := 3) rfl) rfl rfl) ?_)
        | (refine LK rfl ?_)
      all_goals first
        | (refine LR rfl (JO rfl rfl) ?_)
        | (refine LK rfl ?_)
      all_goals refine LW 3 [] rfl rfl ?_
      all_goals first
        | (refine LK rfl ?_)
        | (refine Jo 62 rfl (fun gb => ?_) (fun gb => ?_) <;> (try simp only [ZZ] at gb) <;> first | (refine LR rfl (Jd rfl (kn 0 rfl) rfl rfl) ?_) | (refine LR rfl (Jd rfl (kn 1 rfl) rfl rfl) ?_) | (refine LR rfl (Jd rfl (kn 2 rfl) rfl rfl) ?_) | (refine LR rfl (Jd rfl (kn 3 rfl) rfl rfl) ?_) | (refine LR rfl (Jd rfl (kn 4 rfl) rfl rfl) ?_) | (refine LR rfl (Jd rfl (kn 5 rfl) rfl rfl) ?_) | (refine LR rfl (Jd rfl (kn 6 rfl) rfl rfl) ?_) | (refine LR rfl (Jd rfl (JG (k := 0) rfl) rfl rfl) ?_) | (refine LR rfl (Jd rfl (JG (k := 1) rfl) rfl rfl) ?_) | (refine LR rfl (Jd rfl (JG (k := 2) rfl) rfl rfl) ?_) | (refine LR rfl (Jd rfl (JG (k := 3) rfl) rfl rfl) ?_) | (refine LR rfl (Jd rfl (JG (k := 4) rfl) rfl rfl) ?_) | (refine LK rfl ?_))
      all_goals refine GL ?_
      all_goals first
        | (refine LK rfl ?_)
        | (refine Jo 65 rfl (fun gb => ?_) (fun gb => ?_) <;> (try simp only [ZZ] at gb) <;> first | (refine LR rfl (Jw rfl rfl rfl) ?_) | (refine LK rfl ?_))
      all_goals refine gC ?_
      all_goals first
        | (refine LR rfl (Jd rfl (JG (k := 2) rfl) rfl rfl) ?_)
        | (refine LK rfl ?_)
      all_goals refine LW 3 [] rfl rfl ?_
      all_goals refine Ql rfl rfl rfl jB (We (_) 2) oN (fun hok _ => ?_) (fun v1 hv1 => by first | exact Bool.noConfusion hv1.1 | ((repeat (first | refine Jpx ?_ | refine Jmc ?_)); exact Jmf ⟨v1, Xe (Jkv hm0 hM hHi' hHl (by rw [← hTY]; exact hinv.bad hxx hff hv (by first | (refine .inr (.inl ?_); omega) | (refine .inr (.inr ?_); omega) | (refine .inl ⟨?_, fun e => ?_⟩; omega; have := Z4.1 hv1.1; omega)))) m7 hv1, rfl⟩))
      all_goals try exact Bool.noConfusion hok
      all_goals refine KX ?_
      all_goals (
       refine hK16 _ _ _ _ (WS fun K30 hK30 => WS fun K31 hK31 => ?_)
       obtain ⟨hvi, hvn, hvj⟩ := hinv.var hxx hff hv (by first | (left; omega) | (right; have := Z3.1 hok; omega)) m0 m0
       refine Km (LS 2 [4] rfl rfl ?_); refine KX (hK31 _ _ _ _ ?_); refine cD (fun g => ?_) fun g => ?_
       obtain ⟨j, hj0⟩ : ∃ j : Nat, op = (j : Int) := ⟨op.toNat, by omega⟩
       have hj : j < i2 := by have := hinv.opv; have := YO (TY.take i2); rw [List.length_take, Nat.min_eq_left hinv.le] at this; omega
       obtain ⟨rr, cap, sp, rfl⟩ := row_some hrow m0
       obtain ⟨x0, f0, g1, g2⟩ := hvj j hj0
       have hjp : j * 5 + 4 < (Yd (wX s TY i2 pre)).length := by rw [Jfx, hinv.len]; omega
       have hjl : j * 5 + 4 < (Yd (wX s TY i2 pre) ++ sp).length := by rw [List.length_append]; omega
       have hrowJ : rowOk 5 i2 (Yd ((wX s TY i2 pre).set j (x0, f0, v))) (some (rr, cap, sp)) := ⟨by rw [Jfx, List.length_set, hinv.len], hrow.2⟩
       refine Km (LR rfl (Jd (v := J3 i2 (some (rr, cap, sp))) rfl (kn 5 rfl) rfl rfl) (LR rfl (Jd rfl (kn 4 rfl) rfl rfl) ?_))
       refine LS 2 [0] rfl rfl (LR rfl (Jgu (row := some (rr, cap, sp)) (j := j) (m := 5) (off' := j * 5) rfl hrow rfl rfl rfl hj0 hj rfl) (LR rfl (JW (off' := j * 5 + 4) rfl rfl rfl) (Ky (k := 6) (cs' := (Yd ((wX s TY i2 pre).set j (x0, f0, v)) ++ sp).toArray) rfl rfl rfl rfl rfl rfl (by rw [List.getElem?_toArray, List.getElem?_eq_getElem hjl]; rfl) (Jyq _) (by rw [List.setIfInBounds_toArray, List.set_append_left _ _ hjp, Jfy v g1]) rfl ?_))); refine KX (hK30 _ _ _ _ ?_); refine Gu ?_; refine WS fun K33 hK33 => Km (LR rfl (Jd (v := J3 i2 (some (rr, cap, sp))) rfl (kn 5 rfl) rfl rfl) (DA ?_)); refine J8 (vs := [_]) (zs := [_, _, _, _, _]) (r := [_, _, _, _, _]) rfl rfl rfl rfl rfl rfl rfl rfl rfl ms rfl fun r10 => JB (L0 := [_, _, _, _, _, _, _]) (xs := Yd ((wX s TY i2 pre).set j (x0, f0, v))) (row := some (rr, cap, sp)) (n := i2) (sz := 5) (b := 56) (news := [_, _, _, _, _]) (List.perm_append_comm (l₁ := [_, _, _, _, _, _, _])) rfl rfl rfl rfl (kn 0 rfl) rfl rfl rfl rfl rfl m7 rfl rfl rfl m7 hrowJ m0 m0 fun ra2 cap2 sp2 hra => H1 ?_; refine KX (hK33 _ _ _ _ ?_); refine D9 ?_
       (obtain rfl : y = 4 := by omega
        exact vE (i2 + 1, A + 4, v, (i2 : Int), some (ra2, cap2, sp2), pre ++ [v]) ⟨rfl, hvi, by simp only; rw [g2, XE]; exact hra⟩ (by simp only; rw [g2, XE]; exact ⟨List.Sublist.refl _, List.Sublist.refl _⟩))
       refine wv (hK30 _ _ _ _ ?_); refine Gu ?_; refine WS fun K34 hK34 => Km (LR rfl (Jd (v := J3 i2 row) rfl (kn 5 rfl) rfl rfl) (DA ?_)); refine J8 (vs := [_]) (zs := [_, _, _, _, _]) (r := [_, _, _, _, _]) rfl rfl rfl rfl rfl rfl rfl rfl rfl ms rfl fun r11 => JB (L0 := [_, _, _, _, _, _, _]) (xs := Yd (wX s TY i2 pre)) (row := row) (n := i2) (sz := 5) (b := 56) (news := [_, _, _, _, _]) (List.perm_append_comm (l₁ := [_, _, _, _, _, _, _])) rfl rfl rfl rfl (kn 0 rfl) rfl rfl rfl rfl rfl m7 rfl rfl rfl m7 hrow m0 m0 fun ra2 cap2 sp2 hra => H1 ?_; refine KX (hK34 _ _ _ _ ?_); refine Km (LS 3 [4] rfl rfl ?_); refine Jj mG ?_
       refine Ky (k := 4) rfl rfl rfl rfl rfl rfl rfl rfl mi mj (KX (Y6 (Qm [4, 5, 6, 7, 0] (L' := [_, _, _, _, _]) m7 rfl ?_)))
       (obtain rfl : y = 4 := by omega
        have g3 := hvn (by have := hinv.opv; have := YO (TY.take i2); omega)
        exact vE (i2 + 1, A + 4, v, (i2 : Int), some (ra2, cap2, sp2), pre ++ [v]) ⟨rfl, hvi, by simp only; rw [g3, XE]; exact hra⟩ (by simp only; rw [g3, XE]; exact ⟨List.Sublist.refl _, List.Sublist.refl _⟩))
       skip)
    refine wv (hK12 _ _ _ _ ?_); refine WS fun K35 hK35 => Km (LR rfl (Jd (v := J3 i2 row) rfl (kn 5 rfl) rfl rfl) (DA ?_)); refine J8 (vs := [_]) (zs := [_, _, _, _, _]) (r := [_, _, _, _, _]) rfl rfl rfl rfl rfl rfl rfl rfl rfl ms rfl fun r12 => JB (L0 := [_, _, _, _, _, _, _]) (xs := Yd (wX s TY i2 pre)) (row := row) (n := i2) (sz := 5) (b := 56) (news := [_, _, _, _, _]) (List.perm_append_comm (l₁ := [_, _, _, _, _, _, _])) rfl rfl rfl rfl (kn 0 rfl) rfl rfl rfl rfl rfl m7 rfl rfl rfl m7 hrow m0 m0 fun ra2 cap2 sp2 hra => H1 ?_; refine KX (hK35 _ _ _ _ ?_); refine D9 ?_
    (have hfx : JL (Ty.mk xk xn xp xi) = true := ‹_›
     rw [hfx, if_pos rfl] at hbe
     obtain ⟨f1, f2⟩ := hinv.fix hxx hfx hzz
     rw [show (JV (Ty.mk xk xn xp xi)).toNat = y by omega] at f1 f2
     exact vE (i2 + 1, A + y, la, op, some (ra2, cap2, sp2), pre) ⟨rfl, f1, by simp only; rw [f2, XE]; exact hra⟩ (by simp only; rw [f2, XE]; exact ⟨List.Sublist.refl _, List.Sublist.refl _⟩))
  · rintro D i ⟨i2, A, la, op, row, pre⟩ hfi ⟨he, hinv, hrow⟩
    simp only at he hinv hrow
    have hin : i = M := hfi
    have he2 : i2 = TY.length := by omega
    subst he2
    have hfin := hinv.done
    refine Y6 (hK7 _ _ _ _ ?_); refine WD fun K36 hK36 => Km (LR rfl (Jd (v := .int .i64 op) rfl (kn 3 rfl) rfl rfl) (LS 2 [] rfl rfl ?_))
    refine Jo 96 rfl (fun gb => ?_) (fun gb => ?_) <;> (try simp only [ZZ] at gb) <;> first | (refine LR rfl (Jd (v := .int .i64 (H : Int)) rfl (Or.inl (List.mem_cons_of_mem _ (List.mem_append_right _ (List.mem_cons_of_mem _ (List.mem_cons_of_mem _ List.mem_cons_self))))) rfl rfl) ?_) | (refine LK rfl ?_)
    all_goals first
      | (refine LR rfl (Jd (v := Jy s) rfl (Or.inl (List.mem_cons_of_mem _ (List.mem_append_right _ (List.mem_cons_of_mem _ (List.mem_cons_of_mem _ (List.mem_cons_of_mem _ List.mem_cons_self)))))) rfl rfl) ?_)
      | (refine LK rfl ?_)
    all_goals first
      | (refine LR rfl (JO rfl rfl) ?_)
      | (refine LK rfl ?_)
    all_goals refine GL ?_
    all_goals refine Ql rfl rfl rfl jB (We (_) 2) oN (fun hok _ => ?_) (fun v hv => by first | exact Bool.noConfusion hv.1 | exact Jen (k := 0) rfl rfl (QD rfl rfl (Xe (Jkv hm0 hM hHi' hHl (by rw [← hTY]; exact (hfin.2).trans (if_pos ⟨by omega, fun e => by have := Z4.1 hv.1; omega⟩))) m7 hv)))
    all_goals refine KX ?_
    all_goals (
     refine hK36 _ _ _ _ (WD fun K41 hK41 => Km (LR rfl (Jd (v := J3 TY.length row) rfl (kn 4 rfl) rfl rfl) (Vb rfl ?_))); refine KX (hK41 _ _ _ _ ?_); refine Jpz (Jnz ?_)
     have hpo := Jcq hm0 hM hHi' hHl
     rw [← hTY, hfin.2, if_neg (by first | (rintro ⟨g1, g2⟩; omega) | (rintro ⟨g1, g2⟩; have := Z3.1 hok; omega))] at hpo; simp only at hpo
     have hps : ZC k n ins s = wX s TY TY.length pre := by unfold ZC; rw [hpo, ← hM, ← hTY, hfin.1]
     rw [hps]; refine DX ?_; refine Jn rfl rfl (.cons (Jx rfl) .nil) (fun w1 hs1 => ?_); exact .inl ⟨by rw [hpo], ⟨row, by rw [hinv.len]; exact hrow⟩, congrArg (fun m => Ending.returned (J3 m row)) hinv.len.symm, hs1.weakL (.cons _ (.cons _ (.cons _ (.cons _ (.cons _ (List.sublist_append_left _ _))))))⟩
     skip)
  exact Gb
  · rintro D _ ⟨v, hv, rfl⟩
    exact Jen (k := 0) rfl rfl (QD rfl rfl hv)
open Go.Proofs (Enters enters_of)
theorem Jaq : ∀ {l : List (Gf × BS)} {vs : List Vl} {f : Gf} {s : BS} {v : Vl}, Wb l = (vs, 0) → f s = (v, 0) → Wb (l ++ [(f, s)]) = (vs ++ [v], 0)
 | [], vs, f, s, v, h, hv => by
  rw [Wb] at h
  obtain rfl := (Prod.mk.inj h).1
  rw [List.nil_append, Wb, Wb, hv, if_neg mh, if_neg mh]; rfl
 | (f', s') :: l, vs, f, s, v, h, hv => by
  rw [Wb] at h
  by_cases h1 : (f' s').2 ≠ 0
  ·rw [if_pos h1] at h; exact absurd (Prod.mk.inj h).2 h1
  rw [if_neg h1] at h
  by_cases h2 : (Wb l).2 ≠ 0
  ·rw [if_pos h2] at h; exact absurd (Prod.mk.inj h).2 h2
  rw [if_neg h2] at h
  obtain rfl := (Prod.mk.inj h).1
  have ih := Jaq (l := l) (vs := (Wb l).1) (Prod.ext rfl (Decidable.not_not.1 h2)) hv
  rw [List.cons_append, Wb, if_neg h1, ih, if_neg mh]; rfl
theorem Jfz : ∀ {l r : List (Gf × BS)} {vs : List Vl} {f : Gf} {s : BS}, Wb l = (vs, 0) → (f s).2 ≠ 0 → (Wb (l ++ (f, s) :: r)).2 = (f s).2
 | [], r, vs, f, s, _, hv => by rw [List.nil_append, Wb, if_pos hv]
 | (f', s') :: l, r, vs, f, s, h, hv => by
  rw [Wb] at h
  by_cases h1 : (f' s').2 ≠ 0
  ·rw [if_pos h1] at h; exact absurd (Prod.mk.inj h).2 h1
  rw [if_neg h1] at h
  by_cases h2 : (Wb l).2 ≠ 0
  ·rw [if_pos h2] at h; exact absurd (Prod.mk.inj h).2 h2
  have ih := Jfz (r := r) (l := l) (vs := (Wb l).1) (Prod.ext rfl (Decidable.not_not.1 h2)) hv
  rw [List.cons_append, Wb, if_neg h1, if_pos (by rw [ih]; exact hv)]; exact ih
theorem zO {s : BS} {H : Nat} (hH : H ≤ s.length) : ∀ {ts : List Ty} {a la : Nat} {op : Bool} {os : List Nat}, QT s H ts a la op = some os → la ≤ s.length → (op = false → la = H) → (∀ x ∈ ts, JL x = true → 0 ≤ JV x) → (a : Int) + Kp ts = H → ∀ q ∈ KW ts a os, q.2.1 ≤ q.2.2 ∧ q.2.2 ≤ s.length
 | [], _, _, _, _, _, _, _, _, _, q, hq => by rw [KW] at hq; cases hq
 | x :: xs, a, la, op, os, h, hla, hop, hz, hb, q, hq => by
  have hz2 : ∀ y ∈ xs, JL y = true → 0 ≤ JV y := fun y hy => hz y (List.mem_cons_of_mem _ hy)
  have hn := j8 xs
  rw [Kp, Xq] at hb; rw [QT] at h; rw [KW] at hq
  by_cases hf : JL x = true
  ·rw [if_pos hf] at h hb hq
   have h0 := hz x List.mem_cons_self hf
   rcases List.mem_cons.1 hq with rfl | hq
   ·simp only; omega
   ·exact zO hH h hla hop hz2 m0 q hq
  ·rw [if_neg hf] at h hb hq
   split at h
   ·cases h
   ·rename_i h1
    obtain ⟨r, h2, rfl⟩ := Option.map_eq_some_iff.1 h
    obtain ⟨o, r2, rfl, g1, g2, _⟩ := wT h2 m0 (fun h => by cases h)
    rcases List.mem_cons.1 hq with rfl | hq
    ·exact ⟨g1, g2⟩
    ·exact zO hH h2 m0 (fun h => by cases h) hz2 m0 q hq
def gq (s : BS) (q : Ty × Nat × Nat) : Gf × BS := (Qg q.1, (s.take q.2.2).drop q.2.1)
theorem qK {α β γ : Type} (f : α → β) (g : α → γ) : ∀ l : List α, (l.map f).zip (l.map g) = l.map fun a => (f a, g a)
 | [] => rfl
 | x :: xs => by rw [List.map_cons, List.map_cons, List.zip_cons_cons, qK f g xs]; rfl
theorem Jwq {k n : Int} {ins : List Ty} (hX : (Kk k n ins s).2 = 0 → ∀ i, i < (Kk k n ins s).1 → VF k 0 i < ins.length) :
  Jcm k n ins (ZB ins) s = if (Vy k n ins s).2 ≠ 0 then (v0L, (Vy k n ins s).2) else if (Wb ((ZC k n ins s).map (gq s))).2 ≠ 0 then (v0L, (Wb ((ZC k n ins s).map (gq s))).2) else (KP (Wb ((ZC k n ins s).map (gq s))).1 0, 0) := by
 unfold Jcm
 by_cases hm : (Kk k n ins s).2 ≠ 0
 ·rw [if_pos hm, if_pos (by rw [qJ hm]; exact hm), qJ hm]
 rw [if_neg hm]
 have hm0 := Decidable.not_not.1 hm
 have hX := hX hm0
 unfold ZC Vy
 rw [if_neg hm]
 by_cases hb : (s.length : Int) < Kp (KF k ins (Kk k n ins s).1)
 ·rw [if_pos hb, if_pos hb, if_pos mh]
 rw [if_neg hb, if_neg hb]
 generalize (Kk k n ins s).1 = M at *
 cases QT s (Kp (KF k ins M)).toNat (KF k ins M) 0 (Kp (KF k ins M)).toNat false with
 | none => simp
 | some os =>
  simp only [ne_eq, not_true_eq_false, if_false]
  have e : ((List.range M).map fun i => (ZB ins).getD (VF k 0 i) g0).zip (VV s (KF k ins M) 0 os) = (KW (KF k ins M) 0 os).map (gq s) := by
   have e1 : ((List.range M).map fun i => (ZB ins).getD (VF k 0 i) g0) = (KW (KF k ins M) 0 os).map fun q => Qg q.1 := by
    have e2 : ((KW (KF k ins M) 0 os).map Prod.fst).map Qg = (KF k ins M).map Qg := by rw [vB]
    rw [List.map_map] at e2; rw [show (fun q : Ty × Nat × Nat => Qg q.1) = Qg ∘ Prod.fst from rfl, e2]
    unfold KF
    rw [List.map_map]; exact List.map_congr_left fun i hi => wU (KC (hX i (List.mem_range.1 hi))).1
   rw [e1, jU, qK]; rfl
  rw [e]
section
variable {k n : Int} {p : Pl} {ins : List Ty} {s : BS}
theorem g_w (h : JL (.mk k n p ins) = true ∧ (s.length : Int) ≠ JV (.mk k n p ins)) : Qg (.mk k n p ins) s = (v0L, 2) := by rw [Qg]; unfold jT; rw [if_pos h]
variable (hnf : ¬ (JL (.mk k n p ins) = true ∧ (s.length : Int) ≠ JV (.mk k n p ins)))
include hnf
theorem g_1 (h1 : k = 1) : Qg (.mk k n p ins) s = (zK (Y2 s), 0) := by rw [Qg]; unfold jT; rw [if_neg hnf, if_pos h1]
theorem g_2 (h1 : k ≠ 1) (h2 : k = 2) : Qg (.mk k n p ins) s = if 1 < (s.getD 0 0).toNat then (v0L, 2) else (zK (Y2 s), 0) := by rw [Qg]; unfold jT; rw [if_neg hnf, if_neg h1, if_pos h2]
theorem g_5 (h1 : k ≠ 1) (h2 : k ≠ 2) (h5 : k = 5) : Qg (.mk k n p ins) s = if ((JQ s (8 * s.length)).drop n.toNat).any id then (v0L, 8) else (jS (JQ s n.toNat), 0) := by rw [Qg]; unfold jT; rw [if_neg hnf, if_neg h1, if_neg h2, if_pos h5]
theorem g_6 (h1 : k ≠ 1) (h2 : k ≠ 2) (h5 : k ≠ 5) (h6 : k = 6) : Qg (.mk k n p ins) s = blT n s := by rw [Qg]; unfold jT; rw [if_neg hnf, if_neg h1, if_neg h2, if_neg h5, if_pos h6]; rfl
theorem J24 (h1 : k ≠ 1) (h2 : k ≠ 2) (h5 : k ≠ 5) (h6 : k ≠ 6) (h8 : k = 8) (hs : s = []) : Qg (.mk k n p ins) s = (v0L, 2) := by rw [Qg]; unfold jT; rw [if_neg hnf, if_neg h1, if_neg h2, if_neg h5, if_neg h6, if_pos h8, hs]
theorem g_r (h1 : k ≠ 1) (h2 : k ≠ 2) (h5 : k ≠ 5) (h6 : k ≠ 6) (h8 : k ≠ 8) : Qg (.mk k n p ins) s = Jcm k n ins (ZB ins) s := by rw [Qg]; unfold jT; rw [if_neg hnf, if_neg h1, if_neg h2, if_neg h5, if_neg h6, if_neg h8]
theorem J25 (h1 : k ≠ 1) (h2 : k ≠ 2) (h5 : k ≠ 5) (h6 : k ≠ 6) (h8 : k = 8) (hs : s ≠ []) (hb : ins.length ≤ (s.getD 0 0).toNat) : Qg (.mk k n p ins) s = (v0L, 9) := by
 rw [Qg]; unfold jT; rw [if_neg hnf, if_neg h1, if_neg h2, if_neg h5, if_neg h6, if_pos h8]
 cases s with
 | nil => exact absurd rfl hs
 | cons b r => simp only; rw [if_pos ME]
theorem g_8 (h1 : k ≠ 1) (h2 : k ≠ 2) (h5 : k ≠ 5) (h6 : k ≠ 6) (h8 : k = 8) (hs : s ≠ []) (hx : ins[(s.getD 0 0).toNat]? = some x) : Qg (.mk k n p ins) s = if (Qg x (s.drop 1)).2 ≠ 0 then (v0L, (Qg x (s.drop 1)).2) else (KP [(Qg x (s.drop 1)).1] (s.getD 0 0).toNat, 0) := by
 rw [Qg]; unfold jT; rw [if_neg hnf, if_neg h1, if_neg h2, if_neg h5, if_neg h6, if_pos h8]
 cases s with
 | nil => exact absurd rfl hs
 | cons b r =>
  simp only [List.getD_cons_zero, List.drop_succ_cons, List.drop_zero] at hx ⊢
  have hlt := (List.getElem?_eq_some_iff.1 hx).1
  rw [if_neg m0, wU hx]
end
theorem Jse  {a : Nat} (h : Y2 s = [a, b, c, d]) : Vl.In [] (.mk a b c d [] none [] none 0) := by
 have h2 := (Jbj s).2
 rw [h] at h2
 have hU : ∀ x ∈ [a, b, c, d], XD x := fun x hx => h2 x hx
 exact .mk (hU a mh) (hU b mh) (hU c mh) (hU d mh) m7 rfl m7 rfl i0 (fun x hx => nomatch hx)
theorem YR {vs : List Vl} {E : Jp} {p : Pl} {pick : Int} (hl : vs.length ≤ 9223372036854775807) (hs : Seg Lr vs.length (KL vs) p) (hE : ∀ x ∈ vs, x.In E) (hp : Zy pick) : Vl.In (Lr ++ E) (.mk 0 0 0 0 [] none vs p pick) :=
 .mk u0 u0 u0 u0 m7 rfl hl (hs.mono fun q hq => List.mem_append_left _ hq) hp fun x hx => (hE x hx).mono fun q hq => List.mem_append_right _ hq
theorem zP {c : Cx} {d : List Deferred} {l : Kx} {ok : Prop} {bad : Value → Prop}
  (hca : KT l f args = some (g, vs)) (eg : Enters c.P g) (hpt : PureX c.P g vs.toArray ok bad V LL Rl) (hno : ok → α → False) (hR : ∀ p ∈ Rl, known c L p.1 p.2) (hp : ∀ v, bad v → HQ c d l L X (Q (.panic (zi v)))) :
  ∀ (next : Act → World → Prop) a w, Fr c.n d l a → St c L X w → Oper.uponIn (FW c.ro) 0 c.P ⟨dst, .call ⟨.value f, args, at_⟩, ty, ps, af, gd⟩ a next Q ((execOp a.eval ⟨dst, .call ⟨.value f, args, at_⟩, ty, ps, af, gd⟩).run c.P w) := fun next a w hf hs => by
 rw [VW hf hca c.P w _ rfl eg, Oper.uponIn_enter]; refine ⟨fun hdep => M1, ?_⟩
 have hc := callsIn_wide (n := 0) |>.2 (hpt.run w fun p hp => hs.known (hR p hp))
 refine CallsIn.mono nd ?_
 rintro e w' (⟨ho, x, rfl, hk, h1, h2⟩ | ⟨v, hv, rfl, hk⟩)
 ·exact (hno ho x).elim
 ·exact hp v hv a w' hf (hs.more hk)
end Go.Proofs.YteceenlfegnigaaGreatDoor
