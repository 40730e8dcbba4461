import Derived.Test.YtfaagelglpgpkaaGreatDoorZtBuildsc
set_option maxRecDepth 100000
namespace Go.Proofs.YtfaagelglpgpkaaGreatDoor
set_option linter.all false
open Go.SL Go.RowKit Go.Shelf
theorem Yg {Y : BS} {i : Nat} (h : i < Y.length) : (Y.map bV)[i]? = some (bV (Y.getD i 0)) := by
 rw [List.getElem?_map, List.getD_eq_getElem?_getD, List.getElem?_eq_getElem h]; rfl
def Y0 (xs : BS) : Nat → BS
 | 0 => xs
 | i + 1 => ((Y0 xs i).set i ((Y0 xs i).getD (xs.length - 1 - i) 0)).set (xs.length - 1 - i) ((Y0 xs i).getD i 0)
theorem Yh (xs : BS) : ∀ i, (Y0 xs i).length = xs.length
 | 0 => rfl
 | i + 1 => by rw [Y0, List.length_set, List.length_set, Yh xs i]
theorem getD_set {Y : BS} {i j : Nat} {b : UInt8} (hi : i < Y.length) : (Y.set i b).getD j 0 = if i = j then b else Y.getD j 0 := by
 rw [List.getD_eq_getElem?_getD, List.getElem?_set, List.getD_eq_getElem?_getD]
 split
 ·first | rfl | (rw [if_pos hi]; rfl) | simp [hi]
 ·rfl
theorem jI (xs : BS) : ∀ {i j : Nat}, 2 * i ≤ xs.length → j < xs.length → (Y0 xs i).getD j 0 = if j < i ∨ xs.length - 1 - j < i then xs.getD (xs.length - 1 - j) 0 else xs.getD j 0
 | 0, j, _, hj => by rw [Y0, if_neg (by omega)]
 | i + 1, j, hi, hj => by
  have h1 := Yh xs i
  have ga := jI xs (i := i) (j := xs.length - 1 - i) (by omega) (by omega)
  have gb := jI xs (i := i) (j := i) (by omega) (by omega)
  have gj := jI xs (i := i) (j := j) (by omega) hj
  rw [if_neg (by omega)] at ga gb; rw [Y0, getD_set (by rw [List.length_set, h1]; omega), getD_set (by rw [h1]; omega), ga, gb, gj]
  by_cases e1 : xs.length - 1 - i = j
  ·rw [if_pos e1, if_pos (by omega)]
   congr 1; omega
  ·rw [if_neg e1]
   by_cases e2 : i = j
   ·rw [if_pos e2, if_pos (by omega)]
    congr 1; omega
   ·rw [if_neg e2]
    by_cases e3 : j < i ∨ xs.length - 1 - j < i
    ·rw [if_pos e3, if_pos (by omega)]
    ·rw [if_neg e3, if_neg (by omega)]
theorem Jdx {xs : BS} {i : Nat} (h1 : 2 * i ≤ xs.length) (h2 : xs.length ≤ 2 * i + 1) : Y0 xs i = xs.reverse := by
 apply List.ext_getElem?
 intro j
 by_cases hj : j < xs.length
 ·have e1 : (Y0 xs i)[j]? = some ((Y0 xs i).getD j 0) := by rw [List.getD_eq_getElem?_getD, List.getElem?_eq_getElem (by rw [Yh]; exact hj)]; rfl
  rw [e1, jI xs h1 hj, List.getElem?_reverse hj]
  have e2 : xs[xs.length - 1 - j]? = some (xs.getD (xs.length - 1 - j) 0) := by rw [List.getD_eq_getElem?_getD, List.getElem?_eq_getElem (by omega)]; rfl
  rw [e2]
  by_cases e3 : j < i ∨ xs.length - 1 - j < i
  ·rw [if_pos e3]
  ·rw [if_neg e3, show xs.length - 1 - j = j by omega]
 ·rw [List.getElem?_eq_none (by rw [Yh]; omega), List.getElem?_eq_none (by rw [List.length_reverse]; omega)]
theorem jJ {Y : BS} {sp : List Value} {i : Nat} {b : UInt8} (h : i < Y.length) : (Y.map bV ++ sp).toArray.setIfInBounds i (bV b) = ((Y.set i b).map bV ++ sp).toArray := by
 rw [List.setIfInBounds_toArray, List.set_append_left _ _ (by rw [List.length_map]; exact h), List.map_set]
section
variable {c : Cx} {l : Kw} {L E : Jm} {X : XP} {Q : Exit → Act → World → Prop} {d : List Deferred}
variable {ops : Array Oper} {rest : List Nat} {i k : Nat} {v : Value} {o : Oper} {tb : ZU} {S : Jm} {T : Jm → Act → Prop}
theorem Zr {t ty : TypeId} {ps : String} {af : Array Edge} {gd : Option (Nat × Bool)} {x y : Operand} {q r off : Nat} {cs cs' : Array Value} {e : TypeId} {fr : Nat × Nat} {E' : Jm} (hko : WJ ops.toList k = some ⟨none, .store t x y, ty, ps, af, gd⟩) (hg : Kj l ops ⟨none, .store t x y, ty, ps, af, gd⟩ = some true) (hA : tb k = .turn)
  (hx : Kg l x = some (.pointer (some ⟨r, off, none⟩))) (hk : E[q]? = some (r, .cells cs e fr)) (hy : Kg l y = some v) (ht : KJ c.P t = some 1) (ho : Q3 v = true) (hfr : frB fr off = false) (hc : (cs[off]?).isSome = true)
  (hcs : cs.setIfInBounds off v = cs') (hL : E.set q (r, .cells cs' e fr) = E') (hS : SubS S E')
  (h : HB c d l E' X S ops tb rest T) : HB c d l E X S ops tb (k :: rest) T :=
 jy hko hg rfl hA (fun a w hf hs => ⟨w.setCell ⟨r, off, none⟩ v, by
  simp only [execOp]; rw [hf.eval hx, hf.eval hy]
  obtain ⟨old, hold⟩ := Option.isSome_iff_exists.1 hc
  have h1 := run_store c.P w ⟨r, off, none⟩ v .plain (by rw [WK]; exact ho)
  rw [Vo (hs.get hk), hold, XX (hs.get hk) hfr] at h1
  have hcell : v.cells = #[v] := by cases v <;> first | rfl | cases ho
  simp [Instr.storeAt, Instr.sureAddr, Sem.run_bind, Result.andThen, storeVar, QW ht, hcell, storeCells, Addr.add, h1], by
  subst hL; subst hcs
  exact hs.set hk (Keep.setCell r off v) (Go.SL.heap_setCell_same v (hs.get hk))⟩) hS h
end
section
variable {c : Cx} {l : Kw} {L : Jm} {X : XP} {d : List Deferred} {i : Nat} {ps : String} {af : Array Edge} {gd : Option (Nat × Bool)} {ty : TypeId}
theorem qV {x : Operand} {b : List UInt8} {r n cap : Nat} {cs : Array Value} {e src dst : TypeId} {fr : Nat × Nat} (hx : Kg l x = some (.slice (some ⟨r, 0, none⟩) n cap)) (hk : known c L r (.cells cs e fr)) (hn : n = b.length) (ht : cs.toList.take b.length = b.map bV)
  (hs : Kp c.P src = some e) (he : c.P.underlying e = some (.int .u8)) (hd : vR c.P dst = true) :
  J9 c d l L X ⟨some i, .convert src dst x, ty, ps, af, gd⟩ (.string (bs b)) := fun a' w hf hst => by
 subst hn; simp only [execOp]; rw [hf.eval hx]
 have hget := hst.known hk
 have hl := qF (P := c.P) (xs := b.map bV) hget (by rw [List.length_map]; exact ht)
 rw [List.length_map] at hl; simp only [Sem.run_bind]; rw [run_convert_bytes_string w src dst e _ _ _ (Kc hs) he (QT hd)]; rw [run_bytesToString w _ _ _ (b.map fun x => ((x.toNat : Nat) : Int)) (by rw [hl]; simp [bV, Function.comp_def])]
 have := Zi b []
 rw [show (bs [] : ByteArray) = ByteArray.empty from rfl] at this; rw [this]
 rfl
end
theorem Jlf {xs : BS} {sp : List Value} {r cap : Nat} {fr : Nat × Nat} (hfr : ∀ q, q < xs.length → frB fr q = false) (hc : xs.length ≤ cap) (hx : xs.length ≤ 9223372036854775807) : PureT (α := Unit) Tryz.prog 214 [.slice (some ⟨r, 0, none⟩) xs.length cap].toArray (fun _ => .tuple #[])
  [(r, .cells (xs.map bV ++ sp).toArray 5 fr)] (fun _ => [(r, .cells (xs.reverse.map bV ++ sp).toArray 5 fr)]) [] := by
 refine Jw Tryz.func214 rfl rfl fun w => ?_; refine JD ?_; refine Jq 3 rfl ?_; refine LR rfl (Ka rfl rfl) ?_; refine VQ rfl (J3 (show _ = Value.int .i64 ((xs.length : Int) - 1) from congrArg (Value.int .i64) (wrap_i64 (by omega) (by omega))) (JI 5 rfl ?_)); refine Jy (σ := Nat) (fun i => 2 * i ≤ xs.length + 1 ∧ 2 * i ≤ xs.length) (fun i => [(0, .slice (some ⟨r, 0, none⟩) xs.length cap), (2, .int .i64 (i : Int)), (3, .int .i64 ((xs.length : Int) - 1 - (i : Int)))]) (fun i => [(r, .cells ((Y0 xs i).map bV ++ sp).toArray 5 fr)]) (fun _ _ _ => True) (fun i => xs.length - i) 0 ⟨by omega, by omega⟩ (.cons rfl (.cons rfl (.cons (by rw [show ((0 : Nat) : Int) = 0 from rfl, Int.sub_zero]; rfl) .nil))) (List.Sublist.refl _) (fun _ _ h => h) ?_; rintro i ⟨hi1, hi2⟩; refine JK 8 rfl ?_; refine cD (fun g => ?_) fun g => ?_
 ·refine JK 4 rfl ?_
  have hii : i + 1 ≤ xs.length - i := by omega
  obtain ⟨Y, hY⟩ : ∃ Y, Y = Y0 xs i := ⟨_, rfl⟩
  have hYl : Y.length = xs.length := by rw [hY]; exact Yh xs i
  rw [← hY]
  refine JT [] [(0, .pure), (1, .pure), (2, .pure), (3, .pure), (4, .pure), (5, .pure), (6, .pure), (8, .pure), (9, .pure), (10, .pure), (12, .pure), (13, .turn), (14, .pure), (15, .turn)] 16 [0, 1, 2, 3, 4, 5, 6, 7, 8, 9, 10, 11, 12, 13, 14, 15] (by kernel_rfl) (by kernel_rfl) (by first | exact (fun _ h => absurd h List.not_mem_nil) | simp [SubS] | (intro p hp; simp [hp])) ?_; refine Jp (k := 0) rfl rfl rfl rfl rfl (fun _ hS => (Jf rfl)) ?_; refine Jp (k := 1) rfl rfl rfl rfl rfl (fun _ hS => (Jf rfl)) ?_; refine Jp (k := 2) rfl rfl rfl rfl rfl (fun _ hS => (Jf rfl)) ?_; refine Jp (k := 3) rfl rfl rfl rfl rfl (fun _ hS => (Jf rfl)) ?_; refine Jp (k := 4) rfl rfl rfl rfl rfl (fun _ hS => (Jf rfl)) ?_; refine Jp (k := 5) rfl rfl rfl rfl rfl (fun _ hS => (Jf rfl)) ?_; refine Jp (k := 6) rfl rfl rfl rfl rfl (fun _ _ => JF (j := (xs.length - 1 - i)) (m := 1) (off' := (xs.length - 1 - i)) rfl rfl rfl rfl (by omega) (by omega) (by omega)) ?_; refine KE (k := 7) rfl rfl rfl rfl rfl (Je rfl (kn 0 rfl) rfl (jm (xs := Y.map bV) (v := bV (Y.getD (xs.length - 1 - i) 0)) (Yg (by omega)))) ?_; refine Jp (k := 8) rfl rfl rfl rfl rfl (fun _ hS => (Jf rfl)) ?_; refine Jp (k := 9) rfl rfl rfl rfl rfl (fun _ hS => (Jf rfl)) ?_; refine Jp (k := 10) rfl rfl rfl rfl rfl (fun _ _ => JF (j := i) (m := 1) (off' := i) rfl rfl rfl rfl (by omega) (by omega) (by omega)) ?_; refine KE (k := 11) rfl rfl rfl rfl rfl (Je rfl (kn 0 rfl) rfl (jm (xs := Y.map bV) (v := bV (Y.getD (i) 0)) (Yg (by omega)))) ?_; refine Jp (k := 12) rfl rfl rfl rfl rfl (fun _ _ => JF (j := i) (m := 1) (off' := i) rfl rfl rfl rfl (by omega) (by omega) (by omega)) ?_; refine Zr (k := 13) (q := 0) (cs' := ((Y.set i (Y.getD (xs.length - 1 - i) 0)).map bV ++ sp).toArray) rfl rfl rfl rfl rfl rfl rfl rfl (hfr _ (by omega)) (by simp; omega) (jJ (by omega)) rfl (fun _ h => nomatch h) ?_; refine Jp (k := 14) rfl rfl rfl rfl rfl (fun _ _ => JF (j := (xs.length - 1 - i)) (m := 1) (off' := (xs.length - 1 - i)) rfl rfl rfl rfl (by omega) (by omega) (by omega)) ?_; refine Zr (k := 15) (q := 0) (cs' := ((Y0 xs (i + 1)).map bV ++ sp).toArray) rfl rfl rfl rfl rfl rfl rfl rfl (hfr _ (by omega)) (by simp; omega) (by rw [jJ (by rw [List.length_set]; omega), Y0, ← hY]) rfl (fun _ h => nomatch h) ?_; refine Kx ?_; refine JJ 6 rfl ?_; refine Jc (by omega) (by omega) ?_; refine JJ 2 rfl ?_; refine J3 (show _ = Value.int .i64 ((xs.length : Int) - 1 - ((i + 1 : Nat) : Int)) from by rw [wrap_i64 (by omega) (by omega)]; congr 1 <;> omega) ?_; refine Jx 3 rfl ?_; refine Jv ?_; exact Jo (i + 1) ⟨by omega, by omega⟩ (by omega) (lK rfl) (List.Sublist.refl _) (fun _ _ h => h)
 ·refine Kh 4 rfl ?_; refine Kv rfl rfl .nil (fun w1 hs1 => ?_); exact ⟨(), rfl, by rw [← Jdx (xs := xs) (i := i) (by omega) (by omega)]; exact hs1⟩
theorem J0g (w : List Nat) : leW w 32 = (Yq w 32).reverse := by unfold leW; rw [List.take_of_length_le (by rw [List.length_reverse, Vq]; exact Nat.le_refl _)]
theorem Jdy (t : Ty) {R : Jm} {v : Vl} (hv : v.In R) : Pure Tryz.prog 159 [t.val, v.val].toArray (J1 (leW v.num 32)) := by
 obtain ⟨k, n, p, ins⟩ := t
 cases hv with
 | @mk a b c d bits pb items pi pick ha hb hc hd hlb hsb hl hs hp hi =>
 have hw : WOk [a, b, c, d] := ⟨rfl, fun x hx => by simp at hx; rcases hx with rfl | rfl | rfl | rfl <;> assumption⟩
 show Pure _ _ _ (J1 (leW [a, b, c, d] 32))
 rw [J0g]
 have hfx := QU hw
 have hlen := Vq [a, b, c, d] 32
 generalize Yq [a, b, c, d] 32 = B at hfx hlen
 refine Jl Tryz.func159 rfl rfl fun w => ?_; refine JD ?_; refine Jq 2 rfl ?_; refine LN rfl fun r1 => ?_; refine LN rfl fun r2 => ?_; refine Xf 7 [0] rfl rfl ?_; refine Jn rfl rfl rfl Jdf hfx ?_; refine XA rfl rfl rfl rfl rfl rfl fun rb kb => ?_; refine JJ 6 rfl ?_; refine Qw (T := [(rb, .cells (B.map bV ++ List.replicate kb (Value.int .u8 0)).toArray 5 (B.length + kb, B.length + kb + 1))]) (L0 := [(r2, _), (r1, _)]) (Rl := []) (List.Perm.refl _) rfl rfl rfl (enters_of Tryz.func214 (by kernel_rfl) rfl) (Jlf (fun q hq => by simp [frB, Nat.blt, Nat.ble]; omega) (by omega) (by omega)) oN fun u => ?_; change HL _ _ _ ((rb, _) :: (r2, _) :: (r1, _) :: []) _ _ _ _; refine JJ 5 rfl ?_; refine LR rfl (qV (b := B.reverse) rfl (kn 0 rfl) (by rw [List.length_reverse]) (by simp only [List.toList_toArray]; rw [List.take_left' (by rw [List.length_map])]) rfl rfl rfl) ?_; refine Jx 4 rfl ?_; refine pT rfl rfl rfl fun w1 hs1 => ?_; exact ⟨rfl, hs1.keep⟩
def rootM : Array MapEntry := #[⟨.int .i64 1, .func (.func 159) #[] #[], 0⟩, ⟨.int .i64 2, .func (.func 159) #[] #[], 1⟩, ⟨.int .i64 3, .func (.func 160) #[] #[], 2⟩, ⟨.int .i64 4, .func (.func 162) #[] #[], 3⟩,
 ⟨.int .i64 5, .func (.func 164) #[] #[], 4⟩, ⟨.int .i64 6, .func (.func 166) #[] #[], 5⟩, ⟨.int .i64 7, .func (.func 167) #[] #[], 6⟩, ⟨.int .i64 8, .func (.func 170) #[] #[], 7⟩]
theorem Jlg : ∀ e ∈ rootM.toList, isI e.key := by
 intro e he
 unfold rootM at he
 simp at he
 rcases he with rfl | rfl | rfl | rfl | rfl | rfl | rfl | rfl <;> exact ⟨_, rfl⟩
theorem jK {a b : Bool} (h : a = b) : Value.bool a = Value.bool b := by rw [h]
abbrev pB (own : Bool) (r : Nat) : Value := .pointer (if own then some ⟨r, 0, none⟩ else none)
def yK (r : Nat) (s : BS) (row : QD) (own : Bool) : Nat × Obj := (r, .cells #[pB own r, J8 s.length row] 243 (0, 0))
def WE (r : Nat) (s : BS) (row : QD) (own : Bool) : Jm := yK r s row own :: JH 5 (s.map bV) row
def bOk (s : BS) (row : QD) : Prop := rowOk 1 s.length (s.map bV) row ∧ (s = [] → row = none)
theorem Jdz (r : Nat) (own : Bool) (v : Value) : PureT (α := Unit) Tryz.prog 303 [XS r].toArray (fun _ => .tuple #[]) [(r, .cells #[pB own r, v] 243 (0, 0))] (fun _ => [(r, .cells #[pB true r, v] 243 (0, 0))]) [] := by
 cases own with
 | false =>
  refine Jw Tryz.func303 rfl rfl fun w => ?_; refine JD ?_; refine Jq 5 rfl ?_; refine LR rfl (Je (v := .pointer none) rfl (kn 0 rfl) rfl rfl) ?_; refine LR rfl (Joh rfl rfl rfl rfl) ?_; refine JI 2 rfl ?_; refine cD (fun g => ?_) fun g => ?_
  refine Jq 3 rfl ?_; refine LR rfl (Jf0 (sz := 2) rfl (kn 0 rfl) rfl rfl rfl (by decide) (by simp)) ?_; refine LR rfl (Jf1 rfl rfl (Tryz.func345) (by kernel_rfl) rfl rfl rfl) ?_; refine LR rfl (Jah rfl (kn 0 rfl) rfl rfl rfl (by kernel_rfl)) ?_; refine JJ 2 rfl ?_; refine Kn (k := 0) (cs' := #[XS r, v]) rfl rfl rfl rfl rfl rfl rfl rfl rfl rfl ?_; refine Jx 1 rfl ?_; refine Kv rfl rfl .nil (fun w1 hs1 => ?_); exact ⟨(), rfl, hs1⟩
  try exact Bool.noConfusion g
 | true =>
  refine Jw Tryz.func303 rfl rfl fun w => ?_; refine JD ?_; refine Jq 5 rfl ?_; refine LR rfl (Je (v := XS r) rfl (kn 0 rfl) rfl rfl) ?_; refine LR rfl (Joi rfl rfl rfl rfl) ?_; refine JI 2 rfl ?_; refine J0 rfl (fun g => ?_) (fun g => ?_)
  try exact Bool.noConfusion g
  ·refine Jq 5 rfl ?_; refine LR rfl (Je (v := XS r) rfl (kn 0 rfl) rfl rfl) ?_; refine Q1 rfl (LR rfl (Jog rfl rfl rfl rfl) (JI 2 rfl ?_)); refine J0 rfl (fun g => ?_) (fun g => ?_)
   try exact Bool.noConfusion g
   ·try simp only [ZZ] at g
    refine Kh 1 rfl ?_; refine Kv rfl rfl .nil (fun w1 hs1 => ?_); exact ⟨(), rfl, hs1⟩
theorem Jar (r : Nat) (s : BS) (row : QD) (own : Bool) : PureT (α := Unit) Tryz.prog 303 [XS r].toArray (fun _ => .tuple #[]) [yK r s row own] (fun _ => [yK r s row true]) [] := Jdz r own _
theorem vH {r : Nat} {s s2 : BS} {row : QD} {own : Bool} (hb : bOk s row) (hl : s.length + s2.length ≤ 1000000) :
  PureT (α := { x : QD // bOk (s ++ s2) x }) Tryz.prog 217 [XS r, J1 s2].toArray (fun _ => .tuple #[.int .i64 (s2.length : Int), .nilIface]) (WE r s row own) (fun x => WE r (s ++ s2) x.1 true) [] := by
 refine Jw Tryz.func217 rfl rfl fun w => ?_; refine JD ?_
 unfold WE
 refine Jq 9 rfl ?_; refine Qw (T := [yK r s row own]) (L0 := JH 5 (s.map bV) row) (Rl := []) (List.Perm.refl _) rfl rfl rfl (enters_of Tryz.func303 (by kernel_rfl) rfl) (Jar r s row own) oN fun u => ?_; change HL _ _ _ (yK r s row true :: JH 5 (s.map bV) row) _ _ _ _; refine JJ 8 rfl ?_; refine LR rfl (Je (v := J8 s.length row) rfl (kn 0 rfl) rfl rfl) ?_; refine Q1 rfl (Jfz (e := 5) (s := s) (s2 := s2) (row := row) (L0 := [yK r s row true]) (List.perm_append_comm (l₁ := [_])) rfl rfl rfl rfl rfl rfl rfl rfl rfl hb.1 hb.2 (by omega) fun row2 h1 h2 => (Kk List.perm_append_comm ?_)); change HL _ _ _ ((r, .cells #[pB true r, J8 s.length row] 243 (0, 0)) :: JH 5 ((s ++ s2).map bV) row2) _ _ _ _; refine JJ 2 rfl ?_; refine Kn (k := 0) (cs' := #[pB true r, J8 (s ++ s2).length row2]) rfl rfl rfl rfl rfl (Jle _ _) rfl rfl rfl rfl ?_; refine JJ 5 rfl ?_; refine LR rfl (KK rfl rfl) ?_; refine Jx 5 rfl ?_; refine Jg rfl rfl (.cons (Jj rfl) (.cons (Jj rfl) .nil)) (fun w1 hs1 => ?_); exact ⟨⟨row2, h1, h2⟩, rfl, hs1⟩
theorem Jx9 (r : Nat) {s : BS} {row : QD} (own : Bool) (hb : bOk s row) : PureR Tryz.prog 246 [XS r].toArray (.int .i64 (s.length : Int)) [yK r s row own] := by
 refine Jb Tryz.func246 rfl rfl fun w => ?_; refine JD ?_; refine Jq 10 rfl ?_; refine LR rfl (Je (v := J8 s.length row) rfl (J5 (k := 0) rfl) rfl rfl) ?_; refine LR rfl (Wt rfl hb.1.zero rfl) ?_; refine Jx 4 rfl ?_; refine pT rfl rfl rfl fun w1 hs1 => ?_; exact ⟨rfl, hs1.keep⟩
theorem Jgd {r : Nat} {s : BS} {row : QD} {own : Bool} (hb : bOk s row) (hl : s.length ≤ 1000000) :
  PureT (α := Unit) Tryz.prog 219 [XS r].toArray (fun _ => J1 s) (WE r s row own) (fun _ => []) [] := by
 have hcap : ∀ q cap sp, row = some (q, cap, sp) → cap ≠ 0 := by
  rintro q cap sp rfl h0
  obtain ⟨⟨h1, h2⟩, h3⟩ := hb
  have h4 : s.length = 0 := by omega
  have := h3 (List.eq_nil_of_length_eq_zero h4)
  cases this
 refine Jw Tryz.func219 rfl rfl fun w => ?_; refine JD ?_
 unfold WE
 refine JK 6 rfl ?_
 refine JT [] [(0, .pure), (1, .pure), (2, .pure), (4, .pure), (5, .pure), (6, .pure), (7, .pure), (9, .pure)] 10 [0, 1, 2, 3, 4, 5, 6, 7, 8, 9] (by kernel_rfl) (by kernel_rfl) (by first | exact (fun _ h => absurd h List.not_mem_nil) | simp [SubS] | (intro p hp; simp [hp])) ?_; refine Jp (k := 0) rfl rfl rfl rfl rfl (fun _ hS => (Jf rfl)) ?_; refine Jp (k := 1) rfl rfl rfl rfl rfl (fun _ hS => (J2 rfl rfl rfl)) ?_
 refine Jp (k := 2) rfl rfl rfl rfl rfl (fun _ hS => (JA rfl rfl rfl)) ?_; refine KE (k := 3) rfl rfl rfl rfl rfl (Je (v := J8 s.length row) rfl (kn 0 rfl) rfl rfl) ?_; refine Jp (k := 4) rfl rfl rfl rfl rfl (fun _ _ => Jag rfl hcap) ?_; refine Jp (k := 5) rfl rfl rfl rfl rfl (fun _ hS => (Jf rfl)) ?_; refine Jp (k := 6) rfl rfl rfl rfl rfl (fun _ hS => (J2 rfl rfl rfl)) ?_
 refine Jp (k := 7) rfl rfl rfl rfl rfl (fun _ hS => (JA rfl rfl rfl)) ?_; refine KE (k := 8) rfl rfl rfl rfl rfl (Je (v := J8 s.length row) rfl (kn 0 rfl) rfl rfl) ?_; refine Jp (k := 9) rfl rfl rfl rfl rfl (fun _ _ => Wt rfl hb.1.zero rfl) ?_; refine Kx ?_; refine vi (e := 5) (s := s) (row := row) (L0 := [yK r s row own]) (List.perm_append_comm (l₁ := [_])) rfl rfl rfl rfl rfl rfl hb.1 hb.2 (by omega) ?_; refine Jx 4 rfl ?_; refine pT rfl rfl rfl fun w1 hs1 => ?_; exact ⟨(), rfl, hs1.weakL (List.nil_sublist _)⟩
theorem Jur (x : Ty) : yJ x = if V4 x then KW x else 4 := rfl
theorem Jiu {R : Jm} {t : Ty} (ht : t.In R) : PureR Tryz.prog 367 [t.val].toArray (.tuple #[.int .i64 (yJ t), .bool (V4 t)]) R := by
 have h1 := Jir ht
 have h2 := Jo6 ht
 unfold zh at h2
 rw [Jur]
 generalize V4 t = b at h1 h2 ⊢
 generalize KW t = z at h2 ⊢
 obtain ⟨k, n, p, ins⟩ := t
 refine Jb Tryz.func367 rfl rfl fun w => ?_; refine JD ?_; refine Jq 2 rfl ?_; refine LN rfl fun r1 => ?_; refine JJ 7 rfl ?_; refine LR rfl (Js (vs := [_, _, _]) rfl (kn 0 rfl) rfl rfl rfl rfl) ?_; refine Ji rfl rfl rfl (enters_of Tryz.func304 (by kernel_rfl) rfl) h1 oR ?_; refine JI 2 rfl ?_; refine cD (fun g => ?_) fun g => ?_
 refine Jq 2 rfl ?_; refine LR rfl (Js (vs := [_, _, _]) rfl (kn 0 rfl) rfl rfl rfl rfl) ?_; refine Ji rfl rfl rfl (enters_of Tryz.func221 (by kernel_rfl) rfl) h2 oR ?_; refine Jx 6 rfl ?_; refine Jg rfl rfl (.cons (Jj rfl) (.cons (Jj rfl) .nil)) (fun w1 hs1 => ?_); refine ⟨?_, hs1.keep⟩
 simp_all [JG]
 ·refine Kh 9 rfl ?_; refine Jg rfl rfl (.cons (Jj rfl) (.cons (Jj rfl) .nil)) (fun w1 hs1 => ?_); refine ⟨?_, hs1.keep⟩
  simp_all [JG]
theorem J0h {R : Jm} {k n : Int} {p : Pl} {ins : List Ty} {pick : Int} {i : Nat} (ht : Ty.In R (.mk k n p ins)) (hp8 : k = 8 → 0 ≤ pick) (hx : XC k pick i < ins.length) : PureR Tryz.prog 380 [Ty.val (.mk k n p ins), .int .i64 pick, .int .i64 (i : Int)].toArray (JX k pick ins i).val R := by
 have hty := QV hx
 cases ht with
 | @mk k n p ins hk hn hlt hst hit =>
 obtain ⟨X, hX⟩ : ∃ X, X = JX k pick ins i := ⟨_, rfl⟩
 rw [← hX] at hty ⊢; refine Jb Tryz.func380 rfl rfl fun w => ?_; refine JD ?_; refine Jq 2 rfl ?_; refine LN rfl fun r1 => ?_; refine LN rfl fun r2 => ?_; refine Goc 16 [1] rfl rfl ?_; refine cD (fun g => ?_) fun g => ?_
 refine Vw 5 [1] rfl rfl ?_; refine LR rfl (Jk (j := XC k pick i) rfl hst rfl rfl rfl (by unfold XC; rw [if_pos (by assumption)]) hx) ?_; refine LR rfl (Qr oR rfl hst hty.1 rfl rfl) ?_; refine Jh (k := 0) (n := 3) (ys := X.cells) rfl rfl rfl rfl rfl X.len rfl X.one rfl ?_; refine Jx 5 rfl ?_; refine Jg rfl rfl (.cons (Jr (vs := X.cells) rfl (kn 0 rfl) rfl (by rw [X.len]; rfl)) .nil) (fun w1 hs1 => ?_); exact ⟨rfl, hs1.keep⟩
 ·refine JK 6 rfl ?_; refine cD (fun g => ?_) fun g => ?_
  refine Vw 5 [1] rfl rfl ?_; refine LR rfl (Jk (j := XC k pick i) rfl hst rfl rfl rfl (by unfold XC; rw [if_neg (by assumption), if_pos (by assumption)]; have := hp8 (by assumption); omega) hx) ?_; refine LR rfl (Qr oR rfl hst hty.1 rfl rfl) ?_; refine Jh (k := 0) (n := 3) (ys := X.cells) rfl rfl rfl rfl rfl X.len rfl X.one rfl ?_; refine Jx 5 rfl ?_; refine Jg rfl rfl (.cons (Jr (vs := X.cells) rfl (kn 0 rfl) rfl (by rw [X.len]; rfl)) .nil) (fun w1 hs1 => ?_); exact ⟨rfl, hs1.keep⟩
  ·refine Vw 7 [1] rfl rfl ?_; refine LR rfl (Jk (j := XC k pick i) rfl hst rfl rfl rfl (by unfold XC; rw [if_neg (by assumption), if_neg (by assumption)]; rfl) hx) ?_; refine LR rfl (Qr oR rfl hst hty.1 rfl rfl) ?_; refine Jh (k := 0) (n := 3) (ys := X.cells) rfl rfl rfl rfl rfl X.len rfl X.one rfl ?_; refine Jx 3 rfl ?_; refine Jg rfl rfl (.cons (Jr (vs := X.cells) rfl (kn 0 rfl) rfl (by rw [X.len]; rfl)) .nil) (fun w1 hs1 => ?_); exact ⟨rfl, hs1.keep⟩
def Xq (k : Int) (ins : List Ty) (m : Nat) : List Ty := (List.range m).map fun i => JX k 0 ins i
theorem Jd0 : ∀ a b : List Ty, Vm (a ++ b) = Vm a + Vm b
 | [], b => by rw [List.nil_append, Vm, Int.zero_add]
 | x :: xs, b => by rw [List.cons_append, Vm, Vm, Jd0 xs b, Int.add_assoc]
theorem Jlh (k : Int) (ins : List Ty) (i : Nat) : Vm (Xq k ins (i + 1)) = Vm (Xq k ins i) + yJ (JX k 0 ins i) := by
 unfold Xq
 rw [List.range_succ, List.map_append, Jd0, List.map_cons, List.map_nil, Vm, Vm, Int.add_zero]
theorem Jiv (x : Ty) : 1 ≤ yJ x ∧ yJ x ≤ 2251799813685248 := by
 unfold yJ
 split
 ·rename_i h
  obtain ⟨h1, h2⟩ := Yf.1 h
  have h3 := Jff x 0 (Int.le_refl _) h1 h2
  have h4 := Jnp (show (5 - (0 : Int)).toNat ≤ 5 by decide)
  omega
 ·omega
theorem Jas : ∀ l : List Ty, 0 ≤ Vm l ∧ Vm l ≤ 2251799813685248 * l.length
 | [] => by rw [Vm]; simp
 | x :: xs => by
  have h1 := Jiv x
  have h2 := Jas xs
  rw [Vm, List.length_cons]; omega
theorem Jd1 (k : Int) (ins : List Ty) (m : Nat) : (Xq k ins m).length = m := by unfold Xq; rw [List.length_map, List.length_range]
def vk (r : Nat) (m : Int) : Nat × Obj := (r, .cells #[.int .i64 m] 3 (0, 0))
theorem Jiw (t : Ty) (m : Int) : PureE (α := Nat × Nat) Tryz.prog 366 [t.val, .int .i64 m].toArray (fun p => .func (.func 379) #[] #[XS p.2, XS p.1]) (fun p => [vk p.2 m, WD p.1 t]) := by
 obtain ⟨k, n, p, ins⟩ := t
 refine Kf Tryz.func366 rfl rfl fun w => ?_; refine JD ?_; refine Jq 2 rfl ?_; refine LN rfl fun r1 => ?_; refine LN rfl fun r2 => ?_; refine JJ 5 rfl ?_; refine LR rfl (JN rfl rfl) ?_; refine Jx 4 rfl ?_; refine pT rfl rfl rfl fun w1 hs1 => ?_; exact ⟨(r1, r2), rfl, hs1⟩
def itV (k : Int) (ins : List Ty) (i : Nat) : List Value := [.int .i64 (i : Int), (JX k 0 ins i).val]
theorem Jix {R : Jm} {k n : Int} {p : Pl} {ins : List Ty} {m : Nat} (ht : Ty.In R (.mk k n p ins)) (hm : m ≤ 1000000) (hx : ∀ i, i < m → XC k 0 i < ins.length) (rt ri : Nat) :
    jk Tryz.prog 379 [XS ri, XS rt] (vk ri m :: WD rt (.mk k n p ins) :: R) 0 (nxN (itV k ins) m) (yE m) := by
  refine Vf Tryz.func379 rfl rfl fun q xids w2 XI XF hY => ?_; refine JD ?_; refine Jq 2 rfl ?_; refine LR rfl (Je (v := .int .i64 (m : Int)) rfl (J5 (k := 0) rfl) rfl rfl) ?_; refine JI 4 rfl ?_; refine Jy (σ := Nat) (fun i => i ≤ m) (fun i => [(0, .func (.yield q) #[] #[]), (1, XS ri), (2, XS rt), (5, .int .i64 (m : Int)), (6, .int .i64 (i : Int))]) (fun _ => []) (fun i => XI i) (fun i => m - i) 0 (Nat.zero_le _) (lK rfl) (List.Sublist.refl _) (fun _ _ h => h) ?_; intro i hi; refine JK 6 rfl ?_; refine cD (fun g => ?_) fun g => ?_
  · refine JK 11 rfl ?_
    have hil : i < m := by omega
    refine Jq 3 rfl ?_; refine LR rfl (Jd (xs := Ty.cells (.mk k n p ins)) (n := 3) rfl (J5 (k := 1) rfl) rfl rfl (Ty.len _)) ?_; refine Q1 rfl (Ji rfl rfl rfl (enters_of Tryz.func380 (by kernel_rfl) rfl) (J0h ht (fun _ => Int.le_refl 0) (hx i hil)) (fun q hq => Or.inr (List.mem_cons_of_mem _ (List.mem_cons_of_mem _ hq))) ?_); refine V2 (XT := XI (i + 1)) (XF := XF) rfl rfl rfl rfl (hY i (itV k ins i) (i + 1) ⟨hil, rfl, rfl⟩) ?_ ?_
    all_goals (
     refine Jx 2 rfl (XN 1 rfl ?_); refine J0 rfl (fun g => ?_) (fun g => ?_)
     · try exact Bool.noConfusion g
       all_goals try simp only [ZZ] at g
       all_goals (
        refine Kh 5 rfl ?_; refine Jg rfl rfl .nil (fun w1 hs1 => ?_)
        obtain ⟨xs1, hx1⟩ := hs1.now
        exact ⟨⟨_, rfl⟩, hs1.keep, .inr ⟨_, hx1⟩⟩
        skip)
     · try exact Bool.noConfusion g
       all_goals try simp only [ZZ] at g
       all_goals (
        refine Jq 5 rfl ?_; refine J3 (show _ = Value.int .i64 ((i + 1 : Nat) : Int) from by rw [wrap_i64 (by omega) (by omega)]; congr 1 <;> omega) ?_; refine Jx 2 rfl ?_; refine Jv ?_; exact Jo (i + 1) (by omega) (by omega) (lK rfl) (List.Sublist.refl _) (fun _ _ h => h)
        skip)
     skip)
  · refine Kh 4 rfl ?_; refine Kv rfl rfl .nil (fun w1 hs1 => ?_)
    obtain ⟨xs1, hx1⟩ := hs1.now
    exact ⟨⟨_, rfl⟩, hs1.keep, .inl ⟨i, _, (by show i = m; omega), hx1⟩⟩
theorem Jpi {R : Jm} {k n : Int} {p : Pl} {ins : List Ty} {m : Nat} (ht : Ty.In R (.mk k n p ins)) (hm : m ≤ 600) (hx : ∀ i, i < m → XC k 0 i < ins.length) : PureR Tryz.prog 365 [Ty.val (.mk k n p ins), .int .i64 (m : Int)].toArray (.int .i64 (Vm (Xq k ins m))) R := by
 have hti := fun i h => ht.sub _ (QV (hx i h)).2
 refine Jb Tryz.func365 rfl rfl fun w => ?_; refine JD ?_; refine Jq 2 rfl ?_; refine LN rfl fun r1 => ?_; refine JJ 5 rfl ?_; refine LN rfl fun r2 => ?_
 refine LT 0 rfl rfl ?_; refine Xf 7 [1] rfl rfl ?_; refine JZ rfl rfl rfl (enters_of Tryz.func366 (by kernel_rfl) rfl) (Jiw (.mk k n p ins) (m : Int)) fun pp => ?_
 obtain ⟨ra, rb⟩ := pp
 change HL _ _ _ (vk rb m :: WD ra (.mk k n p ins) :: _) _ _ _ _; refine JI 3 rfl ?_; refine QX [2, 0, 1, 3] (L' := [_, _, _, _]) (by decide) rfl ?_
 refine Wd (τ := Unit) (fun i (s : Nat) => i ≤ m ∧ i = s) (fun s => [(r2, .cells #[.int .i64 (Vm (Xq k ins s))] 3 (0, 0))]) (fun _ _ => False) (fun _ => []) [vk rb m, WD ra (.mk k n p ins), _] 0 rfl rfl (enters_of Tryz.func379 (by kernel_rfl) rfl) (Jix ht (by omega) hx ra rb) (by rintro _ _ _ ⟨_, rfl, _⟩; rfl) rfl (fun q hq => by rcases List.mem_cons.1 hq with rfl | hq; exact .inl (by simp); rcases List.mem_cons.1 hq with rfl | hq; exact .inl (by simp); exact .inr hq) rfl ⟨Nat.zero_le _, rfl⟩ ?_ ?_ ?_
 rintro q Xr Xb w3 i _ _ s ⟨hii, rfl, rfl⟩ ⟨him, rfl⟩ Kr hKr; refine inR ?_
 have hti1 := hti i hii
 have hb1 := Jiv (JX k 0 ins i)
 have hb2 := Jas (Xq k ins i)
 rw [Jd1] at hb2
 unfold itV
 refine Jq 1 rfl ?_; refine LN rfl fun r3 => ?_; refine Jh (k := 0) (n := 3) (ys := (JX k 0 ins i).cells) rfl rfl rfl rfl rfl (JX k 0 ins i).len rfl (JX k 0 ins i).one rfl ?_; refine Jx 1 rfl ?_; refine hKr _ _ ?_; refine JD ?_; clear hKr; refine Jq 3 rfl ?_; refine LR rfl (Jd (xs := (JX k 0 ins i).cells) (n := 3) rfl (kn 0 rfl) rfl rfl (JX k 0 ins i).len) ?_; refine Ji rfl rfl rfl (enters_of Tryz.func367 (by kernel_rfl) rfl) (Jiu hti1) (fun q hq => Or.inr (List.mem_append_right _ hq)) ?_; refine JJ 8 rfl ?_; refine LR rfl (Je (v := .int .i64 (Vm (Xq k ins i))) rfl (kn 1 rfl) rfl rfl) ?_; refine LS 2 [] rfl rfl ?_; refine J3 (show _ = Value.int .i64 (Vm (Xq k ins (i + 1))) from by rw [Jlh]; exact congrArg (Value.int .i64) (wrap_i64 (by omega) (by omega))) ?_; refine Kn (k := 1) (cs' := #[.int .i64 (Vm (Xq k ins (i + 1)))]) rfl rfl rfl rfl rfl rfl rfl rfl rfl rfl ?_; refine Jx 2 rfl ?_; refine Qi [1] (L' := [_]) (by decide) rfl ?_; refine KD (i + 1) ⟨by omega, rfl⟩ rfl
 rintro D i s hfi ⟨him, rfl⟩
 obtain rfl : m = i := Eq.symm hfi
 refine gqo 4 rfl ?_; refine LR rfl (Je (v := .int .i64 (Vm (Xq k ins m))) rfl (kn 1 rfl) rfl rfl) ?_; refine Jx 4 rfl ?_; refine KX (k := 0) rfl rfl ?_; refine pT rfl rfl rfl fun w1 hs1 => ?_; exact ⟨rfl, hs1.keep⟩
 ·exact fun _ _ _ h => h.elim
theorem Jpj {s : BS} (hl : s.length ≤ 1000000) : Pure Tryz.prog 340 [J1 s].toArray (J1 s.reverse) := by
 refine Jl Tryz.func340 rfl rfl fun w => ?_; refine JD ?_; refine Jq 8 rfl ?_; refine XA rfl rfl rfl rfl rfl rfl fun rb kb => ?_
 obtain ⟨sp, hsp⟩ : ∃ sp, sp = List.replicate kb (Value.int .u8 0) := ⟨_, rfl⟩
 rw [← hsp]
 obtain ⟨fr, hfr⟩ : ∃ fr : Nat × Nat, fr = (s.length + kb, s.length + kb + 1) := ⟨_, rfl⟩
 rw [← hfr]
 have hfz : ∀ q, q < s.length → frB fr q = false := fun q hq => by rw [hfr]; simp [frB, Nat.blt, Nat.ble]; omega
 refine JJ 7 rfl ?_; refine LR rfl (Ka rfl rfl) ?_; refine VQ rfl (J3 (show _ = Value.int .i64 ((s.length : Int) - 1) from congrArg (Value.int .i64) (wrap_i64 (by omega) (by omega))) (JI 5 rfl ?_)); refine Jy (σ := Nat) (fun i => 2 * i ≤ s.length + 1 ∧ 2 * i ≤ s.length) (fun i => [(3, .slice (some ⟨rb, 0, none⟩) s.length (s.length + kb)), (4, .int .i64 (i : Int)), (5, .int .i64 ((s.length : Int) - 1 - (i : Int)))]) (fun i => [(rb, .cells ((Y0 s i).map bV ++ sp).toArray 5 fr)]) (fun _ _ _ => True) (fun i => s.length - i) 0 ⟨by omega, by omega⟩ (.cons rfl (.cons rfl (.cons (by rw [show ((0 : Nat) : Int) = 0 from rfl, Int.sub_zero]; rfl) .nil))) (List.Sublist.refl _) (fun _ _ h => h) ?_; rintro i ⟨hi1, hi2⟩; refine JK 8 rfl ?_; refine cD (fun g => ?_) fun g => ?_
 ·refine JK 4 rfl ?_
  have hii : i + 1 ≤ s.length - i := by omega
  obtain ⟨Y, hY⟩ : ∃ Y, Y = Y0 s i := ⟨_, rfl⟩
  have hYl : Y.length = s.length := by rw [hY]; exact Yh s i
  rw [← hY]
  refine JT [] [(0, .pure), (1, .pure), (2, .pure), (3, .pure), (4, .pure), (5, .pure), (6, .pure), (8, .pure), (9, .pure), (10, .pure), (12, .pure), (13, .turn), (14, .pure), (15, .turn)] 16 [0, 1, 2, 3, 4, 5, 6, 7, 8, 9, 10, 11, 12, 13, 14, 15] (by kernel_rfl) (by kernel_rfl) (by first | exact (fun _ h => absurd h List.not_mem_nil) | simp [SubS] | (intro p hp; simp [hp])) ?_; refine Jp (k := 0) rfl rfl rfl rfl rfl (fun _ hS => (Jf rfl)) ?_; refine Jp (k := 1) rfl rfl rfl rfl rfl (fun _ hS => (Jf rfl)) ?_; refine Jp (k := 2) rfl rfl rfl rfl rfl (fun _ hS => (Jf rfl)) ?_; refine Jp (k := 3) rfl rfl rfl rfl rfl (fun _ hS => (Jf rfl)) ?_; refine Jp (k := 4) rfl rfl rfl rfl rfl (fun _ hS => (Jf rfl)) ?_; refine Jp (k := 5) rfl rfl rfl rfl rfl (fun _ hS => (Jf rfl)) ?_; refine Jp (k := 6) rfl rfl rfl rfl rfl (fun _ _ => JF (j := (s.length - 1 - i)) (m := 1) (off' := (s.length - 1 - i)) rfl rfl rfl rfl (by omega) (by omega) (by omega)) ?_; refine KE (k := 7) rfl rfl rfl rfl rfl (Je rfl (kn 0 rfl) rfl (jm (xs := Y.map bV) (v := bV (Y.getD (s.length - 1 - i) 0)) (Yg (by omega)))) ?_; refine Jp (k := 8) rfl rfl rfl rfl rfl (fun _ hS => (Jf rfl)) ?_; refine Jp (k := 9) rfl rfl rfl rfl rfl (fun _ hS => (Jf rfl)) ?_; refine Jp (k := 10) rfl rfl rfl rfl rfl (fun _ _ => JF (j := i) (m := 1) (off' := i) rfl rfl rfl rfl (by omega) (by omega) (by omega)) ?_; refine KE (k := 11) rfl rfl rfl rfl rfl (Je rfl (kn 0 rfl) rfl (jm (xs := Y.map bV) (v := bV (Y.getD (i) 0)) (Yg (by omega)))) ?_; refine Jp (k := 12) rfl rfl rfl rfl rfl (fun _ _ => JF (j := i) (m := 1) (off' := i) rfl rfl rfl rfl (by omega) (by omega) (by omega)) ?_; refine Zr (k := 13) (q := 0) (cs' := ((Y.set i (Y.getD (s.length - 1 - i) 0)).map bV ++ sp).toArray) rfl rfl rfl rfl rfl rfl rfl rfl (hfz _ (by omega)) (by simp; omega) (jJ (by omega)) rfl (fun _ h => nomatch h) ?_; refine Jp (k := 14) rfl rfl rfl rfl rfl (fun _ _ => JF (j := (s.length - 1 - i)) (m := 1) (off' := (s.length - 1 - i)) rfl rfl rfl rfl (by omega) (by omega) (by omega)) ?_; refine Zr (k := 15) (q := 0) (cs' := ((Y0 s (i + 1)).map bV ++ sp).toArray) rfl rfl rfl rfl rfl rfl rfl rfl (hfz _ (by omega)) (by simp; omega) (by rw [jJ (by rw [List.length_set]; omega), Y0, ← hY]) rfl (fun _ h => nomatch h) ?_; refine Kx ?_; refine JJ 6 rfl ?_; refine Jc (by omega) (by omega) ?_; refine JJ 2 rfl ?_; refine J3 (show _ = Value.int .i64 ((s.length : Int) - 1 - ((i + 1 : Nat) : Int)) from by rw [wrap_i64 (by omega) (by omega)]; congr 1 <;> omega) ?_; refine Jx 3 rfl ?_; refine Jv ?_; exact Jo (i + 1) ⟨by omega, by omega⟩ (by omega) (lK rfl) (List.Sublist.refl _) (fun _ _ h => h)
 ·refine JK 6 rfl ?_; rw [Jdx (xs := s) (i := i) (by omega) (by omega)]; refine Jq 2 rfl ?_; refine LR rfl (qV (b := s.reverse) rfl (kn 0 rfl) (by rw [List.length_reverse]) (by simp only [List.toList_toArray]; rw [List.take_left' (by rw [List.length_map])]) rfl rfl rfl) ?_; refine Jx 4 rfl ?_; refine pT rfl rfl rfl fun w1 hs1 => ?_; exact ⟨rfl, hs1.keep⟩
theorem zB {Y : BS} {i : Nat} {b : UInt8} : (Y.map bV).toArray.setIfInBounds i (bV b) = ((Y.set i b).map bV).toArray := by
 rw [List.setIfInBounds_toArray, List.map_set]
theorem Jiy (x : UInt8) {m : Nat} (hm : m < 8) : Value.int .u8 ((x.toNat ||| 2 ^ m : Nat) : Int) = bV (UInt8.ofNat (x.toNat ||| 2 ^ m)) := Jb8 (Jz2 (YL x) hm)
theorem Jpk {m : Nat} (hm : m < 8) : IntKind.u8.wrap (1 * ((2 ^ m : Nat) : Int)) = ((2 ^ m : Nat) : Int) := by
 have h : 2 ^ m ≤ 128 := Nat.pow_le_pow_right (n := 2) (i := m) (j := 7) (by decide) (by omega)
 generalize 2 ^ m = q at h ⊢
 rw [Int.one_mul]; exact jg (by omega) (by omega)
theorem Jpl {R : Jm} {l : List Bool} {g : FuncId} {caps : List Value} (hl : l.length ≤ 1000000) (eg : Enters Tryz.prog g) (hg : ∀ i, i < l.length → PureR Tryz.prog g (Value.int .i64 (i : Int) :: caps).toArray (.bool (l.getD i false)) R) :
  PureR Tryz.prog 341 [.int .i64 (l.length : Int), .func (.func g) #[] caps.toArray].toArray (J1 (WI l)) R := by
 obtain ⟨N, hN⟩ : ∃ N, N = (l.length + 7) / 8 := ⟨_, rfl⟩
 have hpB : WI l = KV l N l.length := by rw [hN]; rfl
 refine Jb Tryz.func341 rfl rfl fun w => ?_; refine JD ?_; refine Jq 9 rfl ?_; refine J3 (show _ = Value.int .i64 ((l.length + 8 : Nat) : Int) from by rw [wrap_i64 (by omega) (by omega)]; congr 1 <;> omega) ?_
 refine VQ rfl ?_; refine J3 (show _ = Value.int .i64 ((l.length + 7 : Nat) : Int) from by rw [wrap_i64 (by omega) (by omega)]; congr 1 <;> omega) ?_; refine VQ rfl ?_; refine J3 (show _ = Value.int .i64 ((N : Nat) : Int) from congrArg (Value.int .i64) (by rw [Va (by omega) (by decide) (by omega), hN]; rfl)) ?_; refine VA (n := N) (b := 1) rfl rfl rfl rfl rfl rfl rfl rfl rfl (by omega) (by omega) fun rm => ?_; rw [show List.replicate N (Value.int .u8 0) = (KV l N 0).map bV from by rw [KV, List.map_replicate]; rfl]; refine JI 11 rfl ?_; refine Jy (σ := Nat) (fun i => i ≤ l.length) (fun i => [(1, .func (.func g) #[] caps.toArray), (5, .slice (some ⟨rm, 0, none⟩) N N), (12, .int .i64 (l.length : Int)), (13, .int .i64 (i : Int))]) (fun i => [(rm, .cells ((KV l N i).map bV).toArray 5 (0, 0))]) (fun _ _ _ => True) (fun i => l.length - i) 0 (Nat.zero_le _) (lK rfl) (List.Sublist.refl _) (fun _ _ h => h) ?_; intro i hi1; refine JK 6 rfl ?_; refine cD (fun h7 => ?_) fun h7 => ?_
 ·refine JK 5 rfl ?_
  have hil : i < l.length := by omega
  have hi8 : i / 8 < N := by omega
  refine Jq 9 rfl ?_; refine Ji rfl rfl rfl eg (hg i hil) oR ?_; refine JI 2 rfl ?_; refine cD (fun h11 => ?_) fun h11 => ?_
  ·have hbt : l.getD i false = true := by assumption
   have hst1 : KV l N (i + 1) = (KV l N i).set (i / 8) (UInt8.ofNat (((KV l N i).getD (i / 8) 0).toNat ||| 2 ^ (i % 8))) := by rw [KV, if_pos hbt]
   obtain ⟨Y, hY⟩ : ∃ Y, Y = KV l N i := ⟨_, rfl⟩
   have hYl : Y.length = N := by rw [hY]; exact Vs l N i
   rw [← hY] at hst1 ⊢
   refine JT [] [(0, .pure), (1, .pure), (2, .pure), (3, .pure), (5, .pure), (6, .pure), (7, .pure), (8, .pure), (9, .pure), (10, .turn)] 11 [0, 1, 2, 3, 4, 5, 6, 7, 8, 9, 10] (by kernel_rfl) (by kernel_rfl) (by first | exact (fun _ h => absurd h List.not_mem_nil) | simp [SubS] | (intro p hp; simp [hp])) ?_; refine Jp (k := 0) rfl rfl rfl rfl rfl (fun _ hS => (Jf rfl)) ?_; refine Jp (k := 1) rfl rfl rfl rfl rfl (fun _ hS => (Jf rfl)) ?_
   refine Jp (k := 2) rfl rfl rfl rfl rfl (fun _ _ => (J2 rfl rfl rfl)) ?_; refine Ww (show _ = Value.int .i64 ((i / 8 : Nat) : Int) from congrArg (Value.int .i64) (by first | exact Wm _ _ | exact Va (by omega) (by decide) (by omega))) ?_; refine Jp (k := 3) rfl rfl rfl rfl rfl (fun _ _ => JF (j := (i / 8)) (m := 1) (off' := (i / 8)) rfl rfl rfl rfl (by omega) (by omega) (by omega)) ?_; refine KE (k := 4) rfl rfl rfl rfl rfl (Je rfl (kn 0 rfl) rfl (by rw [W9]; exact Yg (by omega))) ?_; refine Jp (k := 5) rfl rfl rfl rfl rfl (fun _ hS => (Jf rfl)) ?_
   refine Jp (k := 6) rfl rfl rfl rfl rfl (fun _ _ => (J2 rfl rfl rfl)) ?_; refine Ww (show _ = Value.int .i64 ((i % 8 : Nat) : Int) from congrArg (Value.int .i64) (by first | exact Wm _ _ | exact Va (by omega) (by decide) (by omega))) ?_; refine Jp (k := 7) rfl rfl rfl rfl rfl (fun _ _ => Jhd (n := i % 8) (b := ((2 ^ (i % 8) : Nat) : Int)) rfl rfl rfl (show _ ≤ 8 from by omega) (Jpk (by omega))) ?_; refine Jp (k := 8) rfl rfl rfl rfl rfl (fun _ _ => xI (op := .or) (m := (Y.getD (i / 8) 0).toNat) (n := 2 ^ (i % 8)) rfl rfl rfl (YL _) (Nat.pow_lt_pow_right (by decide) (by omega) : 2 ^ (i % 8) < 2 ^ 8) rfl) ?_; refine Ww (Jiy _ (by omega)) ?_; refine Jp (k := 9) rfl rfl rfl rfl rfl (fun _ _ => JF (j := (i / 8)) (m := 1) (off' := (i / 8)) rfl rfl rfl rfl (by omega) (by omega) (by omega)) ?_; refine Ya (k := 10) (q := 0) (cs' := ((KV l N (i + 1)).map bV).toArray) rfl rfl rfl rfl rfl rfl rfl rfl (by simp; omega) (by rw [zB, hst1]) rfl (fun _ h => nomatch h) ?_; refine Kx ?_; refine JJ 5 rfl ?_; refine J3 (show _ = Value.int .i64 ((i + 1 : Nat) : Int) from by rw [wrap_i64 (by omega) (by omega)]; congr 1 <;> omega) ?_; refine Jx 2 rfl ?_; refine Jv ?_; exact Jo (i + 1) (by omega) (by omega) (lK rfl) (List.Sublist.refl _) (fun _ _ h => h)
  ·refine Jq 5 rfl ?_; refine J3 (show _ = Value.int .i64 ((i + 1 : Nat) : Int) from by rw [wrap_i64 (by omega) (by omega)]; congr 1 <;> omega) ?_; refine Jx 2 rfl ?_; refine Jv ?_
   (have hst0 : KV l N (i + 1) = KV l N i := by rw [KV, if_neg (by simp_all)]
    exact Jo (i + 1) (by omega) (by omega) (lK rfl) (by rw [hst0]; exact List.Sublist.refl _) (fun _ _ h => h))
 ·refine JK 6 rfl ?_
  obtain rfl : i = l.length := by omega
  refine Jq 2 rfl ?_; refine LR rfl (KS (b := KV l N l.length) (row := some (rm, N, [])) (e := 5) (show _ = some (J8 (KV l N l.length).length _) from by rw [Vs]; rfl) ⟨by rw [List.length_map]; omega, by rw [Vs]; simp⟩ (fun p hp => .inl (by rw [List.mem_singleton.1 hp, List.append_nil]; exact List.mem_cons_self)) rfl rfl rfl) ?_; refine Jx 4 rfl ?_; refine pT rfl rfl rfl fun w1 hs1 => ?_; refine ⟨?_, hs1.keep⟩; rw [hpB]; rfl
theorem J10 {R : Jm} {a b c d : Nat} {bits : List Bool} {pb : Pl} {items : List Vl} {pi : Pl} {pick : Int} (hsb : Seg R bits.length (ju bits) pb) (hl : bits.length ≤ 9223372036854775807) (rv : Nat) {i : Nat} (hi : i < bits.length) :
  PureR Tryz.prog 342 [.int .i64 (i : Int), XS rv].toArray (.bool (bits.getD i false)) (X5 rv (.mk a b c d bits pb items pi pick) :: R) := by
 have hsb := hsb.mono (R' := X5 rv (.mk a b c d bits pb items pi pick) :: R) fun q hq => List.mem_cons_of_mem _ hq
 have hy : bits[i]? = some (bits.getD i false) := by rw [List.getD_eq_getElem?_getD, List.getElem?_eq_getElem hi]; rfl
 generalize bits.getD i false = y at hy ⊢
 refine Jb Tryz.func342 rfl rfl fun w => ?_; refine JD ?_; refine Jq 8 rfl ?_; refine LR rfl (Je rfl (J5 (k := 0) rfl) rfl rfl) ?_; refine Q1 rfl ?_
 refine LR rfl (Jk (j := i) rfl hsb rfl rfl rfl (by first | rfl | omega) (by omega)) ?_; refine LR rfl (XZ oR rfl hsb hy rfl) ?_; refine Jx 4 rfl ?_; refine pT rfl rfl rfl fun w1 hs1 => ?_; exact ⟨rfl, hs1.keep⟩
theorem J11 {R : Jm} {a b c d : Nat} {bits : List Bool} {pb : Pl} {items : List Vl} {pi : Pl} {pick : Int} (hsb : Seg R bits.length (ju bits) pb) (hl : bits.length ≤ 9223372036854775807) (rn rv : Nat) {i : Nat} (hi : i < (bits ++ [true]).length) :
  PureR Tryz.prog 343 [.int .i64 (i : Int), XS rn, XS rv].toArray (.bool ((bits ++ [true]).getD i false)) (vk rn bits.length :: X5 rv (.mk a b c d bits pb items pi pick) :: R) := by
 have hsb := hsb.mono (R' := vk rn bits.length :: X5 rv (.mk a b c d bits pb items pi pick) :: R) fun q hq => List.mem_cons_of_mem _ (List.mem_cons_of_mem _ hq)
 rw [List.length_append] at hi; simp only [List.length_cons, List.length_nil] at hi
 by_cases he : i = bits.length
 have hv : (bits ++ [true]).getD i false = true := by rw [List.getD_eq_getElem?_getD, List.getElem?_append_right (by omega), he, Nat.sub_self]; rfl
 rw [hv]; refine Jb Tryz.func343 rfl rfl fun w => ?_; refine JD ?_; refine Jq 8 rfl ?_; refine LR rfl (Je (v := .int .i64 (bits.length : Int)) rfl (J5 (k := 0) rfl) rfl rfl) ?_; refine VQ rfl (J3 (show _ = Value.bool true from jK (Jxl (by rw [he]))) (Jx 11 rfl ?_)); refine pT rfl rfl rfl fun w1 hs1 => ?_; exact ⟨rfl, hs1.keep⟩
 ·have hy : bits[i]? = some (bits.getD i false) := by rw [List.getD_eq_getElem?_getD, List.getElem?_eq_getElem (by omega)]; rfl
  have hv : (bits ++ [true]).getD i false = bits.getD i false := by rw [List.getD_eq_getElem?_getD, List.getElem?_append_left (by omega), List.getD_eq_getElem?_getD]
  rw [hv]
  generalize bits.getD i false = y at hy ⊢
  have hne : ((i : Int) == (bits.length : Int)) = false := by simp; omega
  refine Jb Tryz.func343 rfl rfl fun w => ?_; refine JD ?_; refine Jq 8 rfl ?_; refine LR rfl (Je (v := .int .i64 (bits.length : Int)) rfl (J5 (k := 0) rfl) rfl rfl) ?_; refine VQ rfl (J3 (show _ = Value.bool false from jK (hne)) (JJ 2 rfl ?_)); refine LR rfl (Je rfl (J5 (k := 1) rfl) rfl rfl) ?_; refine Q1 rfl ?_
  refine LR rfl (Jk (j := i) rfl hsb rfl rfl rfl (by first | rfl | omega) (by omega)) ?_; refine LR rfl (XZ oR rfl hsb hy rfl) ?_; refine Jx 5 rfl ?_; refine pT rfl rfl rfl fun w1 hs1 => ?_; exact ⟨rfl, hs1.keep⟩
theorem vI {k : Int} (h8 : k ≠ 8) (pick : Int) (ins : List Ty) (i : Nat) : JX k pick ins i = JX k 0 ins i := by
 unfold JX XC; split
 ·rfl
 ·simp [h8]
theorem Jiz {k : Int} (h8 : k ≠ 8) (pick : Int) (ins : List Ty) : ∀ (l : List Vl) (i : Nat), Ql l k pick ins i = Ql l k 0 ins i
 | [], i => by rw [Ql, Ql]
 | x :: xs, i => by rw [Ql, Ql, Jiz h8 pick ins xs (i + 1), vI h8]
theorem Jd2 {k : Int} (ins : List Ty) : ∀ (l : List Vl) (i : Nat), (Ql l k 0 ins i).map Prod.fst = (List.range' i l.length).map fun j => JX k 0 ins j
 | [], i => by rw [Ql]; rfl
 | x :: xs, i => by
  rw [Ql, List.map_cons, Jd2 ins xs (i + 1), List.length_cons, List.range'_succ, List.map_cons]
theorem Jpm (k : Int) (ins : List Ty) (l : List Vl) : (Ql l k 0 ins 0).map Prod.fst = Xq k ins l.length := by
 rw [Jd2]; unfold Xq; rw [List.range_eq_range']
theorem Jus {α : Type} (A : List α) (x : α) (B : List α) : (A ++ x :: B).Perm (B ++ (A ++ [x])) := by
 rw [show A ++ x :: B = (A ++ [x]) ++ B by simp]; exact List.perm_append_comm
def zC (l : List (Ty × BS)) : Nat := (l.map fun p => p.2.length + 4).sum
theorem wF (p : Ty × BS) (l : List (Ty × BS)) : zC (p :: l) = p.2.length + 4 + zC l := by unfold zC; rw [List.map_cons, List.sum_cons]
theorem Jat : bOk [] none := ⟨⟨rfl, rfl⟩, fun _ => rfl⟩
set_option maxHeartbeats 1000000 in
theorem Jya {R : Jm} {k n : Int} {p : Pl} {ins : List Ty} {items : List Vl} {pi : Pl} {B : Nat} (ht : Ty.In R (.mk k n p ins)) (hs : Seg R items.length (QE items) pi) (hl : items.length ≤ 600) (hx : ∀ i, i < items.length → XC k 0 i < ins.length)
  (hb : ∀ (i : Nat) x, items[i]? = some x → PureR Tryz.prog 302 [(JX k 0 ins i).val, x.val].toArray (J1 (Vu x (JX k 0 ins i))) R) (hB : zC (Ql items k 0 ins 0) ≤ B) (hB2 : B ≤ 900000) :
  PureR Tryz.prog 344 [Ty.val (.mk k n p ins), KB items.length pi].toArray (J1 (ZC (Vm (Xq k ins items.length)).toNat (Ql items k 0 ins 0) [] [])) R := by
 have hti := fun i h => ht.sub _ (QV (hx i h)).2
 have hbg := Jpi ht hl hx
 have hbl := Jas (Xq k ins items.length)
 rw [Jd1] at hbl
 obtain ⟨H, hH⟩ : ∃ H, H = (Vm (Xq k ins items.length)).toNat := ⟨_, rfl⟩
 have hHi : Vm (Xq k ins items.length) = (H : Int) := by omega
 have hHb : H ≤ 1351079888211148800 := by omega
 rw [hHi] at hbg; rw [← hH]
 obtain ⟨TOT, hTOT⟩ : ∃ T, T = ZC H (Ql items k 0 ins 0) [] [] := ⟨_, rfl⟩
 rw [← hTOT]; refine Jb Tryz.func344 rfl rfl fun w => ?_; refine JD ?_; refine Jq 2 rfl ?_; refine LN rfl fun r1 => ?_; refine LN rfl fun r2 => ?_; refine JJ 5 rfl ?_; refine LN rfl fun r3 => ?_; refine LN rfl fun r4 => ?_; refine Xf 6 [3, 2] rfl rfl ?_; refine LR rfl (Jz rfl hs rfl) ?_; refine Ji rfl rfl rfl (enters_of Tryz.func365 (by kernel_rfl) rfl) hbg oR ?_; refine LN rfl fun r5 => ?_
 refine LT 0 rfl rfl ?_; refine Xf 7 [4, 3] rfl rfl ?_; refine LR rfl (Jz rfl hs rfl) ?_; refine JZ rfl rfl rfl (enters_of Tryz.func366 (by kernel_rfl) rfl) (Jiw (.mk k n p ins) (items.length : Int)) fun pp => ?_
 obtain ⟨ra, rb⟩ := pp
 change HL _ _ _ (vk rb items.length :: WD ra (.mk k n p ins) :: _) _ _ _ _; refine JI 3 rfl ?_; refine QX [4, 3, 0, 1, 2, 5, 6] (L' := [yK r3 [] none false, yK r4 [] none false, vk rb items.length, WD ra (.mk k n p ins), _, _, _]) (by decide) rfl ?_
 refine Wd (τ := Unit) (fun i (s : BS × BS × QD × QD × Bool × Bool) => i ≤ items.length ∧ ZC H (Ql (items.drop i) k 0 ins i) s.1 s.2.1 = TOT ∧ bOk s.1 s.2.2.1 ∧ bOk s.2.1 s.2.2.2.1 ∧ s.1.length + s.2.1.length + zC (Ql (items.drop i) k 0 ins i) ≤ B) (fun s => WE r3 s.1 s.2.2.1 s.2.2.2.2.1 ++ WE r4 s.2.1 s.2.2.2.1 s.2.2.2.2.2) (fun _ _ => False) (fun _ => []) [vk rb items.length, WD ra (.mk k n p ins), _, _, _] ([], [], none, none, false, false) rfl rfl (enters_of Tryz.func379 (by kernel_rfl) rfl) (Jix ht (by omega) hx ra rb) (by rintro _ _ _ ⟨_, rfl, _⟩; rfl) rfl (fun q hq => by rcases List.mem_cons.1 hq with rfl | hq; exact .inl (by simp); rcases List.mem_cons.1 hq with rfl | hq; exact .inl (by simp); exact .inr hq) rfl ⟨Nat.zero_le _, hTOT.symm, Jat, Jat, by simpa using hB⟩ ?_ ?_ ?_
 ·rintro q Xr Xb w3 i _ _ ⟨f, th, row1, row2, own1, own2⟩ ⟨hii, rfl, rfl⟩ ⟨him, hinv, hb1, hb2, hlen⟩ Kr hKr; refine inR ?_
  simp only at hinv hb1 hb2 hlen
  have hti1 := hti i hii
  have hix := XH hii
  have hbi := hb i _ hix.1
  rw [WH hix.1, Ql, ZC] at hinv; rw [WH hix.1, Ql, wF] at hlen
  obtain ⟨S, hS⟩ : ∃ S, S = Vu (XG items i) (JX k 0 ins i) := ⟨_, rfl⟩
  simp only [← hS] at hinv hlen; rw [← hS] at hbi
  have hle4 := Jds (H + th.length)
  unfold itV
  refine Jq 6 rfl ?_; refine Qu (cs := #[.int .i64 0, .int .i64 0, .slice none 0 0]) rfl rfl rfl rfl fun r9 => ?_; refine Jh (k := 0) (n := 3) (ys := (JX k 0 ins i).cells) rfl rfl rfl rfl rfl (JX k 0 ins i).len rfl (JX k 0 ins i).one rfl ?_; refine Jx 1 rfl ?_; refine hKr _ _ ?_; refine JD ?_; clear hKr; refine JK 2 rfl ?_; refine JE 7 (by kernel_rfl) (by kernel_rfl) ?_; refine Ja rfl rfl rfl (Jd (xs := (JX k 0 ins i).cells) (n := 3) rfl (kn 0 rfl) rfl rfl (JX k 0 ins i).len) ?_; refine Ja rfl rfl rfl (Je (v := KB items.length pi) rfl (J5 (k := 3) rfl) rfl rfl) ?_; refine Ja rfl rfl rfl (Jf rfl) ?_
  refine Ja rfl rfl rfl (Jk (j := i) rfl hs rfl rfl rfl (by first | rfl | omega) (by omega)) ?_; refine Ja rfl rfl rfl (Wv (fun q hq => Or.inr (List.mem_append_right _ hq)) rfl hs hix.1 rfl rfl) ?_; refine V3 rfl rfl rfl Jow hbi (fun q hq => Or.inr (List.mem_append_right _ hq)) ?_; refine Ja rfl rfl rfl (JC rfl) ?_; refine JS ?_; refine JJ 5 rfl ?_; refine LR rfl (Jd (xs := (JX k 0 ins i).cells) (n := 3) rfl (kn 0 rfl) rfl rfl (JX k 0 ins i).len) ?_; refine Ji rfl rfl rfl (enters_of Tryz.func367 (by kernel_rfl) rfl) (Jiu hti1) (fun q hq => Or.inr (List.mem_append_right _ hq)) ?_; refine JI 12 rfl ?_; refine cD (fun g => ?_) fun g => ?_
  refine Jq 3 rfl ?_; refine Qw (T := WE r3 f row1 own1) (L0 := (r9, .cells (JX k 0 ins i).cells.toArray 84 (0, 0)) :: WE r4 th row2 own2) (Rl := []) List.perm_middle.symm rfl rfl rfl Jie (vH hb1 (s2 := S) (by omega)) oN fun x => ?_
  obtain ⟨row1x, hb1x⟩ := x
  refine Jx 5 rfl ?_
  (rw [if_pos (by assumption)] at hinv
   refine vE (L' := WE r3 (f ++ S) row1x true ++ WE r4 th row2 own2) ((List.Sublist.refl _).append (.cons _ (List.Sublist.refl _))) ?_
   exact KD (f ++ S, th, row1x, row2, true, own2) ⟨by omega, hinv, hb1x, hb2, by simp only [List.length_append]; omega⟩ rfl)
  ·refine JK 3 rfl ?_; refine JE 10 (by kernel_rfl) (by kernel_rfl) ?_; refine Ja rfl rfl rfl (Je (v := .int .i64 (H : Int)) rfl (J5 (k := 2) rfl) rfl rfl) ?_; refine V3 rfl rfl rfl (enters_of Tryz.func246 (by kernel_rfl) rfl) (Jx9 r4 own2 hb2) (fun q hq => Or.inl (by rw [List.mem_singleton.1 hq]; exact List.mem_cons_of_mem _ (List.mem_append_right _ List.mem_cons_self))) ?_
   refine Ja rfl rfl rfl (J2 rfl rfl rfl) ?_; refine KR (show _ = Value.int .i64 ((H + th.length : Nat) : Int) from by rw [wrap_i64 (by omega) (by omega)]; congr 1 <;> omega) ?_; refine Ja rfl rfl rfl (J2 rfl rfl rfl) ?_; refine KR (show _ = uV (H + th.length) from congrArg (Value.int .u64) (wrap_u64 (by omega) (by omega))) ?_; refine Ky rfl rfl rfl Jty (jG (n := H + th.length) (by omega) 4) ?_; refine Ja rfl rfl rfl (Jf rfl) ?_; refine Ja rfl rfl rfl (JY rfl rfl) ?_; refine Ja rfl rfl rfl (JY rfl rfl) ?_; refine Ja rfl rfl rfl (JC rfl) ?_; refine Ja rfl rfl rfl (JC rfl) ?_; refine JS ?_; refine JJ 5 rfl ?_; refine Qw (T := WE r3 f row1 own1) (L0 := (r9, .cells (JX k 0 ins i).cells.toArray 84 (0, 0)) :: WE r4 th row2 own2) (Rl := []) List.perm_middle.symm rfl rfl rfl Jie (vH hb1 (s2 := (yI (H + th.length) 4).1) (by omega)) oN fun x => ?_
   obtain ⟨row1x, hb1x⟩ := x
   refine JJ 4 rfl ?_; refine Qw (T := WE r4 th row2 own2) (L0 := WE r3 (f ++ (yI (H + th.length) 4).1) row1x true ++ [(r9, .cells (JX k 0 ins i).cells.toArray 84 (0, 0))]) (Rl := []) (Jus _ _ _) rfl rfl rfl Jie (vH hb2 (s2 := S) (by omega)) oN fun x => ?_
   obtain ⟨row2x, hb2x⟩ := x
   refine Jx 2 rfl ?_
   (rw [if_neg (by rw [Bool.not_eq_true]; assumption)] at hinv
    refine xt List.perm_append_comm ?_; refine vE (L' := WE r3 (f ++ (yI (H + th.length) 4).1) row1x true ++ WE r4 (th ++ S) row2x true) ((List.sublist_append_left _ _).append (List.Sublist.refl _)) ?_
    exact KD (f ++ (yI (H + th.length) 4).1, th ++ S, row1x, row2x, true, true) ⟨by omega, hinv, hb1x, hb2x, by simp only [List.length_append]; omega⟩ rfl)
 rintro D i ⟨f, th, row1, row2, own1, own2⟩ hfi ⟨him, hinv, hb1, hb2, hlen⟩
 simp only at hinv hb1 hb2 hlen
 have hin : i = items.length := hfi
 rw [hin, List.drop_length, Ql, ZC] at hinv; refine gqo 4 rfl ?_; refine Qw (T := WE r3 f row1 own1) (L0 := _ :: (WE r4 th row2 own2 ++ [vk rb items.length, WD ra (.mk k n p ins), _, _, _])) (Rl := []) (by rw [List.append_assoc]; exact List.perm_middle.symm) rfl rfl rfl Joq (Jgd hb1 (by omega)) oN fun u1 => ?_; refine Qw (T := WE r4 th row2 own2) (L0 := _ :: [vk rb items.length, WD ra (.mk k n p ins), _, _, _]) (Rl := []) List.perm_middle.symm rfl rfl rfl Joq (Jgd hb2 (by omega)) oN fun u2 => ?_; refine LR rfl (QK (a := f) (b := th) rfl rfl (by omega)) ?_; refine Jx 4 rfl ?_; refine KX (k := 0) rfl rfl ?_; refine pT rfl rfl rfl fun w1 hs1 => ?_; exact ⟨by rw [← hinv]; rfl, hs1.keep⟩
 ·exact fun _ _ _ h => h.elim
theorem WW {a b c d : Nat} {bits : List Bool} {pb : Pl} {items : List Vl} {pi : Pl} {pick k n : Int} {p : Pl} {ins : List Ty} (h : KL (.mk a b c d bits pb items pi pick) (.mk k n p ins) = 0) :
  ¬ ((k = 4 ∧ n < items.length) ∨ (k = 6 ∧ n < bits.length)) ∧ ofT k n ins.length (.mk a b c d bits pb items pi pick) = true ∧ QN items k pick ins 0 = 0 := by
 rw [KL] at h
 split at h
 ·cases h
 ·rename_i h1
  split at h
  ·cases h
  ·rename_i h2
   exact ⟨h1, by simpa using h2, h⟩
theorem Xs : ∀ {l : List Vl} {k pick : Int} {ins : List Ty} {i j : Nat} {x : Vl}, QN l k pick ins i = 0 → l[j]? = some x → KL x (JX k pick ins (i + j)) = 0
 | [], _, _, _, _, _, _, _, h => by simp at h
 | y :: ys, k, pick, ins, i, j, x, h0, h => by
  rw [QN] at h0
  split at h0
  ·rename_i h1
   cases j with
   | zero => simp at h; subst h; exact h1
   | succ j =>
    rw [List.getElem?_cons_succ] at h
    have := Xs h0 h
    rwa [show i + 1 + j = i + (j + 1) by omega] at this
  ·rename_i h1; exact absurd h0 h1
theorem Jpn : ∀ {l : List Vl} {x : Vl}, x ∈ l → YF x ≤ wL l
 | y :: ys, x, h => by
  rw [wL]
  rcases List.mem_cons.1 h with rfl | h
  ·omega
  ·have := Jpn h; omega
theorem Jge {a b c d : Nat} {bits : List Bool} {pb : Pl} {items : List Vl} {pi : Pl} {pick : Int} {x : Vl} (h : x ∈ items) : YF x ≤ YF (.mk a b c d bits pb items pi pick) := by
 have := Jpn h
 rw [YF]; omega
theorem Jd3 (items : List Vl) (k pick : Int) (ins : List Ty) : ∀ (l : List Vl) (i : Nat), zC (Ql l k pick ins i) ≤ 40 * wL l
 | [], i => by rw [Ql, wL]; exact Nat.zero_le _
 | x :: xs, i => by
  rw [Ql, wL, wF]
  have h1 := wB x (JX k pick ins i)
  have h2 := Jd3 items k pick ins xs (i + 1)
  simp only
  omega
theorem Jli {z : Int} (h1 : 0 ≤ z) (h2 : z < 256) : Value.int .u8 (IntKind.u8.wrap z) = bV (UInt8.ofNat z.toNat) := by
 rw [jg h1 (by omega), ← Jb8 (by omega), Int.toNat_of_nonneg h1]
theorem Jut {l : List Vl} {k pick : Int} {ins : List Ty} (h : l.length = 1) : ((Ql l k pick ins 0).headD (default, [])).2 = Vu (XG l 0) (JX k pick ins 0) := by
 match l, h with
 | [x], _ => rw [Ql]; rfl
theorem Jd4 {a b c d : Nat} {bits : List Bool} {pb : Pl} {items : List Vl} {pi : Pl} {pick k n dp : Int} {p : Pl} {ins : List Ty} (hc : chk (.mk k n p ins) dp = 0) (h : KL (.mk a b c d bits pb items pi pick) (.mk k n p ins) = 0) :
  items.length ≤ 512 ∧ bits.length ≤ 512 ∧ (k = 1 → 1 ≤ n ∧ n ≤ 32) ∧ (k = 8 → items.length = 1 ∧ 0 ≤ pick ∧ pick < ins.length ∧ ins.length ≤ 8) := by
 obtain ⟨h1, h2, _⟩ := WW h
 obtain ⟨hk, hf, _, _⟩ := Vg hc
 rw [V0 k n ins.length a b c d bits pb items pi pick _ rfl] at h2; simp only [Vk] at h2
 unfold Qd at hf
 have h9 : k = 1 ∨ k = 2 ∨ k = 3 ∨ k = 4 ∨ k = 5 ∨ k = 6 ∨ k = 7 ∨ k = 8 := by omega
 rcases h9 with rfl | rfl | rfl | rfl | rfl | rfl | rfl | rfl
 all_goals generalize items.length = I at *
 all_goals generalize bits.length = J at *
 all_goals generalize ins.length = K at *
 all_goals simp at h1 h2 hf ⊢
 all_goals omega
section
variable {c : Cx} {l : Kw} {L E : Jm} {X : XP} {Q : Exit → Act → World → Prop} {d : List Deferred}
variable {ops : Array Oper} {rest : List Nat} {i k : Nat} {v : Value} {o : Oper} {tb : ZU} {S : Jm} {T : Jm → Act → Prop}
theorem Wr {t ty : TypeId} {ps : String} {af : Array Edge} {gd : Option (Nat × Bool)} {n e sz : Nat} {pa : List (Nat × Operand)} {vs : Kw} {r zs : List Value} {z : Value} (hk : WJ ops.toList k = some ⟨some i, .buildSlice t n pa.toArray, ty, ps, af, gd⟩) (hg : Kj l ops ⟨some i, .buildSlice t n pa.toArray, ty, ps, af, gd⟩ = some true) (hi : Nat.ble (i + 1) c.n = true)
  (hA : tb k = .grow (VI (slV n) (.cells r.toArray e (0, 0))))
  (hp : WM l pa = some vs) (ht : Kp c.P t = some e) (hz : Q2 c.P e = some z) (hs : KJ c.P e = some sz) (hzs : z.cells.size = sz) (hb : Nat.ble (n * sz) 16777216 = true) (h0 : Nat.ble 1 (n * sz) = true)
  (hmk : (madeCells z.cells (n * sz)).toList = zs) (hf : YH (fun i => some (i * sz, sz)) zs (Q8 vs) = some r)
  (h : ∀ q, HB c d ((i, .slice (some ⟨q, 0, none⟩) n n) :: l) ((q, .cells r.toArray e (0, 0)) :: E) X S ops tb rest T) : HB c d l E X S ops tb (k :: rest) T :=
 Jnu (V := slV n) hk hg rfl hi hA (fun a w hfr => by
  have h1 := Vp hfr hp
  have h2 : (pa.toArray.map fun (p : Nat × Operand) => (p.1, a.eval p.2)) = vs.toArray := by
   apply Array.toList_inj.1; rw [Array.toList_map]; simpa using h1
  rw [Q6] at hf; subst hmk
  have h3 := VS ht hz hs hzs (Nat.le_of_ble_eq_true hb) (Nat.le_of_ble_eq_true h0) hf w
  rw [← h2] at h3; simp only [execOp, Sem.run_bind]
  have h4 : (Instr.buildSlice t n (pa.toArray.map fun (i, x) => (i, a.eval x))).run c.P w = .ok (.slice (some ⟨w.heap.size, 0, none⟩) n n) (w.alloc (.cells r.toArray e)) := h3
  rw [h4]; rfl) h
end
section
variable {a b c d : Nat} {bits : List Bool} {pb : Pl} {items : List Vl} {pi : Pl} {pick k n : Int} {p : Pl} {ins : List Ty}
theorem Ws : Vu (.mk a b c d bits pb items pi pick) (.mk k n p ins) = if k = 1 then leW [a, b, c, d] n.toNat else if k = 2 then leW [a, b, c, d] 1 else if k = 5 then WI bits else if k = 6 then WI (bits ++ [true])
  else if k = 8 then UInt8.ofNat pick.toNat :: ((Ql items k pick ins 0).headD (default, [])).2 else ZC (Vm ((Ql items k pick ins 0).map Prod.fst)).toNat (Ql items k pick ins 0) [] [] := by rw [Vu]; rfl
end
set_option maxHeartbeats 1000000 in
theorem Juu {R : Jm} {v : Vl} (hv : v.In R) : ∀ (t : Ty) (dp : Int), t.In R → chk t dp = 0 → KL v t = 0 → YF v ≤ 20000 → PureR Tryz.prog 302 [t.val, v.val].toArray (J1 (Vu v t)) R := by
 induction hv with
 | @mk a b c d bits pb items pi pick ha hb hc hd hlb hsb hl hs hp hi ih =>
 intro t dp ht hck hfit hw
 have ht0 := ht
 cases ht with
 | @mk k n p ins hk hn hlt hst hit =>
 obtain ⟨hk8, ho, h6, hci⟩ := Vg hck
 obtain ⟨hf1, hf2, hf3⟩ := WW hfit
 obtain ⟨m1, m2, m3, m4⟩ := Jd4 hck hfit
 have hxl : ∀ i, i < items.length → XC k pick i < ins.length := fun i hi => qr (v := .mk a b c d bits pb items pi pick) hck hf2 hi
 have hwd : WOk [a, b, c, d] := ⟨rfl, fun x hx => by simp at hx; rcases hx with rfl | rfl | rfl | rfl <;> assumption⟩
 have hfx := QU hwd
 have hlen32 : (Yq [a, b, c, d] 32).reverse.length = 32 := by rw [List.length_reverse, Vq]
 have hpt := Jpj (s := Yq [a, b, c, d] 32) (by rw [Vq]; decide)
 have hle : ∀ m, leW [a, b, c, d] m = ((Yq [a, b, c, d] 32).reverse.take m).drop 0 := fun m => by rw [List.drop_zero]; rfl
 have hrow : ¬ k = 1 → ¬ k = 2 → ¬ k = 5 → ¬ k = 6 → ¬ k = 8 → PureR Tryz.prog 344 [Ty.val (.mk k n p ins), KB items.length pi].toArray (J1 (Vu (.mk a b c d bits pb items pi pick) (.mk k n p ins))) R := fun h1 h2 h5 h6 h8 => by
  have hx0 : ∀ i, i < items.length → XC k 0 i < ins.length := fun i hi => by have := hxl i hi; unfold XC at this ⊢; rw [if_neg h8] at this ⊢; exact this
  have hwl : wL items ≤ YF (.mk a b c d bits pb items pi pick) := by rw [YF]; omega
  have := Jya (B := 800000) ht0 hs (by omega) hx0 (fun i x hxi => by
   have hm := List.mem_of_getElem? hxi
   have hlt3 := (List.getElem?_eq_some_iff.1 hxi).1
   have hty := (QV (hx0 i hlt3)).2
   have hg := Xs hf3 hxi
   rw [Nat.zero_add, vI h8] at hg
   exact ih x hm _ (dp + 1) (hit _ hty) (hci _ hty) hg (Nat.le_trans (Jge hm) hw)) (by have := Jd3 items k 0 ins items 0; omega) (by decide)
  rw [Ws, if_neg h1, if_neg h2, if_neg h5, if_neg h6, if_neg h8, Jiz h8, Jpm]; exact this
 refine Jb Tryz.func302 rfl rfl fun w => ?_; refine JD ?_; refine Jq 2 rfl ?_; refine LN rfl fun r1 => ?_; refine LN rfl fun r2 => ?_; refine Xf 7 [0] rfl rfl ?_; refine LR rfl (Jz rfl hsb rfl) ?_; refine LN rfl fun r3 => ?_
 refine LT 0 rfl rfl ?_; refine Goc 16 [2] rfl rfl ?_; refine cD (fun h6 => ?_) fun h6 => ?_
 refine JK 1 rfl ?_
 have hn1 := m3 (by assumption)
 refine JE 8 (by kernel_rfl) (by kernel_rfl) ?_
 refine Ja rfl rfl rfl (JA rfl rfl rfl) ?_; refine Ja rfl rfl rfl (Js (vs := [_, _, _, _]) rfl (kn 1 rfl) rfl rfl rfl rfl) ?_; refine Ky rfl rfl rfl Jdf hfx ?_; refine Ky rfl rfl rfl (enters_of Tryz.func340 (by kernel_rfl) rfl) hpt ?_
 refine Ja rfl rfl rfl (JA rfl rfl rfl) ?_; refine Ja rfl rfl rfl (Je rfl (kn 2 rfl) rfl rfl) ?_; refine Ja rfl rfl rfl (jZ (kl := none) (kh := some (.i64, n)) (m := 0) (n := n.toNat) rfl rfl rfl rfl rfl (by show n = ((n.toNat : Nat) : Int); omega) (Nat.zero_le _) (by rw [hlen32]; omega) rfl) ?_; rw [← hle]; refine Ja rfl rfl rfl (JC rfl) ?_; refine JS ?_; refine Jx 5 rfl ?_; refine pT rfl rfl rfl fun w1 hs1 => ?_; refine ⟨?_, hs1.keep⟩; rw [Ws, if_pos (by assumption)]; rfl
 ·refine JK 6 rfl ?_; refine cD (fun g => ?_) fun g => ?_
  refine Vw 4 [1] rfl rfl ?_; refine Jn rfl rfl rfl Jdf hfx ?_; refine Jn rfl rfl rfl (enters_of Tryz.func340 (by kernel_rfl) rfl) hpt ?_; refine LR rfl (jZ (kl := none) (kh := some (.i64, 1)) (m := 0) (n := 1) rfl rfl rfl rfl rfl (by show (1 : Int) = ((1 : Nat) : Int); omega) (Nat.zero_le _) (by rw [hlen32]; omega) rfl) ?_; rw [← hle]; refine Jx 6 rfl ?_; refine pT rfl rfl rfl fun w1 hs1 => ?_; refine ⟨?_, hs1.keep⟩; rw [Ws, if_neg (by assumption), if_pos (by assumption)]; rfl
  ·refine JK 6 rfl ?_; refine cD (fun g => ?_) fun g => ?_
   refine Jq 2 rfl ?_; refine LR rfl (Je rfl (kn 0 rfl) rfl rfl) ?_; refine LR rfl (JN rfl rfl) ?_; refine Ji (Rl := X5 r2 (.mk a b c d bits pb items pi pick) :: R) rfl rfl rfl (enters_of Tryz.func341 (by kernel_rfl) rfl) (Jpl (caps := [XS r2]) (by omega) (enters_of Tryz.func342 (by kernel_rfl) rfl) (fun i hi => J10 hsb (by omega) r2 hi)) (fun q hq => (List.mem_cons.1 hq).elim (fun h => .inl (by rw [h]; exact List.mem_cons_of_mem _ List.mem_cons_self)) .inr) ?_; refine Jx 6 rfl ?_; refine pT rfl rfl rfl fun w1 hs1 => ?_; refine ⟨?_, hs1.keep⟩; rw [Ws, if_neg (by assumption), if_neg (by assumption), if_pos (by assumption)]; rfl
   ·refine JK 6 rfl ?_; refine cD (fun g => ?_) fun g => ?_
    refine Vw 4 [0] rfl rfl ?_; refine J3 (show _ = Value.int .i64 (((bits ++ [true]).length : Nat) : Int) from by rw [wrap_i64 (by omega) (by omega)]; congr 1; rw [List.length_append]; rfl) ?_; refine LR rfl (JN rfl rfl) ?_
    refine Ji (Rl := vk r3 bits.length :: X5 r2 (.mk a b c d bits pb items pi pick) :: R) rfl rfl rfl (enters_of Tryz.func341 (by kernel_rfl) rfl) (Jpl (caps := [XS r3, XS r2]) (by rw [List.length_append]; simp; omega) (enters_of Tryz.func343 (by kernel_rfl) rfl) (fun i hi => J11 hsb (by omega) r3 r2 hi)) (fun q hq => by rcases List.mem_cons.1 hq with rfl | hq; exact .inl List.mem_cons_self; rcases List.mem_cons.1 hq with rfl | hq; exact .inl (List.mem_cons_of_mem _ List.mem_cons_self); exact .inr hq) ?_; refine Jx 6 rfl ?_; refine pT rfl rfl rfl fun w1 hs1 => ?_; refine ⟨?_, hs1.keep⟩; rw [Ws, if_neg (by assumption), if_neg (by assumption), if_neg (by assumption), if_pos (by assumption)]; rfl
    ·refine JK 6 rfl ?_; refine cD (fun g => ?_) fun g => ?_
     refine JK 1 rfl ?_
     have hk0 : k = 8 := by assumption
     have h81 := (m4 hk0).1
     have hx8 := XH (l := items) (i := 0) (by omega)
     have hty8 := QV (hxl 0 (by omega))
     have hix8 : XC k pick 0 = pick.toNat := by unfold XC; rw [if_neg (by omega), if_pos hk0]
     rw [hix8] at hty8
     have hg8 := Xs hf3 hx8.1
     have hw8 := Nat.le_trans (Jge (a := a) (b := b) (c := c) (d := d) (bits := bits) (pb := pb) (pi := pi) (pick := pick) hx8.2) hw
     have hrec := ih _ hx8.2 (JX k pick ins 0) (dp + 1) (hit _ hty8.2) (hci _ hty8.2) hg8 hw8
     have hpl8 := wB (XG items 0) (JX k pick ins 0)
     refine JT [] [(0, .pure), (2, .pure), (3, .grow (VI (slV 1) (.cells #[bV (UInt8.ofNat pick.toNat)] 5 (0, 0)))), (5, .pure), (7, .pure), (9, .pure), (11, .pure), (13, .pure), (16, .pure), (17, .pure)] 18 [0, 1, 2, 5, 6, 7, 8, 9, 10, 11, 12, 13, 14, 15, 3, 4, 16, 17] (by kernel_rfl) (by kernel_rfl) (by first | exact (fun _ h => absurd h List.not_mem_nil) | simp [SubS] | (intro p hp; simp [hp])) ?_
     refine Jp (k := 0) rfl rfl rfl rfl rfl (fun _ hS => (JA rfl rfl rfl)) ?_; refine KE (k := 1) rfl rfl rfl rfl rfl (Je rfl (kn 1 rfl) rfl rfl) ?_; refine Jp (k := 2) rfl rfl rfl rfl rfl (fun _ hS => (J2 rfl rfl rfl)) ?_; refine Ww (show _ = bV (UInt8.ofNat pick.toNat) from Jli (m4 (by assumption)).2.1 (by have := m4 (by assumption); omega)) ?_
     refine Jp (k := 5) rfl rfl rfl rfl rfl (fun _ hS => (JA rfl rfl rfl)) ?_; refine KE (k := 6) rfl rfl rfl rfl rfl (Je rfl (kn 2 rfl) rfl rfl) ?_
     refine Jp (k := 7) rfl rfl rfl rfl rfl (fun _ hS => (JA rfl rfl rfl)) ?_; refine KE (k := 8) rfl rfl rfl rfl rfl (Je rfl (kn 1 rfl) rfl rfl) ?_; refine Jp (k := 9) rfl rfl rfl rfl rfl (fun _ hS => (Jk (j := pick.toNat) rfl hst rfl rfl rfl (by have := m4 (by assumption); omega) (by have := m4 (by assumption); omega))) ?_; refine KE (k := 10) rfl rfl rfl rfl rfl (Qr oR rfl hst hty8.1 rfl rfl) ?_
     refine Jp (k := 11) rfl rfl rfl rfl rfl (fun _ hS => (JA rfl rfl rfl)) ?_; refine KE (k := 12) rfl rfl rfl rfl rfl (Je rfl (kn 1 rfl) rfl rfl) ?_
     refine Jp (k := 13) rfl rfl rfl rfl rfl (fun _ hS => (Jk (j := 0) rfl hs rfl rfl rfl (by first | rfl | omega) (by omega))) ?_; refine KE (k := 14) rfl rfl rfl rfl rfl (Wv oR rfl hs hx8.1 rfl rfl) ?_; refine Qa (k := 15) rfl rfl rfl rfl rfl Jow hrec oR ?_; refine Wr (k := 3) (n := 1) (sz := 1) (vs := [_]) (zs := [_]) (r := [bV (UInt8.ofNat pick.toNat)]) rfl rfl rfl rfl rfl rfl rfl rfl rfl rfl rfl (by show (madeCells #[_] _).toList = _; rw [QJ]; exact rfl) rfl fun rv => ?_; refine KE (k := 4) rfl rfl rfl rfl rfl (KS (b := [UInt8.ofNat pick.toNat]) (row := some (rv, 1, [])) (e := 5) rfl ⟨rfl, rfl⟩ (fun p hp => .inl (by rw [List.mem_singleton.1 hp]; exact List.mem_cons_self)) rfl rfl rfl) ?_; refine Jp (k := 16) rfl rfl rfl rfl rfl (fun _ hS => (QK (a := [UInt8.ofNat pick.toNat]) (b := Vu (XG items 0) (JX k pick ins 0)) rfl rfl (by simp only [List.length_cons, List.length_nil]; omega))) ?_; refine Jp (k := 17) rfl rfl rfl rfl rfl (fun _ hS => (JC rfl)) ?_; refine Kx ?_; refine Jx 5 rfl ?_; refine pT rfl rfl rfl fun w1 hs1 => ?_; refine ⟨?_, hs1.keep⟩; rw [Ws, if_neg (by assumption), if_neg (by assumption), if_neg (by assumption), if_neg (by assumption), if_pos (by assumption), Jut h81]; rfl
     ·refine Jq 5 rfl ?_; refine LR rfl (Js (vs := [_, _, _]) rfl (kn 2 rfl) rfl rfl rfl rfl) ?_
      refine LS 2 [1] rfl rfl ?_; refine Ji rfl rfl rfl (enters_of Tryz.func344 (by kernel_rfl) rfl) (hrow (by assumption) (by assumption) (by assumption) (by assumption) (by assumption)) oR ?_; refine Jx 4 rfl ?_; refine pT rfl rfl rfl fun w1 hs1 => ?_; refine ⟨?_, hs1.keep⟩
      rfl
theorem Y1 {t : Ty} {v : Vl} (h : V8 t v = 0) : chk t 0 = 0 ∧ KL v t = 0 := by
 unfold V8 at h
 split at h
 ·rename_i h1; exact ⟨h1, h⟩
 ·rename_i h1; exact absurd h h1
theorem Juv {v : Vl} (t : Ty) (h : YF v ≤ 20000) : (Vu v t).length ≤ 800000 := by have := wB v t; omega
theorem Jyb {R : Jm} {t : Ty} {v : Vl} (ht : t.In R) (hv : v.In R) (hw : YF v ≤ 20000) : PureR Tryz.prog 216 [t.val, v.val].toArray (ZB (Jui t v)) R := by
 have h1 := Jo8 ht hv
 have h2 := fun h => Juu hv t 0 ht (Y1 (t := t) (v := v) h).1 (Y1 h).2 hw
 have hlb := Juv t hw
 unfold Jui
 generalize V8 t v = e at h1 h2 ⊢
 generalize Vu v t = s at h2 hlb ⊢
 obtain ⟨k, n, p, ins⟩ := t
 obtain ⟨a, b, c, d, bits, pb, items, pi, pick⟩ := v
 refine Jb Tryz.func216 rfl rfl fun w => ?_; refine JD ?_; refine Jq 2 rfl ?_; refine LN rfl fun r1 => ?_; refine LN rfl fun r2 => ?_; refine Xf 9 [1, 0] rfl rfl ?_; refine Ji rfl rfl rfl (enters_of Tryz.func99 (by kernel_rfl) rfl) h1 oR ?_; refine JI 9 rfl ?_; refine cD (fun g => ?_) fun g => ?_
 refine Kh 9 rfl ?_; refine Jg rfl rfl (.cons (Jj rfl) (.cons (Jj rfl) .nil)) (fun w1 hs1 => ?_); refine ⟨?_, hs1.keep⟩; rw [if_pos (by omega)]; rfl
 ·refine Vw 6 [1, 0] rfl rfl ?_; refine Ji rfl rfl rfl Jow (h2 (by omega)) oR ?_; refine JJ 7 rfl ?_; refine LR rfl (KK rfl rfl) ?_; refine JI 3 rfl ?_; refine cD (fun g => ?_) fun g => ?_
  refine Kh 8 rfl ?_; refine Jg rfl rfl (.cons (Jj rfl) (.cons (Jj rfl) .nil)) (fun w1 hs1 => ?_); refine ⟨?_, hs1.keep⟩; rw [if_neg (by omega), if_pos (by omega)]; rfl
  ·refine Kh 10 rfl ?_; refine Jg rfl rfl (.cons (Jj rfl) (.cons (Jj rfl) .nil)) (fun w1 hs1 => ?_); refine ⟨?_, hs1.keep⟩; rw [if_neg (by omega), if_neg (by omega)]; rfl
section
variable {c : Cx} {l : Kw} {L : Jm} {X : XP} {d : List Deferred} {i : Nat} {ps : String} {af : Array Edge} {gd : Option (Nat × Bool)} {ty : TypeId}
theorem Jd5 {x : Operand} {b : List UInt8} {r off n cap : Nat} {cs : Array Value} {e src dst : TypeId} {fr : Nat × Nat} (hx : Kg l x = some (.slice (some ⟨r, off, none⟩) n cap)) (hk : known c L r (.cells cs e fr)) (hn : n = b.length) (ht : (cs.toList.drop off).take b.length = b.map bV)
  (hs : Kp c.P src = some e) (he : c.P.underlying e = some (.int .u8)) (hd : vR c.P dst = true) :
  J9 c d l L X ⟨some i, .convert src dst x, ty, ps, af, gd⟩ (.string (bs b)) := fun a' w hf hst => by
 subst hn; simp only [execOp]; rw [hf.eval hx]
 have hget := hst.known hk
 have hl : (loadCells ⟨r, off, none⟩ (b.map bV).length).run c.P w = .ok (b.map bV).toArray w := run_loadCells_list w ⟨r, off, none⟩ (b.map bV) fun j v hj => by
  have hlt := (List.getElem?_eq_some_iff.1 hj).1
  rw [List.length_map] at hlt
  have hj2 : cs[off + j]? = some v := by
   rw [← ht, List.getElem?_take, if_pos hlt, List.getElem?_drop] at hj
   simpa using hj
  rw [ji, Vo hget]; exact hj2
 rw [List.length_map] at hl; simp only [Sem.run_bind]; rw [run_convert_bytes_string w src dst e _ _ _ (Kc hs) he (QT hd)]; rw [run_bytesToString w _ _ _ (b.map fun x => ((x.toNat : Nat) : Int)) (by rw [hl]; simp [bV, Function.comp_def])]
 have := Zi b []
 rw [show (bs [] : ByteArray) = ByteArray.empty from rfl] at this; rw [this]
 rfl
end
def Xt (s : BS) (i : Nat) : BS := (s.drop (32 * i)).take 32
def Jau (s : BS) : Nat := (s.length + 31) / 32
def wG (s : BS) (m : Nat) : List BS := (List.range m).map fun i => yH (Xt s i)
def Y2 (s : BS) : List BS := wG s (Jau s)
theorem Jpo (s : BS) (m : Nat) : (wG s m).length = m := by unfold wG; rw [List.length_map, List.length_range]
theorem Zd (s : BS) : (Y2 s).length = Jau s := Jpo _ _
theorem Y3 (s : BS) (i : Nat) : (Xt s i).length = min 32 (s.length - 32 * i) := by unfold Xt; rw [List.length_take, List.length_drop]
theorem Jlj (s : BS) (i : Nat) : Wq (wG s (i + 1)) = Wq (wG s i) ++ [J1 (yH (Xt s i))] := by
 unfold wG
 rw [List.range_succ, List.map_append, List.map_cons, List.map_nil, Zc]
theorem Zs (s : BS) : ∀ x ∈ Y2 s, x.length = 32 := by
 intro x hx
 unfold Y2 wG at hx
 obtain ⟨i, _, rfl⟩ := List.mem_map.1 hx
 exact wd (by rw [Y3]; omega)
theorem Jpp (s : BS) (i : Nat) (sp : List Value) : ((s.map bV ++ sp).toArray.toList.drop (32 * i)).take (Xt s i).length = (Xt s i).map bV := by
 simp only [List.toList_toArray]; rw [Y3]
 by_cases h : 32 * i ≤ s.length
 ·rw [List.drop_append_of_le_length (by rw [List.length_map]; exact h), List.take_append_of_le_length (by rw [List.length_drop, List.length_map]; omega)]
  unfold Xt
  rw [List.map_take, List.map_drop]
  rcases Nat.le_total 32 (s.length - 32 * i) with h2 | h2
  ·rw [Nat.min_eq_left h2]
  ·rw [Nat.min_eq_right h2, List.take_of_length_le (by rw [List.length_drop, List.length_map]; omega), List.take_of_length_le (by rw [List.length_drop, List.length_map]; omega)]
 ·unfold Xt
  rw [show s.length - 32 * i = 0 by omega, Nat.min_zero, List.take_zero, List.drop_of_length_le (by omega)]; rfl
def chM (rb n cap : Nat) (p : Nat × Nat) : Jm := [(p.2, .cells #[.int .i64 32] 3 (0, 0)), (p.1, .cells #[.slice (some ⟨rb, 0, none⟩) n cap] 66 (0, 0))]
theorem Jpq (rb n cap : Nat) : PureE (α := Nat × Nat) Tryz.prog 108 [.slice (some ⟨rb, 0, none⟩) n cap, .int .i64 32].toArray (fun p => .func (.func 175) #[] #[XS p.1, XS p.2]) (chM rb n cap) := by
 refine Kf Tryz.func108 rfl rfl fun w => ?_; refine JD ?_; refine Jq 2 rfl ?_; refine LN rfl fun r1 => ?_; refine LN rfl fun r2 => ?_; refine Goc 10 [0] rfl rfl ?_; refine J0 rfl (fun h4 => ?_) (fun h4 => ?_)
 exact absurd h4 (by decide)
 ·try simp only [ZZ] at h4
  refine Jq 4 rfl ?_; refine LR rfl (JN rfl rfl) ?_; refine Jx 4 rfl ?_; refine pT rfl rfl rfl fun w1 hs1 => ?_; exact ⟨(r1, r2), rfl, hs1⟩
def Jgf (rb n j : Nat) : List Value := [.slice (some ⟨rb, 32 * j, none⟩) (min 32 (n - 32 * j)) (min 32 (n - 32 * j))]
theorem Jpr {rb n cap N : Nat} (hn : N = (n + 31) / 32) (hcap : n ≤ cap) (hlim : n ≤ 1000000) (p1 p2 : Nat) : jk Tryz.prog 175 [XS p1, XS p2] (chM rb n cap (p1, p2)) 0 (nxN (Jgf rb n) N) (yE N) := by
  refine Vf Tryz.func175 rfl rfl fun q xids w2 XI XF hY => ?_; refine JD ?_; refine JK 6 rfl ?_; refine Jy (σ := Nat) (fun i => i ≤ N) (fun i => [(0, .func (.yield q) #[] #[]), (1, XS p1), (2, XS p2), (4, .int .i64 ((32 * i : Nat) : Int))]) (fun _ => []) (fun i => XI i) (fun i => N - i) 0 (Nat.zero_le _) (lK rfl) (List.nil_sublist _) (fun _ _ h => h) ?_; intro i hi; refine Jq 4 rfl ?_; refine LR rfl (Je rfl (J5 (k := 1) rfl) rfl rfl) ?_; refine LR rfl (Ka rfl rfl) ?_; refine JI 3 rfl ?_; refine cD (fun g => ?_) fun g => ?_
  · refine JK 5 rfl ?_
    obtain ⟨M, hM⟩ : ∃ M, M = min 32 (n - 32 * i) := ⟨_, rfl⟩
    have hM1 : M ≤ 32 := by omega
    have hM2 : 0 < M := by omega
    refine JE 7 (by kernel_rfl) (by kernel_rfl) ?_; refine Ja rfl rfl rfl (Je rfl (J5 (k := 0) rfl) rfl rfl) ?_; refine Ja rfl rfl rfl (Je rfl (J5 (k := 1) rfl) rfl rfl) ?_; refine Ja rfl rfl rfl (Jf rfl) ?_; refine Ja rfl rfl rfl (JU (kl := some (32 * i)) (kh := none) (km := none) (sz := 1) (m := 32 * i) (q := n) (z := cap) rfl rfl rfl ⟨_, rfl⟩ trivial trivial rfl rfl rfl (by omega) hcap (Nat.le_refl _) (fun _ => rfl) rfl) ?_; refine Ja rfl rfl rfl (Ka rfl rfl) ?_
    refine Ja rfl rfl rfl (Jnm (r := ((M : Nat) : Int)) rfl rfl (by rw [hM]; split <;> omega)) ?_; refine Ja rfl rfl rfl (JC rfl) ?_; refine JS ?_; refine JJ 5 rfl ?_; refine LR rfl (Je rfl (J5 (k := 1) rfl) rfl rfl) ?_; refine JJ 4 rfl ?_; refine J3 (show _ = Value.int .i64 ((32 * i + M : Nat) : Int) from by rw [wrap_i64 (by omega) (by omega)]; congr 1 <;> omega) ?_; refine JJ 3 rfl ?_; refine J3 (show _ = Value.int .i64 ((32 * i + M : Nat) : Int) from by rw [wrap_i64 (by omega) (by omega)]; congr 1 <;> omega) ?_
    refine LR rfl (JU (kl := some (32 * i)) (kh := some (32 * i + M)) (km := some (32 * i + M)) (sz := 1) (m := 32 * i) (q := 32 * i + M) (z := 32 * i + M) (off' := 32 * i) rfl rfl rfl ⟨_, rfl⟩ ⟨_, rfl⟩ ⟨_, rfl⟩ rfl rfl rfl (by omega) (Nat.le_refl _) (by omega) (fun h => by cases h) (by rw [if_neg (by omega)]; omega)) ?_; refine J3 (show _ = Value.slice (some ⟨rb, 32 * i, none⟩) (min 32 (n - 32 * i)) (min 32 (n - 32 * i)) from by congr 1 <;> omega) ?_; refine V2 (XT := XI (i + 1)) (XF := XF) rfl rfl rfl rfl (hY i (Jgf rb n i) (i + 1) ⟨by omega, rfl, rfl⟩) ?_ ?_
    all_goals (
     refine Jx 2 rfl (XN 1 rfl ?_); refine J0 rfl (fun g => ?_) (fun g => ?_)
     · try exact Bool.noConfusion g
       all_goals try simp only [ZZ] at g
       all_goals (
        refine Kh 5 rfl ?_; refine Jg rfl rfl .nil (fun w1 hs1 => ?_)
        obtain ⟨xs1, hx1⟩ := hs1.now
        exact ⟨⟨_, rfl⟩, hs1.keep, .inr ⟨_, hx1⟩⟩
        skip)
     · try exact Bool.noConfusion g
       all_goals try simp only [ZZ] at g
       all_goals (
        refine Jq 5 rfl ?_; refine LR rfl (Je rfl (J5 (k := 0) rfl) rfl rfl) ?_
        refine VQ rfl ?_; refine J3 (show _ = Value.int .i64 ((32 * (i + 1) : Nat) : Int) from by rw [wrap_i64 (by omega) (by omega)]; congr 1 <;> omega) ?_; refine Jx 2 rfl ?_; refine Jv ?_; exact Jo (i + 1) (by omega) (by omega) (lK rfl) (List.nil_sublist _) (fun _ _ h => h)
        skip)
     skip)
  · refine Kh 4 rfl ?_; refine Kv rfl rfl .nil (fun w1 hs1 => ?_)
    obtain ⟨xs1, hx1⟩ := hs1.now
    exact ⟨⟨_, rfl⟩, hs1.keep, .inl ⟨i, _, (by show i = N; omega), hx1⟩⟩
theorem J0i {s : BS} (hl : s.length ≤ 1000000) : PureT (α := { row : QD // rowOk 1 (Jau s) (Wq (Y2 s)) row }) Tryz.prog 218 [J1 s].toArray (fun x => J8 (Jau s) x.1) [] (fun x => JH 9 (Wq (Y2 s)) x.1) [] := by
 obtain ⟨N, hN⟩ : ∃ N, N = Jau s := ⟨_, rfl⟩
 have hN2 : N = (s.length + 31) / 32 := hN
 have hC : Y2 s = wG s N := by rw [hN]; rfl
 rw [hC, ← hN]; refine Jw Tryz.func218 rfl rfl fun w => ?_; refine JD ?_; refine Jq 7 rfl ?_; refine LN rfl fun r1 => ?_; refine JJ 6 rfl ?_; refine XA rfl rfl rfl rfl rfl rfl fun rb kb => ?_; refine JZ rfl rfl rfl (enters_of Tryz.func108 (by kernel_rfl) rfl) (Jpq rb s.length (s.length + kb)) fun pp => ?_
 obtain ⟨p1, p2⟩ := pp
 change HL _ _ _ [(p2, _), (p1, _), (rb, _), (r1, _)] _ _ _ _; refine JI 3 rfl ?_; refine QX [3, 0, 1, 2] (L' := [_, _, _, _]) (by decide) rfl ?_
 refine Wd (τ := Unit) (fun i (q : Nat × QD) => i ≤ N ∧ i = q.1 ∧ rowOk 1 q.1 (Wq (wG s q.1)) q.2) (fun q => (r1, .cells #[J8 q.1 q.2] 184 (0, 0)) :: JH 9 (Wq (wG s q.1)) q.2) (fun _ _ => False) (fun _ => []) [(p2, _), (p1, _), (rb, _)] (0, none) rfl rfl (enters_of Tryz.func175 (by kernel_rfl) rfl) (Jpr (rb := rb) (cap := s.length + kb) hN2 (by omega) hl p1 p2) (by rintro _ _ _ ⟨_, rfl, _⟩; rfl) rfl (fun q hq => .inl (by rcases List.mem_cons.1 hq with rfl | hq; exact List.mem_cons_self; rw [List.mem_singleton.1 hq]; exact List.mem_cons_of_mem _ List.mem_cons_self)) rfl ⟨Nat.zero_le _, rfl, rfl, rfl⟩ ?_ ?_ ?_
 rintro q Xr Xb w3 i _ _ ⟨i2, row⟩ ⟨hii, rfl, rfl⟩ ⟨him, he, hrow⟩ Kr hKr; refine inR ?_
 simp only at he
 obtain rfl := he
 simp only at hrow
 unfold Jgf
 refine Kh 3 rfl ?_; refine hKr _ _ ?_; refine JD ?_; clear hKr; refine JK 1 rfl ?_
 have hfull := Jgc (s := Xt s i) (by rw [Y3]; omega)
 have hsn := Jlj s i
 obtain ⟨sv, hsv⟩ : ∃ x, x = yH (Xt s i) := ⟨_, rfl⟩
 rw [← hsv] at hfull hsn
 refine JT [] [(1, .pure), (3, .pure), (4, .grow (VI (slV 1) (.cells #[J1 sv] 9 (0, 0))))] 5 [0, 1, 2, 3, 4] (by kernel_rfl) (by kernel_rfl) (by first | exact (fun _ h => absurd h List.not_mem_nil) | simp [SubS] | (intro p hp; simp [hp])) ?_; refine KE (k := 0) rfl rfl rfl rfl rfl (Je (v := J8 i row) rfl (kn 0 rfl) rfl rfl) ?_; refine Jp (k := 1) rfl rfl rfl rfl rfl (fun _ hS => (Jf rfl)) ?_; refine KE (k := 2) rfl rfl rfl rfl rfl (Jd5 (b := Xt s i) rfl (J5 (k := 2) rfl) (Y3 s i).symm (Jpp s i _) rfl rfl rfl) ?_; refine QM (k := 3) rfl rfl rfl rfl rfl Jor hfull ?_; refine Wr (k := 4) (n := 1) (sz := 1) (vs := [_]) (zs := [_]) (r := [J1 sv]) rfl rfl rfl rfl rfl rfl rfl rfl rfl rfl rfl (by show (madeCells #[_] _).toList = _; rw [QJ]; exact rfl) rfl fun rv => ?_; refine Kx ?_; refine JM (L0 := [_, _]) (xs := Wq (wG s i)) (row := row) (n := i) (sz := 1) (b := 16) (news := [J1 sv]) (List.perm_append_comm (l₁ := [_, _])) rfl rfl rfl rfl (kn 0 rfl) rfl rfl rfl rfl rfl (by decide) rfl rfl rfl (by decide) hrow (by omega) (by omega) fun ra cap sp hra => ?_; refine Kn (k := 2) (cs' := #[J8 (i + 1) (some (ra, cap, sp))]) rfl rfl rfl rfl rfl rfl rfl rfl rfl rfl ?_; refine Jx 2 rfl ?_; refine Qi [2, 0] (L' := [_, _]) (by decide) rfl ?_; exact KD (i + 1, some (ra, cap, sp)) ⟨by omega, rfl, by simp only; rw [hsn]; exact hra⟩ (by simp only; rw [hsn]; rfl)
 rintro D i ⟨i2, row⟩ hfi ⟨him, he, hrow⟩
 simp only at he hrow
 obtain rfl : N = i := Eq.symm hfi
 obtain rfl := he
 refine gqo 4 rfl ?_; refine LR rfl (Je (v := J8 N row) rfl (kn 1 rfl) rfl rfl) ?_; refine Jx 4 rfl ?_; refine KX (k := 0) rfl rfl ?_; refine pT rfl rfl rfl fun w1 hs1 => ?_; exact ⟨⟨row, hrow⟩, rfl, hs1.weakL (.cons _ (.cons _ (List.sublist_append_left _ _)))⟩
 ·exact fun _ _ _ h => h.elim
theorem Jps {n : Nat} (hn : n ≤ 4611686018427387904) : Pure Tryz.prog 220 [.int .i64 (n : Int)].toArray (.int .i64 (((n + 31) / 32 : Nat) : Int)) := by
 refine Jl Tryz.func220 rfl rfl fun w => ?_; refine JD ?_; refine Jq 9 rfl ?_; refine J3 (show _ = Value.int .i64 ((n + 32 : Nat) : Int) from by rw [wrap_i64 (by omega) (by omega)]; congr 1 <;> omega) ?_
 refine VQ rfl ?_; refine J3 (show _ = Value.int .i64 ((n + 31 : Nat) : Int) from by rw [wrap_i64 (by omega) (by omega)]; congr 1 <;> omega) ?_; refine VQ rfl (J3 (show _ = Value.int .i64 (((n + 31) / 32 : Nat) : Int) from congrArg (Value.int .i64) (Va (by omega) (by decide) (by omega))) (Jx 4 rfl ?_)); refine pT rfl rfl rfl fun w1 hs1 => ?_; exact ⟨rfl, hs1.keep⟩
def Xu (x : Ty) : Bool := decide (x.k = 1) || decide (x.k = 2)
def WR (items : List Vl) (x : Ty) : BS := (items.map fun v => Vu v x).flatten
def WS (k n : Int) (ins : List Ty) (items : List Vl) (rs : List BS) : BS :=
 if k = 7 then Vj rs ins.length else if Xu (ins.getD 0 default) = true then Vj (Y2 (WR items (ins.getD 0 default))) ((n.toNat * (KW (ins.getD 0 default)).toNat + 31) / 32) else Vj rs n.toNat
mutual
def KT : Vl → Ty → BS
 | .mk a b c d bits _ items _ pick, t =>
  if t.k = 1 ∨ t.k = 2 then leW [a, b, c, d] 32 else if t.k = 4 then Yz (WS t.k t.n t.ins items (Ki items t.k pick t.ins 0)) items.length
  else if t.k = 5 then Vj (Y2 (WI bits)) ((t.n.toNat + 255) / 256) else if t.k = 6 then Yz (Vj (Y2 (WI bits)) ((t.n.toNat + 255) / 256)) bits.length
  else if t.k = 8 then Yz ((Ki items t.k pick t.ins 0).headD []) pick.toNat else WS t.k t.n t.ins items (Ki items t.k pick t.ins 0)
def Ki : List Vl → Int → Int → List Ty → Nat → List BS
 | [], _, _, _, _ => []
 | x :: xs, k, pick, ins, i => KT x (JX k pick ins i) :: Ki xs k pick ins (i + 1)
end
section
variable {a b c d : Nat} {bits : List Bool} {pb : Pl} {items : List Vl} {pi : Pl} {pick k n : Int} {p : Pl} {ins : List Ty}
theorem Xv : KT (.mk a b c d bits pb items pi pick) (.mk k n p ins) = if k = 1 ∨ k = 2 then leW [a, b, c, d] 32 else if k = 4 then Yz (WS k n ins items (Ki items k pick ins 0)) items.length
  else if k = 5 then Vj (Y2 (WI bits)) ((n.toNat + 255) / 256) else if k = 6 then Yz (Vj (Y2 (WI bits)) ((n.toNat + 255) / 256)) bits.length
  else if k = 8 then Yz ((Ki items k pick ins 0).headD []) pick.toNat else WS k n ins items (Ki items k pick ins 0) := by rw [KT]; rfl
end
theorem Wi : ∀ (l : List Vl) (k pick : Int) (ins : List Ty) (i : Nat), (Ki l k pick ins i).length = l.length
 | [], _, _, _, _ => by rw [Ki]; rfl
 | x :: xs, k, pick, ins, i => by rw [Ki, List.length_cons, Wi xs, List.length_cons]
theorem wH {k : Int} (h8 : k ≠ 8) (pick : Int) (ins : List Ty) : ∀ (l : List Vl) (i : Nat), Ki l k pick ins i = Ki l k 0 ins i
 | [], i => by rw [Ki, Ki]
 | x :: xs, i => by rw [Ki, Ki, wH h8 pick ins xs (i + 1), vI h8]
theorem Yi : ∀ {l : List Vl} {k pick : Int} {ins : List Ty} {i : Nat} {s : BS}, s ∈ Ki l k pick ins i → ∃ j x, l[j]? = some x ∧ s = KT x (JX k pick ins (i + j))
 | [], _, _, _, _, _, h => by rw [Ki] at h; cases h
 | y :: ys, k, pick, ins, i, s, h => by
  rw [Ki] at h
  rcases List.mem_cons.1 h with rfl | h
  ·exact ⟨0, y, rfl, rfl⟩
  ·obtain ⟨j, x, h1, h2⟩ := Yi h
   exact ⟨j + 1, x, h1, by rw [h2, show i + 1 + j = i + (j + 1) by omega]⟩
theorem wI (k : Int) (ins : List Ty) : ∀ {l : List Vl} {i j : Nat} {x : Vl}, l[j]? = some x → (Ki l k 0 ins i).take (j + 1) = (Ki l k 0 ins i).take j ++ [KT x (JX k 0 ins (i + j))]
 | [], _, _, _, h => by simp at h
 | y :: ys, i, 0, x, h => by
  simp at h; subst h; rw [Ki]; rfl
 | y :: ys, i, j + 1, x, h => by
  rw [List.getElem?_cons_succ] at h; rw [Ki, List.take_succ_cons, List.take_succ_cons, wI k ins h, show i + 1 + j = i + (j + 1) by omega]; rfl
theorem Juw {k n : Int} {p : Pl} {ins : List Ty} {d : Int} (hk : 1 ≤ k ∧ k ≤ 8) (ho : Qd k n ins.length = true) : chk (.mk k n p ins) d = if 6 ≤ d then 7 else XO ins (d + 1) := by
 rw [chk, if_neg (by omega), if_neg (by rw [ho]; simp)]
theorem zD : ∀ {ins : List Ty} {d : Int}, (∀ x ∈ ins, chk x d = 0) → XO ins d = 0
 | [], _, _ => by rw [XO]
 | x :: xs, d, h => by
  rw [XO, if_pos (h x List.mem_cons_self)]; exact zD fun y hy => h y (List.mem_cons_of_mem _ hy)
theorem Jlk (t : Ty) : ∀ d : Int, chk t (d + 1) = 0 → chk t d = 0 := by
 induction t using Ty.ind with
 | h k n p ins ih =>
  intro d h
  obtain ⟨hk, ho, h6, hi⟩ := Vg h
  rw [Juw hk ho, if_neg (by omega)]; exact zD fun x hx => ih x hx (d + 1) (hi x hx)
theorem Jav {t : Ty} : ∀ {d : Nat}, chk t (d : Int) = 0 → chk t 0 = 0
 | 0, h => h
 | d + 1, h => Jav (d := d) (Jlk t d (by rw [Int.natCast_add] at h; exact h))
theorem Zt {k n : Int} {p : Pl} {ins : List Ty} (h : chk (.mk k n p ins) 0 = 0) : ∀ x ∈ ins, chk x 0 = 0 := fun x hx => Jav (d := 1) ((Vg h).2.2.2 x hx)
theorem Zu {x : Ty} (hc : chk x 0 = 0) (hp : Xu x = true) : V4 x = true ∧ 1 ≤ KW x ∧ KW x ≤ 32 ∧ ∀ v : Vl, KL v x = 0 → ((Vu v x).length : Int) = KW x := by
 obtain ⟨k, n, p, ins⟩ := x
 obtain ⟨hk, hf, _, _⟩ := Vg hc
 have hk2 : k = 1 ∨ k = 2 := by
  unfold Xu at hp
  rw [Bool.or_eq_true] at hp; exact hp.imp of_decide_eq_true of_decide_eq_true
 unfold Qd at hf
 have hins : ins.length = 0 := by
  rcases hk2 with rfl | rfl
  all_goals generalize ins.length = m at hf ⊢
  all_goals simp at hf
  all_goals omega
 have hi : ins = [] := List.length_eq_zero_iff.1 hins
 subst hi
 rcases hk2 with rfl | rfl
 ·have hn : 1 ≤ n ∧ n ≤ 32 := by simp at hf; omega
  refine ⟨Yf.2 ⟨hc, by rw [Xh, qf]; rfl⟩, by rw [KW, if_pos rfl]; exact hn.1, by rw [KW, if_pos rfl]; exact hn.2, fun v _ => ?_⟩
  obtain ⟨a, b, c, d, bits, pb, items, pi, pick⟩ := v
  rw [Ws, if_pos rfl, KW, if_pos rfl, xO _ (by omega)]; omega
 ·refine ⟨Yf.2 ⟨hc, by rw [Xh, qf]; rfl⟩, by rw [KW, if_neg (by decide), if_pos rfl]; decide, by rw [KW, if_neg (by decide), if_pos rfl]; decide, fun v _ => ?_⟩
  obtain ⟨a, b, c, d, bits, pb, items, pi, pick⟩ := v
  rw [Ws, if_neg (by decide), if_pos rfl, KW, if_neg (by decide), if_pos rfl, xO _ (by decide)]
  rfl
theorem jL {x : Ty} {z : Nat} : ∀ {items : List Vl}, (∀ v ∈ items, (Vu v x).length = z) → (WR items x).length = items.length * z
 | [], _ => by unfold WR; simp
 | v :: l, h => by
  have ih := jL (items := l) fun y hy => h y (List.mem_cons_of_mem _ hy)
  unfold WR at ih ⊢
  rw [List.map_cons, List.flatten_cons, List.length_append, ih, h v List.mem_cons_self, List.length_cons, Nat.succ_mul, Nat.add_comm]
theorem wJ {a b c d : Nat} {bits : List Bool} {pb : Pl} {items : List Vl} {pi : Pl} {pick k n dp : Int} {p : Pl} {ins : List Ty} (hc : chk (.mk k n p ins) dp = 0) (h : KL (.mk a b c d bits pb items pi pick) (.mk k n p ins) = 0) :
  (k = 3 ∨ k = 4 → 1 ≤ n ∧ n ≤ 512 ∧ (items.length : Int) ≤ n ∧ ins.length = 1) ∧ (k = 5 ∨ k = 6 → 1 ≤ n ∧ n ≤ 512 ∧ (bits.length : Int) ≤ n) ∧ (k = 7 → items.length = ins.length ∧ 1 ≤ ins.length ∧ ins.length ≤ 16) := by
 obtain ⟨h1, h2, _⟩ := WW h
 obtain ⟨hk, hf, _, _⟩ := Vg hc
 rw [V0 k n ins.length a b c d bits pb items pi pick _ rfl] at h2; simp only [Vk] at h2
 unfold Qd at hf
 have h9 : k = 1 ∨ k = 2 ∨ k = 3 ∨ k = 4 ∨ k = 5 ∨ k = 6 ∨ k = 7 ∨ k = 8 := by omega
 rcases h9 with rfl | rfl | rfl | rfl | rfl | rfl | rfl | rfl
 all_goals generalize items.length = I at *
 all_goals generalize bits.length = J at *
 all_goals generalize ins.length = K at *
 all_goals simp at h1 h2 hf ⊢
 all_goals omega
theorem qu {bits : List Bool} {n : Int} (h : (bits.length : Int) ≤ n) : (Y2 (WI bits)).length ≤ (n.toNat + 255) / 256 := by
 rw [Zd]
 unfold Jau
 rw [Zk]; omega
theorem WX (v : Vl) : ∀ (t : Ty) (dp : Nat), chk t (dp : Int) = 0 → KL v t = 0 → (KT v t).length = 32 := by
 induction v using Vl.ind with
 | h a b c d bits pb items pi pick ih =>
 intro t dp hck hfit
 obtain ⟨k, n, p, ins⟩ := t
 obtain ⟨hk8, ho, h6, hci⟩ := Vg hck
 obtain ⟨hf1, hf2, hf3⟩ := WW hfit
 obtain ⟨q1, q2, q3⟩ := wJ hck hfit
 have hxl : ∀ i, i < items.length → XC k pick i < ins.length := fun i hi => qr (v := .mk a b c d bits pb items pi pick) hck hf2 hi
 have hrs : ∀ s ∈ Ki items k pick ins 0, s.length = 32 := fun s hs => by
  obtain ⟨j, x, h1, rfl⟩ := Yi hs
  have hlt := (List.getElem?_eq_some_iff.1 h1).1
  rw [Nat.zero_add]
  have hty := QV (hxl j hlt)
  exact ih x (List.mem_of_getElem? h1) _ (dp + 1) (hci _ hty.2) (by have := Xs hf3 h1; rwa [Nat.zero_add] at this)
 have hrl := Wi items k pick ins 0
 have hrow : k = 3 ∨ k = 4 ∨ k = 7 → (WS k n ins items (Ki items k pick ins 0)).length = 32 := fun hk => by
  unfold WS
  split
  ·rename_i h7
   exact VJ (by have := q3 h7; omega) hrs
  ·rename_i h7
   have := q1 (by omega)
   split
   ·rename_i hp
    have hin0 : ins.getD 0 default ∈ ins := by
     match ins, this.2.2.2 with
     | [x], _ => exact List.mem_cons_self
    have hc0 : chk (ins.getD 0 default) 0 = 0 := Zt (Jav hck) _ hin0
    obtain ⟨f1, f2, f3, f4⟩ := Zu hc0 hp
    refine VJ ?_ (Zs _); rw [Zd]
    unfold Jau
    have hz : ∀ v ∈ items, (Vu v (ins.getD 0 default)).length = (KW (ins.getD 0 default)).toNat := fun v hv => by
     obtain ⟨j, hj⟩ := List.getElem?_of_mem hv
     have hg := Xs hf3 hj
     rw [Nat.zero_add] at hg
     have he : JX k pick ins j = ins.getD 0 default := by unfold JX XC; rw [if_neg h7, if_neg (by omega)]
     rw [he] at hg
     have := f4 v hg
     omega
    rw [jL hz]
    have hm : items.length * (KW (ins.getD 0 default)).toNat ≤ n.toNat * (KW (ins.getD 0 default)).toNat := Nat.mul_le_mul_right _ (by omega)
    omega
   ·exact VJ (by omega) hrs
 rw [Xv]
 split
 ·exact xO _ (Nat.le_refl _)
 ·split
  ·exact Zl _
  ·split
   ·rename_i h5
    exact VJ (qu (q2 (by omega)).2.2) (Zs _)
   ·split
    ·exact Zl _
    ·split
     ·exact Zl _
     ·exact hrow (by omega)
def yM (s : List UInt8) (head : Nat) : List Ty → Nat → Nat → Bool → Option (List Nat)
  | [], _, _, op => if op = false ∧ head ≠ s.length then none else some [s.length]
  | x :: xs, at_, last, op => if V4 x then yM s head xs (at_ + (KW x).toNat) last op else
      if (op = false ∧ leV ((s.drop at_).take 4) ≠ head) ∨ leV ((s.drop at_).take 4) < last ∨ s.length < leV ((s.drop at_).take 4) then none
      else (yM s head xs (at_ + 4) (leV ((s.drop at_).take 4)) true).map fun r => leV ((s.drop at_).take 4) :: r
mutual
def ZF : Vl → Vl
 | .mk a b c d bits _ items _ pick => .mk a b c d bits none (vJ items) none pick
def vJ : List Vl → List Vl
 | [] => []
 | x :: xs => ZF x :: vJ xs
end
theorem WT : ∀ l : List Vl, vJ l = l.map ZF
 | [] => by rw [vJ]; rfl
 | x :: xs => by rw [vJ, WT xs]; rfl
def v0L : Vl := .mk 0 0 0 0 [] none [] none 0
def KY (l : List Vl) (pick : Int) : Vl := .mk 0 0 0 0 [] none l none pick
def wK (k n : Int) (ins : List Ty) (s : List UInt8) : Nat × Int :=
 if k = 7 then (ins.length, 0) else if k = 3 then (n.toNat, 0) else if s = [] then (0, 0)
 else if V4 (JX k 0 ins 0) then (if s.length % (KW (JX k 0 ins 0)).toNat ≠ 0 then (0, 2) else if n < ((s.length / (KW (JX k 0 ins 0)).toNat : Nat) : Int) then (0, 5) else (s.length / (KW (JX k 0 ins 0)).toNat, 0))
 else if s.length < 4 ∨ leV (s.take 4) % 4 ≠ 0 ∨ leV (s.take 4) = 0 then (0, 2) else if n < ((leV (s.take 4) / 4 : Nat) : Int) then (0, 5) else (leV (s.take 4) / 4, 0)
abbrev Gf : Type := List UInt8 → Vl × Int
def g0 : Gf := fun _ => (v0L, 0)
section
variable {a b c d : Nat} {bits : List Bool} {pb : Pl} {items : List Vl} {pi : Pl} {pick k n : Int} {p : Pl} {ins : List Ty}
theorem Ji0 (hc : chk (.mk k n p ins) 0 = 0) (h : KL (.mk a b c d bits pb items pi pick) (.mk k n p ins) = 0) (h8 : k ≠ 8) {j : Nat} {x : Vl} (hx : items[j]? = some x) : ins[XC k 0 j]? = some (JX k 0 ins j) ∧ JX k 0 ins j ∈ ins ∧ chk (JX k 0 ins j) 0 = 0 ∧ KL x (JX k 0 ins j) = 0 := by
 obtain ⟨_, h2, h3⟩ := WW h
 have hlt := (List.getElem?_eq_some_iff.1 hx).1
 have hin := qr (v := .mk a b c d bits pb items pi pick) hc h2 hlt
 have hg := Xs h3 hx
 rw [Nat.zero_add, vI h8] at hg
 have e : XC k (Vl.pick (.mk a b c d bits pb items pi pick)) j = XC k 0 j := by unfold XC; rw [if_neg h8, if_neg h8]
 rw [e] at hin
 have hty := QV hin
 exact ⟨hty.1, hty.2, Zt hc _ hty.2, hg⟩
end
theorem WF (a b c d : Nat) (bits : List Bool) (pb : Pl) (items : List Vl) (pi : Pl) (pick : Int) : ZF (.mk a b c d bits pb items pi pick) = .mk a b c d bits none (vJ items) none pick := by rw [ZF]
theorem Ji1 (k pick : Int) (ins : List Ty) : ∀ (l : List Vl), (∀ x ∈ l, ∀ t, Vu (ZF x) t = Vu x t) → ∀ i : Nat, Ql (vJ l) k pick ins i = Ql l k pick ins i
 | [], _, i => by rw [vJ]
 | x :: xs, h, i => by rw [vJ, Ql, Ql, h x List.mem_cons_self, Ji1 k pick ins xs (fun y hy => h y (List.mem_cons_of_mem _ hy))]
theorem Jyc (v : Vl) : ∀ t, Vu (ZF v) t = Vu v t := by
 induction v using Vl.ind with
 | h a b c d bits pb items pi pick ih =>
 intro t
 obtain ⟨k, n, p, ins⟩ := t
 rw [WF, Ws, Ws, Ji1 k pick ins items ih]
theorem Jd6 (k pick : Int) (ins : List Ty) : ∀ (l : List Vl), (∀ x ∈ l, ∀ t, KT (ZF x) t = KT x t) → ∀ i : Nat, Ki (vJ l) k pick ins i = Ki l k pick ins i
 | [], _, i => by rw [vJ]
 | x :: xs, h, i => by rw [vJ, Ki, Ki, h x List.mem_cons_self, Jd6 k pick ins xs (fun y hy => h y (List.mem_cons_of_mem _ hy))]
theorem Jux (x : Ty) (l : List Vl) : WR (vJ l) x = WR l x := by
 unfold WR
 rw [WT, List.map_map]
 congr 1
 exact List.map_congr_left fun v _ => Jyc v x
theorem Juy (v : Vl) : ∀ t, KT (ZF v) t = KT v t := by
 induction v using Vl.ind with
 | h a b c d bits pb items pi pick ih =>
 intro t
 obtain ⟨k, n, p, ins⟩ := t
 have hl : (vJ items).length = items.length := by rw [WT, List.length_map]
 rw [WF, Xv, Xv, Jd6 k pick ins items ih, hl]
 unfold WS
 rw [Jux]
theorem chkL_mem : ∀ {ins : List Ty} {d : Int}, XO ins d = 0 → ∀ x ∈ ins, chk x d = 0
 | [], _, _, x, hx => by cases hx
 | y :: ys, d, h, x, hx => by
  rw [XO] at h
  by_cases h1 : chk y d = 0
  ·rw [if_pos h1] at h
   rcases List.mem_cons.1 hx with rfl | hx
   ·exact h1
   ·exact chkL_mem h x hx
  ·rw [if_neg h1] at h; exact absurd h h1
structure VR (v : Vl) : Type where
  x : Vl
  L : Jm
  ok : x.In L
  er : ZF x = v
theorem u0 : VV 0 := by unfold VV; omega
theorem i0 : qH 0 := by unfold qH; omega
def wM : List Ty → Nat → List Nat → List (Ty × Nat × Nat)
 | [], _, _ => []
 | x :: xs, a, os => if V4 x then (x, a, a + (KW x).toNat) :: wM xs (a + (KW x).toNat) os else (x, os.getD 0 0, os.getD 1 0) :: wM xs (a + 4) os.tail
theorem zE : ∀ (ts : List Ty) (a : Nat) (os : List Nat), (wM ts a os).length = ts.length
 | [], _, _ => rfl
 | x :: xs, a, os => by rw [wM]; split <;> rw [List.length_cons, zE xs, List.length_cons]
def cV : List Ty → Nat
 | [] => 0
 | x :: xs => if V4 x then cV xs else cV xs + 1
def Jpt : List Ty → Int
 | [] => -1
 | x :: xs => if 0 ≤ Jpt xs then Jpt xs + 1 else if V4 x then -1 else 0
def Jyd (k n : Int) (ins : List Ty) (s : BS) : List Nat × Int :=
 if (wK k n ins s).2 ≠ 0 then ([], (wK k n ins s).2)
 else if (s.length : Int) < Vm (Xq k ins (wK k n ins s).1) then ([], 2)
 else match yM s (Vm (Xq k ins (wK k n ins s).1)).toNat (Xq k ins (wK k n ins s).1) 0 (Vm (Xq k ins (wK k n ins s).1)).toNat false with
  | none => ([], 2)
  | some os => (os, 0)
theorem row_some {sz n : Nat} {xs : List Value} {row : QD} (h : rowOk sz n xs row) (h0 : 0 < n) : ∃ r cap sp, row = some (r, cap, sp) := by
 cases row with
 | none => have := h.1; omega
 | some q => obtain ⟨r, cap, sp⟩ := q; exact ⟨r, cap, sp, rfl⟩
def psI (s : BS) (TY : List Ty) (i : Nat) (pre : List Nat) : List (Ty × Nat × Nat) := wM (TY.take i) 0 (pre ++ [s.length])
structure PInv (s : BS) (H : Nat) (TY : List Ty) (i A la : Nat) (op : Int) (pre : List Nat) : Prop where
  le : i ≤ TY.length
  cv : pre.length = cV (TY.take i)
  opv : op = Jpt (TY.take i)
  at_ : (A : Int) = Vm (TY.take i)
  off : yM s H TY 0 H false = (yM s H (TY.drop i) A la (decide (0 ≤ op))).map (pre ++ ·)
section
variable {s : BS} {H : Nat} {TY : List Ty} {i A la : Nat} {op : Int} {pre : List Nat} {x : Ty}
theorem PInv.start : PInv s H TY 0 0 H (-1) [] := ⟨Nat.zero_le _, rfl, rfl, rfl, by rw [List.drop_zero, show decide ((0 : Int) ≤ -1) = false from rfl]; cases yM s H TY 0 H false <;> rfl⟩
theorem ZN {α : Type} {l : List α} {i : Nat} {x : α} (h : l[i]? = some x) : l.take (i + 1) = l.take i ++ [x] := by rw [List.take_add_one, h]; rfl
theorem Jgg {α : Type} {l : List α} {i : Nat} {x : α} (h : l[i]? = some x) : l.drop i = x :: l.drop (i + 1) := by
 obtain ⟨h1, rfl⟩ := List.getElem?_eq_some_iff.1 h
 exact List.drop_eq_getElem_cons h1
theorem PInv.len (h : PInv s H TY i A la op pre) : (psI s TY i pre).length = i := by unfold psI; rw [zE, List.length_take, Nat.min_eq_left h.le]
theorem PInv.bad (h : PInv s H TY i A la op pre) (hx : TY[i]? = some x) (hf : V4 x = false) {v : Nat} (hv : v = leV ((s.drop A).take 4)) (hb : (¬ 0 ≤ op ∧ v ≠ H) ∨ v < la ∨ s.length < v) : yM s H TY 0 H false = none := by
 subst hv
 rw [h.off, Jgg hx, yM, if_neg (by rw [hf]; decide), if_pos (by
  rcases hb with ⟨h1, h2⟩ | h1
  ·exact .inl ⟨by simp [h1], h2⟩
  ·exact .inr h1)]
 rfl
theorem PInv.done (h : PInv s H TY TY.length A la op pre) : psI s TY TY.length pre = wM TY 0 (pre ++ [s.length]) ∧ yM s H TY 0 H false = if ¬ 0 ≤ op ∧ H ≠ s.length then none else some (pre ++ [s.length]) := by
 refine ⟨by unfold psI; rw [List.take_length], ?_⟩; rw [h.off, List.drop_length, yM]
 by_cases hc : ¬ 0 ≤ op ∧ H ≠ s.length
 ·rw [if_pos hc, if_pos ⟨by simp [hc.1], hc.2⟩]; rfl
 ·rw [if_neg hc, if_neg (by rintro ⟨g1, g2⟩; exact hc ⟨by simpa using g1, g2⟩)]; rfl
end
abbrev psT (k n : Int) (ins : List Ty) (s : BS) : List (Ty × Nat × Nat) := wM (Xq k ins (wK k n ins s).1) 0 (Jyd k n ins s).1
open Go.Proofs (Enters enters_of)
section
variable {k n : Int} {p : Pl} {ins : List Ty} {s : BS}
variable (hnf : ¬ (V4 (.mk k n p ins) = true ∧ (s.length : Int) ≠ KW (.mk k n p ins)))
include hnf
end
theorem Jd7 {vs : List Vl} {E Lr : Jm} {p : Pl} {pick : Int} (hl : vs.length ≤ 9223372036854775807) (hs : Seg Lr vs.length (QE vs) p) (hE : ∀ x ∈ vs, x.In E) (hp : qH pick) : Vl.In (Lr ++ E) (.mk 0 0 0 0 [] none vs p pick) :=
 .mk u0 u0 u0 u0 (by decide) rfl hl (hs.mono fun q hq => List.mem_append_left _ hq) hp fun x hx => (hE x hx).mono fun q hq => List.mem_append_right _ hq
theorem Jd8 {c : Cx} {d : List Deferred} {l : Kw} {L L' : Jm} {X : XP} {K : Act → World → Prop} (hp : L.Perm L') (h : HQ c d l L' X K) : HQ c d l L X K := fun a w hf hs => h a w hf (hs.perm hp)
mutual
def Y4 : Ty → Ty
 | .mk k n _ ins => .mk k n none (WU ins)
def WU : List Ty → List Ty
 | [] => []
 | x :: xs => Y4 x :: WU xs
end
theorem wO : ∀ l : List Ty, WU l = l.map Y4
 | [] => by rw [WU]; rfl
 | x :: xs => by rw [WU, wO xs]; rfl
theorem wP (l : List Ty) : (WU l).length = l.length := by rw [wO, List.length_map]
structure TR (t : Ty) : Type where
  x : Ty
  L : Jm
  ok : x.In L
  er : Y4 x = t
def byT : Ty := .mk 1 1 none []
def X6 (k n : Int) : Ty := .mk k n none [byT]
def Jaw : Ty := .mk 7 0 none [X6 3 32, X6 3 32]
def acT : Ty := .mk 7 0 none [X6 3 20, .mk 1 8 none [], .mk 1 32 none [], X6 4 512, .mk 4 16 none [Jaw]]
def qv : Ty := .mk 4 32 none [acT]
theorem Jpu {k n : Int} (hk : qH k) (hn : qH n) : PureT (α := Nat) Tryz.prog 101 [.int .i64 k, .int .i64 n].toArray (fun r => .agg #[.int .i64 k, .int .i64 n, .slice (some ⟨r, 0, none⟩) 1 1]) [] (fun r => [(r, .cells #[.int .i64 1, .int .i64 1, .slice none 0 0] 84 (0, 0))]) [] := by
 refine Jw Tryz.func101 rfl rfl fun w => ?_; refine JD ?_; refine Jq 2 rfl ?_; refine LN rfl fun r1 => ?_; refine JJ 6 rfl ?_; refine LR rfl (Jt (r := [_, _, _]) rfl rfl) ?_; refine J4 (vs := [_]) (zs := [_, _, _]) (r := [_, _, _]) rfl rfl rfl rfl rfl rfl rfl rfl rfl (by rw [JO]; exact rfl) rfl fun r2 => ?_; refine LR rfl (Jt (r := [_, _, _]) rfl rfl) ?_
 refine LT 1 rfl rfl ?_; refine Jx 3 rfl ?_; refine Jg rfl rfl (.cons (Jr (vs := [_, _, _]) rfl (kn 1 rfl) rfl rfl) .nil) (fun w1 hs1 => ?_); exact ⟨r2, rfl, hs1.weakL ((List.cons_sublist_cons).2 (List.nil_sublist _))⟩
abbrev Jll (e : Nat) : Obj := .cells #[.int .i64 1, .int .i64 1, .slice none 0 0] e (0, 0)
def Jlm (k n : Int) (x : Nat) : Ty := .mk k n (some (⟨x, 0, none⟩, 1)) [byT]
def J0j (x y r : Nat) : Ty := .mk 7 0 (some (⟨r, 0, none⟩, 2)) [Jlm 3 32 x, Jlm 3 32 y]
def acX (x y x2 x3 r s a : Nat) : Ty := .mk 7 0 (some (⟨a, 0, none⟩, 5)) [Jlm 3 20 x2, .mk 1 8 none [], .mk 1 32 none [], Jlm 4 512 x3, .mk 4 16 (some (⟨s, 0, none⟩, 1)) [J0j x y r]]
def Jpv (x y x2 x3 r s a z : Nat) : Ty := .mk 4 32 (some (⟨z, 0, none⟩, 1)) [acX x y x2 x3 r s a]
theorem Jd9 {R : Jm} {k n : Int} {ins : List Ty} {r m e : Nat} {all : Array Value} (hk : qH k) (hn : qH n) (hm : (r, Obj.cells all e (0, 0)) ∈ R) (ha : all.toList = Jcj ins) (hl : ins.length = m) (hl2 : m ≤ 100) (hi : ∀ x ∈ ins, x.In R) : Ty.In R (.mk k n (some (⟨r, 0, none⟩, m)) ins) :=
 .mk hk hn (by omega) ⟨Nat.le_of_eq hl, fun _ => ⟨rfl, all, e, (0, 0), hm, by rw [List.drop_zero, ha, List.take_length]⟩⟩ hi
theorem Jax {R : Jm} {k n : Int} (hk : qH k) (hn : qH n) : Ty.In R (.mk k n none []) := .mk hk hn (by decide) rfl (fun x hx => nomatch hx)
theorem vK {R : Jm} {k n : Int} {x e : Nat} (hk : qH k) (hn : qH n) (h : (x, Jll e) ∈ R) : (Jlm k n x).In R :=
 Jd9 hk hn h rfl rfl (by decide) fun y hy => by rw [List.mem_singleton.1 hy]; exact Jax (by unfold qH; omega) (by unfold qH; omega)
theorem Yj {n : Int} (h0 : 0 ≤ n) (h : n ≤ 1000) : qH n := by unfold qH; omega
theorem Ji2 {R : Jm} {x y x2 x3 r s a z e : Nat} (h1 : (x, Jll e) ∈ R) (h2 : (y, Jll e) ∈ R) (h3 : (x2, Jll e) ∈ R) (h4 : (x3, Jll e) ∈ R) (h5 : (r, Obj.cells #[.int .i64 3, .int .i64 32, .slice (some ⟨x, 0, none⟩) 1 1, .int .i64 3, .int .i64 32, .slice (some ⟨y, 0, none⟩) 1 1] e (0, 0)) ∈ R)
  (h6 : (s, Obj.cells #[.int .i64 7, .int .i64 0, .slice (some ⟨r, 0, none⟩) 2 2] e (0, 0)) ∈ R)
  (h7 : (a, Obj.cells #[.int .i64 3, .int .i64 20, .slice (some ⟨x2, 0, none⟩) 1 1, .int .i64 1, .int .i64 8, .slice none 0 0, .int .i64 1, .int .i64 32, .slice none 0 0, .int .i64 4, .int .i64 512, .slice (some ⟨x3, 0, none⟩) 1 1, .int .i64 4, .int .i64 16, .slice (some ⟨s, 0, none⟩) 1 1] e (0, 0)) ∈ R)
  (h8 : (z, Obj.cells #[.int .i64 7, .int .i64 0, .slice (some ⟨a, 0, none⟩) 5 5] e (0, 0)) ∈ R) : (Jpv x y x2 x3 r s a z).In R := by
 refine Jd9 (Yj (by decide) (by decide)) (Yj (by decide) (by decide)) h8 rfl rfl (by decide) fun q hq => ?_; rw [List.mem_singleton.1 hq]; refine Jd9 (Yj (by decide) (by decide)) (Yj (by decide) (by decide)) h7 rfl rfl (by decide) fun q hq => ?_; simp only [List.mem_cons, List.not_mem_nil, or_false] at hq
 rcases hq with rfl | rfl | rfl | rfl | rfl
 ·exact vK (Yj (by decide) (by decide)) (Yj (by decide) (by decide)) h3
 ·exact Jax (Yj (by decide) (by decide)) (Yj (by decide) (by decide))
 ·exact Jax (Yj (by decide) (by decide)) (Yj (by decide) (by decide))
 ·exact vK (Yj (by decide) (by decide)) (Yj (by decide) (by decide)) h4
 ·refine Jd9 (Yj (by decide) (by decide)) (Yj (by decide) (by decide)) h6 rfl rfl (by decide) fun q hq => ?_
  rw [List.mem_singleton.1 hq]; refine Jd9 (Yj (by decide) (by decide)) (Yj (by decide) (by decide)) h5 rfl rfl (by decide) fun q hq => ?_; simp only [List.mem_cons, List.not_mem_nil, or_false] at hq
  rcases hq with rfl | rfl
  ·exact vK (Yj (by decide) (by decide)) (Yj (by decide) (by decide)) h1
  ·exact vK (Yj (by decide) (by decide)) (Yj (by decide) (by decide)) h2
theorem Ji3 (x y x2 x3 r s a z : Nat) : Y4 (Jpv x y x2 x3 r s a z) = qv := by
 simp only [Jpv, acX, J0j, Jlm, byT, Y4, WU, qv, acT, Jaw, X6]
theorem Juz : PureT (α := TR qv) Tryz.prog 46 #[] (fun y => y.x.val) [] (fun y => y.L) [] := by
 refine Jw Tryz.func46 rfl rfl fun w => ?_; refine JD ?_; refine Jq 2 rfl ?_; refine LN rfl fun r1 => ?_; refine JJ 4 rfl ?_; refine Ke rfl rfl rfl Jol (Jpu (by unfold qH; omega) (by unfold qH; omega)) oN fun x1 => ?_; refine LN rfl fun r2 => ?_
 refine LT 0 rfl rfl ?_; refine Xf 6 [0, 0] rfl rfl ?_; refine J4 (vs := [_, _]) (zs := [_, _, _, _, _, _]) (r := [_, _, _, _, _, _]) rfl rfl rfl rfl rfl rfl rfl rfl rfl (by rw [JO]; exact rfl) rfl fun r3 => ?_; refine LR rfl (Jt (r := [_, _, _]) rfl rfl) ?_; refine LN rfl fun r4 => ?_
 refine LT 0 rfl rfl ?_; refine JI 3 rfl ?_
 refine JT [(r4, .cells #[.int .i64 7, .int .i64 0, .slice (some ⟨r3, 0, none⟩) 2 2] 84 (0, 0))] [(0, .grow (Qe 0 (fun r => .agg #[.int .i64 3, .int .i64 20, .slice (some ⟨r, 0, none⟩) 1 1]) (fun r => [(r, .cells #[.int .i64 1, .int .i64 1, .slice none 0 0] 84 (0, 0))]))), (1, .pure), (2, .pure), (3, .grow (Qe 0 (fun r => .agg #[.int .i64 4, .int .i64 512, .slice (some ⟨r, 0, none⟩) 1 1]) (fun r => [(r, .cells #[.int .i64 1, .int .i64 1, .slice none 0 0] 84 (0, 0))]))), (4, .pure), (5, .grow (VI (slV 1) (.cells #[.int .i64 7, .int .i64 0, .slice (some ⟨r3, 0, none⟩) 2 2] 84 (0, 0)))), (6, .pure), (7, .dep [9, 10, 11, 12, 15] (Jcm 5 84)), (8, .pure), (9, .grow (VI vV (.cells #[.int .i64 0, .int .i64 0, .slice none 0 0] 84 (0, 0))))] 10 [1, 2, 4, 5, 6, 0, 3, 7, 8, 9] (by kernel_rfl) (by kernel_rfl) (by first | exact (fun _ h => absurd h List.not_mem_nil) | simp [SubS] | (intro p hp; simp [hp])) ?_; refine Jp (k := 1) rfl rfl rfl rfl rfl (fun _ hS => (Jt (r := [_, _, _]) rfl rfl)) ?_; refine Jp (k := 2) rfl rfl rfl rfl rfl (fun _ hS => (Jt (r := [_, _, _]) rfl rfl)) ?_; refine Jp (k := 4) rfl rfl rfl rfl rfl (fun _ hS => (Js (vs := [_, _, _]) rfl (.inl (hS _ (Ju (n := 0) rfl))) rfl rfl rfl rfl)) ?_; refine Wr (k := 5) (n := 1) (sz := 3) (vs := [_]) (zs := [_, _, _]) (r := [.int .i64 7, .int .i64 0, .slice (some ⟨r3, 0, none⟩) 2 2]) rfl rfl rfl rfl rfl rfl rfl rfl rfl rfl rfl (by rw [JO]; exact rfl) rfl fun s1 => ?_; refine Jp (k := 6) rfl rfl rfl rfl rfl (fun _ hS => (Jt (r := [_, _, _]) rfl rfl)) ?_; refine KO (k := 0) rfl rfl rfl rfl rfl Jol (Jpu (by unfold qH; omega) (by unfold qH; omega)) oN fun x2 => ?_; refine KO (k := 3) rfl rfl rfl rfl rfl Jol (Jpu (by unfold qH; omega) (by unfold qH; omega)) oN fun x3 => ?_; refine Vh (k := 7) (dv := [_, _, _, _, _]) (n := 5) (sz := 3) (vs := [_, _, _, _, _]) (zs := [_, _, _, _, _, _, _, _, _, _, _, _, _, _, _]) (r := [.int .i64 3, .int .i64 20, .slice (some ⟨x2, 0, none⟩) 1 1, .int .i64 1, .int .i64 8, .slice none 0 0, .int .i64 1, .int .i64 32, .slice none 0 0, .int .i64 4, .int .i64 512, .slice (some ⟨x3, 0, none⟩) 1 1, .int .i64 4, .int .i64 16, .slice (some ⟨s1, 0, none⟩) 1 1]) rfl rfl rfl rfl rfl rfl rfl rfl rfl rfl rfl rfl rfl (by rw [JO]; exact rfl) rfl fun s2 => ?_; refine Jp (k := 8) rfl rfl rfl rfl rfl (fun _ hS => (Jt (r := [_, _, _]) rfl rfl)) ?_; refine Wx (k := 9) (cs := #[_, _, _]) rfl rfl rfl rfl rfl rfl fun r5 => ?_; refine Kx ?_
 refine LT 0 rfl rfl ?_; refine JJ 4 rfl ?_; refine LR rfl (Js (vs := [_, _, _]) rfl (kn 0 rfl) rfl rfl rfl rfl) ?_; refine J4 (vs := [_]) (zs := [_, _, _]) (r := [_, _, _]) rfl rfl rfl rfl rfl rfl rfl rfl rfl (by rw [JO]; exact rfl) rfl fun r6 => ?_; refine LR rfl (Jt (r := [_, _, _]) rfl rfl) ?_
 refine LT 10 rfl rfl ?_; refine Jx 3 rfl ?_; refine Jg rfl rfl (.cons (Jr (vs := [_, _, _]) rfl (kn 10 rfl) rfl rfl) .nil) (fun w1 hs1 => ?_); exact ⟨⟨Jpv x1 x1 x2 x3 r3 s1 s2 r6, _, Ji2 (e := 84) (by simp) (by simp) (by simp) (by simp) (by simp) (by simp) (by simp) (by simp), Ji3 ..⟩, rfl, hs1⟩
def ZW (b : UInt8) : Vl := .mk b.toNat 0 0 0 [] none [] none 0
def yN (s : BS) : Vl := KY (s.map ZW) 0
theorem J0k (b : UInt8) : (ZW b).cells = [uV b.toNat, uV 0, uV 0, uV 0, .slice none 0 0, .slice none 0 0, .int .i64 0] := rfl
theorem Jw1 (b : UInt8) : Vl.In [] (ZW b) := .mk (by have := YL b; unfold VV; omega) u0 u0 u0 (by decide) rfl (by decide) rfl i0 (fun x hx => nomatch hx)
theorem Jw2 (s : BS) (p : Pl) : ZF (.mk 0 0 0 0 [] none (s.map ZW) p 0) = yN s := by
 rw [WF, WT, List.map_map, show (ZF ∘ ZW) = ZW from funext fun b => by show ZF (ZW b) = ZW b; unfold ZW; rw [WF, vJ]]; rfl
theorem Ju0 {s : BS} {i : Nat} (h : i < s.length) : QE ((s.take i).map ZW) ++ [uV (s.getD i 0).toNat, uV 0, uV 0, uV 0, .slice none 0 0, .slice none 0 0, .int .i64 0] = QE ((s.take (i + 1)).map ZW) := by
 have h1 : s[i]? = some (s.getD i 0) := by rw [List.getD_eq_getElem?_getD, List.getElem?_eq_getElem h]; rfl
 rw [ZN h1, List.map_append]
 unfold QE
 rw [List.flatMap_append]; simp [J0k]
theorem Jay {s : BS} (hl : s.length ≤ 100000) : PureT (α := VR (yN s)) Tryz.prog 102 [J1 s].toArray (fun y => y.x.val) [] (fun y => y.L) [] := by
 refine Jw Tryz.func102 rfl rfl fun w => ?_; refine JD ?_; refine Jq 2 rfl ?_; refine LN rfl fun r1 => ?_; refine JJ 4 rfl ?_; refine LN rfl fun r2 => ?_; refine JJ 6 rfl ?_; refine LR rfl (KK rfl rfl) ?_; refine JI 4 rfl ?_; refine Jy (σ := Nat × QD) (fun q => q.1 ≤ s.length ∧ rowOk 7 q.1 (QE ((s.take q.1).map ZW)) q.2) (fun q => [(0, J1 s), (2, XS r1), (3, XS r2), (6, .int .i64 (s.length : Int)), (7, .int .i64 (q.1 : Int))]) (fun q => (r2, .cells #[.int .u64 0, .int .u64 0, .int .u64 0, .int .u64 0, .slice none 0 0, J8 q.1 q.2, .int .i64 0] 89 (0, 0)) :: (r1, .cells #[.int .u64 0, .int .u64 0, .int .u64 0, .int .u64 0, .slice none 0 0, .slice none 0 0, .int .i64 0] 89 (0, 0)) :: JH 89 (QE ((s.take q.1).map ZW)) q.2) (fun _ _ _ => True) (fun q => s.length - q.1) (0, none) ⟨Nat.zero_le _, rfl, rfl⟩ (lK rfl) (List.Sublist.refl _) (fun _ _ h => h) ?_; rintro ⟨i, row⟩ ⟨hi1, hrow⟩; simp only at hi1 hrow; change HC _ _ [(0, J1 s), (2, XS r1), (3, XS r2), (6, .int .i64 (s.length : Int)), (7, .int .i64 (i : Int))] ((r2, .cells #[.int .u64 0, .int .u64 0, .int .u64 0, .int .u64 0, .slice none 0 0, J8 i row, .int .i64 0] 89 (0, 0)) :: (r1, .cells #[.int .u64 0, .int .u64 0, .int .u64 0, .int .u64 0, .slice none 0 0, .slice none 0 0, .int .i64 0] 89 (0, 0)) :: JH 89 (QE ((s.take i).map ZW)) row) _ _ _; refine JK 6 rfl ?_; refine cD (fun g => ?_) fun g => ?_
 ·refine JK 10 rfl ?_
  refine JT [(r2, .cells #[.int .u64 0, .int .u64 0, .int .u64 0, .int .u64 0, .slice none 0 0, J8 i row, .int .i64 0] 89 (0, 0))] [(0, .pure), (1, .pure), (2, .pure), (3, .pure), (4, .pure), (5, .pure), (6, .pure), (7, .pure), (8, .grow (VI (slV 1) (.cells #[uV (s.getD i 0).toNat, uV 0, uV 0, uV 0, .slice none 0 0, .slice none 0 0, .int .i64 0] 89 (0, 0))))] 9 [0, 1, 2, 3, 4, 5, 6, 7, 8] (by kernel_rfl) (by kernel_rfl) (by first | exact (fun _ h => absurd h List.not_mem_nil) | simp [SubS] | (intro p hp; simp [hp])) ?_
  refine Jp (k := 0) rfl rfl rfl rfl rfl (fun _ hS => (JA rfl rfl rfl)) ?_; refine Jp (k := 1) rfl rfl rfl rfl rfl (fun _ hS => (Je rfl (.inl (hS _ (Ju (n := 0) rfl))) rfl rfl)) ?_; refine Jp (k := 2) rfl rfl rfl rfl rfl (fun _ hS => (Jf rfl)) ?_; refine Jp (k := 3) rfl rfl rfl rfl rfl (fun _ hS => (Jf rfl)) ?_; refine Jp (k := 4) rfl rfl rfl rfl rfl (fun _ _ => Jkl (j := i) rfl rfl rfl rfl (by omega) rfl) ?_; refine Jp (k := 5) rfl rfl rfl rfl rfl (fun _ _ => (J2 rfl rfl rfl)) ?_; refine Ww (show _ = uV (s.getD i 0).toNat from congrArg (Value.int .u64) (wrap_u64 (by omega) (by have := YL (s.getD i 0); omega))) ?_; refine QM (k := 6) rfl rfl rfl rfl rfl qR (VK _) ?_; refine Jp (k := 7) rfl rfl rfl rfl rfl (fun _ hS => (Jt (r := [_, _, _, _, _, _, _]) rfl rfl)) ?_; refine Wr (k := 8) (n := 1) (sz := 7) (vs := [_]) (zs := [_, _, _, _, _, _, _]) (r := [uV (s.getD i 0).toNat, uV 0, uV 0, uV 0, .slice none 0 0, .slice none 0 0, .int .i64 0]) rfl rfl rfl rfl rfl rfl rfl rfl rfl rfl rfl (by rw [JO]; exact rfl) rfl fun rb => ?_; refine Kx ?_; refine JM (L0 := [_, _, _]) (xs := QE ((s.take i).map ZW)) (row := row) (n := i) (sz := 7) (b := 88) (news := [_, _, _, _, _, _, _]) (List.perm_append_comm (l₁ := [_, _, _])) rfl rfl rfl rfl (kn 0 rfl) rfl rfl rfl rfl rfl (by decide) rfl rfl rfl (by decide) hrow (by omega) (by omega) fun ra cap sp hra => ?_
  refine LS 1 [] rfl rfl ?_; refine Kn (k := 2) (cs' := #[.int .u64 0, .int .u64 0, .int .u64 0, .int .u64 0, .slice none 0 0, J8 (i + 1) (some (ra, cap, sp)), .int .i64 0]) rfl rfl rfl rfl rfl rfl rfl rfl rfl rfl ?_; refine JJ 5 rfl ?_; refine J3 (show _ = Value.int .i64 ((i + 1 : Nat) : Int) from by rw [wrap_i64 (by omega) (by omega)]; congr 1 <;> omega) ?_; refine Jx 2 rfl ?_; refine Jv ?_; rw [Ju0 (by omega)] at hra ⊢; refine Qi [2, 3, 0] (L' := [_, _, _]) (by decide) rfl ?_; exact Jo (i + 1, some (ra, cap, sp)) ⟨by simp only; omega, hra⟩ (by simp only; omega) (lK rfl) (List.Sublist.refl _) (fun _ _ h => h)
 ·refine JK 6 rfl ?_
  have honeV : ([.int .u64 0, .int .u64 0, .int .u64 0, .int .u64 0, .slice none 0 0, J8 i row, .int .i64 0] : List Value).all Q3 = true := by cases row <;> rfl
  refine Jq 1 rfl ?_; refine LR rfl (Jd (xs := [.int .u64 0, .int .u64 0, .int .u64 0, .int .u64 0, .slice none 0 0, J8 i row, .int .i64 0]) (n := 7) rfl (kn 0 rfl) rfl rfl rfl) ?_; refine Jh (k := 1) (n := 7) (ys := [.int .u64 0, .int .u64 0, .int .u64 0, .int .u64 0, .slice none 0 0, J8 i row, .int .i64 0]) rfl rfl rfl rfl rfl rfl rfl honeV rfl ?_; refine Jx 3 rfl ?_; refine Jg rfl rfl (.cons (Jr (vs := [_, _, _, _, _, _, _]) rfl (kn 1 rfl) rfl rfl) .nil) (fun w1 hs1 => ?_)
  have hiM : i = s.length := by omega
  rw [hiM, List.take_length] at hrow hs1
  have hrow2 : rowOk 7 (s.map ZW).length (QE (s.map ZW)) row := by rw [List.length_map]; exact hrow
  have hvr : J8 i row = KB (s.map ZW).length (Qo row) := by rw [hiM, List.length_map]; exact (QZ _ _ (fun h => by rw [h] at hrow; exact hrow.1)).symm
  exact ⟨⟨.mk 0 0 0 0 [] none (s.map ZW) (Qo row) 0, JH 89 (QE (s.map ZW)) row ++ [], Jd7 (by rw [List.length_map]; omega) (Km hrow2 (by decide)) (fun x hx => by obtain ⟨b, _, rfl⟩ := List.mem_map.1 hx; exact Jw1 b) i0, Jw2 s _⟩, congrArg (fun z => Ending.returned (Value.agg #[.int .u64 0, .int .u64 0, .int .u64 0, .int .u64 0, .slice none 0 0, z, .int .i64 0])) hvr, hs1.weakL (.cons _ (.cons _ (by simp only [List.append_nil]; exact List.Sublist.refl _)))⟩
abbrev VZ0 : Array Value := #[.int .u64 0, .int .u64 0, .int .u64 0, .int .u64 0, .slice none 0 0, .slice none 0 0, .int .i64 0]
section
variable {c : Cx} {l : Kw} {L E : Jm} {X : XP} {Q : Exit → Act → World → Prop} {d : List Deferred}
variable {ops : Array Oper} {rest : List Nat} {i k : Nat} {v : Value} {o : Oper} {tb : ZU} {S : Jm} {T : Jm → Act → Prop}
theorem Jpw {α : Type} {T0 L0 Rl : Jm} {f : Operand} {args : Array Operand} {at_ : Array TypeId} {g : FuncId} {vs : List Value} {V : α → Value} {LL : α → Jm} {ty : TypeId} {ps : String} {af : Array Edge} {gd : Option (Nat × Bool)}
  (hp : E.Perm (T0 ++ L0)) (hk : WJ ops.toList k = some ⟨some i, .call ⟨.value f, args, at_⟩, ty, ps, af, gd⟩) (hg : Kj l ops ⟨some i, .call ⟨.value f, args, at_⟩, ty, ps, af, gd⟩ = some true) (hi : Nat.ble (i + 1) c.n = true) (hA : tb k = .turn) (hca : Kq l f args = some (g, vs)) (eg : Enters c.P g)
  (hpt : PureT c.P g vs.toArray V T0 LL Rl) (hR : ∀ p ∈ Rl, known c L0 p.1 p.2) (hS : ∀ x, SubS S (LL x ++ L0)) (h : ∀ x, HB c d ((i, V x) :: l) (LL x ++ L0) X S ops tb rest T) : HB c d l E X S ops tb (k :: rest) T := fun a hf => by
 refine ⟨_, QG hk, ?_⟩; rw [hA]; refine .inl ⟨α, V, fun x => LL x ++ L0, ⟨JL hf hg, fun w hs => ?_⟩, fun x => ⟨hS x, h x _ (hf.put (Nat.le_of_ble_eq_true hi))⟩⟩
 have hs := hs.perm hp
 obtain ⟨hd1, _, hd3⟩ := List.pairwise_append.1 hs.distinct
 refine Wu hf hca eg ((hpt.run w (fun p hp => (hs.own p (List.mem_append_left _ hp)).2.2) (fun p hp => ?_) hd1 (fun p hp q hq => ?_)).mono fun _ _ ⟨x, he, hk, h1, h2⟩ => ⟨V x, he, x, rfl, hs.turnT hk h1 h2⟩)
 ·exact (hR p hp).elim (fun h => (hs.own _ (List.mem_append_right _ h)).2.2) hs.readR
 ·rcases hR p hp with h | h
  ·exact fun e => hd3 q hq _ h e.symm
  ·rintro e
   obtain ⟨h1, _, h3⟩ := hs.ext _ h
   have h3 := JB h3
   rcases (hs.own q (List.mem_append_left _ hq)).1 with h4 | h4
   ·exact h1 (e ▸ h4)
   ·simp only at h3 e; omega
end
theorem J0l {n : Nat} {xs : List Value} (h : xs.length = n) : rowOk 1 n xs (some (0, n, [])) := ⟨by rw [h, Nat.mul_one], by simp⟩
theorem Jpx {R : Jm} {k n : Int} {p : Pl} {ins : List Ty} {items : List Vl} {pi : Pl} (ht : Ty.In R (.mk k n p ins)) (h8 : k ≠ 8) (hs : Seg R items.length (QE items) pi) (hl : items.length ≤ 600) (hx : ∀ i, i < items.length → XC k 0 i < ins.length)
  (hb : ∀ (i : Nat) x, items[i]? = some x → PureR Tryz.prog 100 [(JX k 0 ins i).val, x.val].toArray (J1 (KT x (JX k 0 ins i))) R) :
  PureT (α := { row : QD // rowOk 1 items.length (Wq (Ki items k 0 ins 0)) row }) Tryz.prog 169 [Ty.val (.mk k n p ins), KB items.length pi].toArray (fun x => J8 items.length x.1) [] (fun x => JH 9 (Wq (Ki items k 0 ins 0)) x.1) R := by
 cases ht with
 | @mk k n p ins hk hn hlt hst hit =>
 have hRL := Wi items k 0 ins 0
 obtain ⟨RS, hRS⟩ : ∃ x, x = Ki items k 0 ins 0 := ⟨_, rfl⟩
 have htk := fun i x (h : items[i]? = some x) => wI k ins (i := 0) h
 simp only [← hRS, Nat.zero_add] at htk; rw [← hRS] at hRL ⊢; refine Jw Tryz.func169 rfl rfl fun w => ?_; refine JD ?_; refine Jq 2 rfl ?_; refine LN rfl fun r1 => ?_; refine JJ 12 rfl ?_; refine LR rfl (Jz rfl hs rfl) ?_; refine JI 4 rfl ?_; refine Jy (σ := Nat × QD) (fun q => q.1 ≤ items.length ∧ rowOk 1 q.1 (Wq (RS.take q.1)) q.2) (fun q => [(2, XS r1), (5, J8 q.1 q.2), (9, KB items.length pi), (10, .int .i64 (items.length : Int)), (11, .int .i64 (q.1 : Int))]) (fun q => WD r1 (.mk k n p ins) :: JH 9 (Wq (RS.take q.1)) q.2) (fun _ _ _ => True) (fun q => items.length - q.1) (0, none) ⟨Nat.zero_le _, by rw [List.take_zero]; exact ⟨rfl, rfl⟩⟩ (lK rfl) (List.Sublist.refl _) (fun _ _ h => h) ?_; rintro ⟨i, row⟩ ⟨hi1, hrow⟩; simp only at hi1 hrow; change HC _ _ [(2, _), (5, J8 i row), (9, _), (10, _), (11, .int .i64 (i : Int))] ((r1, _) :: JH _ (Wq (RS.take i)) row) _ _ _; refine JK 6 rfl ?_; refine cD (fun h7 => ?_) fun h7 => ?_
 ·refine JK 5 rfl ?_
  have hil : i < items.length := by omega
  have hix := XH hil
  have hbi := hb i _ hix.1
  have hty := QV (hx i hil)
  have hi0 : 0 < ins.length := Nat.lt_of_le_of_lt (Nat.zero_le _) (hx i hil)
  have hy0 : ins[0]? = some (ins.getD 0 default) := by rw [List.getD_eq_getElem?_getD, List.getElem?_eq_getElem hi0]; rfl
  have htki := htk i _ hix.1
  obtain ⟨sv, hsv⟩ : ∃ x, x = KT (XG items i) (JX k 0 ins i) := ⟨_, rfl⟩
  rw [← hsv] at hbi htki; refine Jq 2 rfl ?_
  refine LR rfl (Jk (j := i) rfl hs rfl rfl rfl (by first | rfl | omega) (by omega)) ?_; refine LR rfl (Wv oR rfl hs hix.1 rfl rfl) ?_; refine Qu (cs := #[.int .u64 0, .int .u64 0, .int .u64 0, .int .u64 0, .slice none 0 0, .slice none 0 0, .int .i64 0]) rfl rfl rfl rfl fun rv => ?_; refine Q1 rfl (Jh (k := 0) (n := 7) (ys := (XG items i).cells) rfl rfl rfl rfl rfl (XG items i).len rfl (XG items i).one rfl (Xf 6 [1] rfl rfl ?_)); refine LR rfl (Jk (j := 0) rfl hst rfl rfl rfl rfl (by omega)) ?_; refine LR rfl (Qr oR rfl hst hy0 rfl rfl) ?_; refine Qu (cs := #[.int .i64 0, .int .i64 0, .slice none 0 0]) rfl rfl rfl rfl fun rt => ?_; refine Jh (k := 0) (n := 3) (ys := (ins.getD 0 default).cells) rfl rfl rfl rfl rfl (ins.getD 0 default).len rfl (ins.getD 0 default).one rfl ?_; refine Goc 10 [2] rfl rfl ?_; refine cD (fun g => ?_) fun g => ?_
  ·refine Vw 4 [2] rfl rfl ?_; refine LR rfl (Jk (j := XC k 0 i) rfl hst rfl rfl rfl (by unfold XC; rw [if_pos (by assumption)]) (hx i hil)) ?_; refine LR rfl (Qr oR rfl hst hty.1 rfl rfl) ?_; refine Jh (k := 0) (n := 3) (ys := (JX k 0 ins i).cells) rfl rfl rfl rfl rfl (JX k 0 ins i).len (by rw [List.size_toArray]; exact Ty.len _) (JX k 0 ins i).one rfl ?_; refine JI 2 rfl ?_
   (have h7 : k = 7 := by assumption
    skip)
   refine Jq 2 rfl ?_; refine LR rfl (Jd (xs := (JX k 0 ins i).cells) (n := 3) rfl (kn 0 rfl) rfl rfl (JX k 0 ins i).len) ?_; refine LR rfl (Jd (xs := (XG items i).cells) (n := 7) rfl (kn 1 rfl) rfl rfl (XG items i).len) ?_; refine Ji rfl rfl rfl Jh7 hbi oR ?_; refine J4 (vs := [_]) (zs := [_]) (r := [_]) rfl rfl rfl rfl rfl rfl rfl rfl rfl (by show (madeCells #[_] _).toList = _; rw [QJ]; exact rfl) rfl fun r2 => ?_; refine JM (L0 := [_, _, _, _]) (xs := Wq (RS.take i)) (row := row) (n := i) (sz := 1) (b := 16) (news := [J1 sv]) (List.perm_append_comm (l₁ := [_, _, _, _])) rfl rfl rfl rfl (kn 0 rfl) rfl rfl rfl rfl rfl (by decide) rfl rfl rfl (by decide) hrow (by omega) (by omega) fun ra cap sp hra => ?_; refine JJ 6 rfl ?_; refine J3 (show _ = Value.int .i64 ((i + 1 : Nat) : Int) from by rw [wrap_i64 (by omega) (by omega)]; congr 1 <;> omega) ?_; refine Jx 2 rfl ?_; refine Jv ?_; refine Qi [4, 0] (L' := [_, _]) (by decide) rfl ?_; exact Jo (i + 1, some (ra, cap, sp)) ⟨by simp only; omega, by simp only; rw [htki, Zc]; exact hra⟩ (by simp only; omega) (lK rfl) (by simp only; rw [htki, Zc]; exact List.Sublist.refl _) (fun _ _ h => h)
  ·refine JK 2 rfl ?_
   (have h7 : ¬ k = 7 := by assumption
    have e : ins.getD 0 default = JX k 0 ins i := by unfold JX XC; rw [if_neg h7, if_neg h8]
    rw [e])
   refine Jq 2 rfl ?_; refine LR rfl (Jd (xs := (JX k 0 ins i).cells) (n := 3) rfl (kn 0 rfl) rfl rfl (JX k 0 ins i).len) ?_; refine LR rfl (Jd (xs := (XG items i).cells) (n := 7) rfl (kn 1 rfl) rfl rfl (XG items i).len) ?_; refine Ji rfl rfl rfl Jh7 hbi oR ?_; refine J4 (vs := [_]) (zs := [_]) (r := [_]) rfl rfl rfl rfl rfl rfl rfl rfl rfl (by show (madeCells #[_] _).toList = _; rw [QJ]; exact rfl) rfl fun r3 => ?_; refine JM (L0 := [_, _, _, _]) (xs := Wq (RS.take i)) (row := row) (n := i) (sz := 1) (b := 16) (news := [J1 sv]) (List.perm_append_comm (l₁ := [_, _, _, _])) rfl rfl rfl rfl (kn 0 rfl) rfl rfl rfl rfl rfl (by decide) rfl rfl rfl (by decide) hrow (by omega) (by omega) fun ra cap sp hra => ?_; refine JJ 6 rfl ?_; refine J3 (show _ = Value.int .i64 ((i + 1 : Nat) : Int) from by rw [wrap_i64 (by omega) (by omega)]; congr 1 <;> omega) ?_; refine Jx 2 rfl ?_; refine Jv ?_; refine Qi [4, 0] (L' := [_, _]) (by decide) rfl ?_; exact Jo (i + 1, some (ra, cap, sp)) ⟨by simp only; omega, by simp only; rw [htki, Zc]; exact hra⟩ (by simp only; omega) (lK rfl) (by simp only; rw [htki, Zc]; exact List.Sublist.refl _) (fun _ _ h => h)
 ·refine JK 6 rfl ?_
  obtain rfl : i = items.length := by omega
  rw [List.take_of_length_le (by omega)] at hrow ⊢; refine Kh 6 rfl ?_; refine pT rfl rfl rfl fun w1 hs1 => ?_; exact ⟨⟨row, hrow⟩, rfl, hs1.weakL (.cons _ (List.Sublist.refl _))⟩
abbrev jM (l : List BS) : Type := { row : QD // rowOk 1 l.length (Wq l) row }
def Ji4 (l : List BS) : jM l := ⟨some (0, l.length, []), J0l (by unfold Wq; rw [List.length_map])⟩
abbrev rV {l : List BS} (x : jM l) : Value := KB l.length (Qo x.1)
abbrev rL {l : List BS} (x : jM l) : Jm := JH 9 (Wq l) x.1
theorem J0m {l : List BS} (x : jM l) : rV x = J8 l.length x.1 := QZ _ _ fun h => by
 have h2 := x.2
 rw [h] at h2; exact h2.1
theorem Jpy (l : List BS) : (fun x : jM l => rV x) = fun x => J8 l.length x.1 := funext fun x => J0m x
theorem Jpz {s : BS} (hl : s.length ≤ 1000000) : PureT (α := jM (Y2 s)) Tryz.prog 218 [J1 s].toArray (fun x => rV x) [] (fun x => rL x) [] := by
 have h := J0i hl
 rw [← Zd] at h; rw [Jpy]; exact h
theorem zF {R : Jm} {k n : Int} {p : Pl} {ins : List Ty} {items : List Vl} {pi : Pl} (ht : Ty.In R (.mk k n p ins)) (h8 : k ≠ 8) (hs : Seg R items.length (QE items) pi) (hl : items.length ≤ 600) (hx : ∀ i, i < items.length → XC k 0 i < ins.length)
  (hb : ∀ (i : Nat) x, items[i]? = some x → PureR Tryz.prog 100 [(JX k 0 ins i).val, x.val].toArray (J1 (KT x (JX k 0 ins i))) R) :
  PureT (α := jM (Ki items k 0 ins 0)) Tryz.prog 169 [Ty.val (.mk k n p ins), KB items.length pi].toArray (fun x => rV x) [] (fun x => rL x) R := by
 have h := Jpx ht h8 hs hl hx hb
 rw [Jpy]
 have e := Wi items k 0 ins 0
 generalize Ki items k 0 ins 0 = RS at h e ⊢
 rw [← e] at h; rw [← e]; exact h
theorem Jp0 (t : Ty) : Pure Tryz.prog 215 [t.val].toArray (.bool (Xu t)) := by
 obtain ⟨k, n, p, ins⟩ := t
 refine Jl Tryz.func215 rfl rfl fun w => ?_; refine JD ?_; refine Jq 2 rfl ?_; refine LN rfl fun r1 => ?_; refine Xf 9 [0] rfl rfl ?_
 refine J6 6 rfl (fun gb => ?_) (fun gb => ?_) <;> (try simp only [ZZ] at gb) <;> first | (refine LR rfl (JA rfl rfl rfl) ?_) | (refine LK rfl ?_)
 all_goals (
  refine LW 4 [0] rfl rfl (Jx 1 rfl (ZT 2 rfl ?_)); refine pT rfl rfl rfl fun w1 hs1 => ?_; refine ⟨?_, hs1.keep⟩
  simp_all [JG, Xu, Ty.k]
  all_goals first | done | rfl
  skip)
theorem Jyf (n : Nat) : ((n + 7) / 8 + 31) / 32 = (n + 255) / 256 := by omega
theorem Ji5 {R : Jm} {l : List Bool} {k : Int} {n : Nat} {p pb : Pl} {ins : List Ty} (hl : l.length ≤ n) (hn : n ≤ 512) (hs : Seg R l.length (ju l) pb) :
  PureR Tryz.prog 165 [Ty.val (.mk k (n : Int) p ins), KB l.length pb].toArray (J1 (Vj (Y2 (WI l)) ((n + 255) / 256))) R := by
 obtain ⟨N, hN⟩ : ∃ N, N = (l.length + 7) / 8 := ⟨_, rfl⟩
 have hpB : WI l = KV l N l.length := by rw [hN]; rfl
 have hnb := qu (bits := l) (n := (n : Int)) (by omega)
 rw [Int.toNat_natCast] at hnb
 have hc32 := Zs (WI l)
 have hcut := Jpz (s := WI l) (by rw [Zk]; omega)
 rw [hpB] at hnb hc32 hcut ⊢; refine Jb Tryz.func165 rfl rfl fun w => ?_; refine JD ?_; refine Jq 2 rfl ?_; refine LN rfl fun r1 => ?_; refine JJ 6 rfl ?_; refine LR rfl (Jz rfl hs rfl) ?_
 refine VQ rfl ?_; refine J3 (show _ = Value.int .i64 ((l.length + 8 : Nat) : Int) from by rw [wrap_i64 (by omega) (by omega)]; congr 1 <;> omega) ?_
 refine VQ rfl ?_; refine J3 (show _ = Value.int .i64 ((l.length + 7 : Nat) : Int) from by rw [wrap_i64 (by omega) (by omega)]; congr 1 <;> omega) ?_; refine VQ rfl ?_; refine J3 (show _ = Value.int .i64 ((N : Nat) : Int) from congrArg (Value.int .i64) (by rw [Va (by omega) (by decide) (by omega), hN]; rfl)) ?_; refine VA (n := N) (b := 1) rfl rfl rfl rfl rfl rfl rfl rfl rfl (by omega) (by omega) fun rm => ?_; rw [show List.replicate N (Value.int .u8 0) = (KV l N 0).map bV from by rw [KV, List.map_replicate]; rfl]; refine JJ 7 rfl ?_; refine LR rfl (Jz rfl hs rfl) ?_; refine JI 4 rfl ?_; refine Jy (σ := Nat) (fun i => i ≤ l.length) (fun i => [(2, XS r1), (5, .slice (some ⟨rm, 0, none⟩) N N), (14, KB l.length pb), (15, .int .i64 (l.length : Int)), (16, .int .i64 (i : Int))]) (fun i => [(rm, .cells ((KV l N i).map bV).toArray 5 (0, 0)), WD r1 (.mk k (n : Int) p ins)]) (fun _ _ _ => True) (fun i => l.length - i) 0 (Nat.zero_le _) (lK rfl) (List.Sublist.refl _) (fun _ _ h => h) ?_; intro i hi1; change HC _ _ _ ((rm, _) :: (r1, _) :: []) _ _ _; refine JK 6 rfl ?_; refine cD (fun g => ?_) fun g => ?_
 ·refine JK 5 rfl ?_
  have hil : i < l.length := by omega
  have hi8 : i / 8 < N := by omega
  have hyb : l[i]? = some (l.getD i false) := by rw [List.getD_eq_getElem?_getD, List.getElem?_eq_getElem hil]; rfl
  refine Jq 2 rfl ?_
  refine LR rfl (Jk (j := i) rfl hs rfl rfl rfl (by first | rfl | omega) (by omega)) ?_; refine LR rfl (XZ oR rfl hs hyb rfl) ?_; refine JI 9 rfl ?_; refine cD (fun g => ?_) fun g => ?_
  ·have hbt : l.getD i false = true := by assumption
   have hst1 : KV l N (i + 1) = (KV l N i).set (i / 8) (UInt8.ofNat (((KV l N i).getD (i / 8) 0).toNat ||| 2 ^ (i % 8))) := by rw [KV, if_pos hbt]
   obtain ⟨Y, hY⟩ : ∃ Y, Y = KV l N i := ⟨_, rfl⟩
   have hYl : Y.length = N := by rw [hY]; exact Vs l N i
   rw [← hY] at hst1 ⊢
   refine JT [] [(0, .pure), (1, .pure), (2, .pure), (3, .pure), (5, .pure), (6, .pure), (7, .pure), (8, .pure), (9, .pure), (10, .turn)] 11 [0, 1, 2, 3, 4, 5, 6, 7, 8, 9, 10] (by kernel_rfl) (by kernel_rfl) (by first | exact (fun _ h => absurd h List.not_mem_nil) | simp [SubS] | (intro p hp; simp [hp])) ?_; refine Jp (k := 0) rfl rfl rfl rfl rfl (fun _ hS => (Jf rfl)) ?_; refine Jp (k := 1) rfl rfl rfl rfl rfl (fun _ hS => (Jf rfl)) ?_
   refine Jp (k := 2) rfl rfl rfl rfl rfl (fun _ _ => (J2 rfl rfl rfl)) ?_; refine Ww (show _ = Value.int .i64 ((i / 8 : Nat) : Int) from congrArg (Value.int .i64) (by first | exact Wm _ _ | exact Va (by omega) (by decide) (by omega) | (rw [wrap_i64 (by omega) (by omega)]; omega))) ?_; refine Jp (k := 3) rfl rfl rfl rfl rfl (fun _ _ => JF (j := (i / 8)) (m := 1) (off' := (i / 8)) rfl rfl rfl rfl (by omega) (by omega) (by omega)) ?_; refine KE (k := 4) rfl rfl rfl rfl rfl (Je rfl (kn 0 rfl) rfl (by rw [W9]; exact Yg (by omega))) ?_; refine Jp (k := 5) rfl rfl rfl rfl rfl (fun _ hS => (Jf rfl)) ?_
   refine Jp (k := 6) rfl rfl rfl rfl rfl (fun _ _ => (J2 rfl rfl rfl)) ?_; refine Ww (show _ = Value.int .i64 ((i % 8 : Nat) : Int) from congrArg (Value.int .i64) (by first | exact Wm _ _ | exact Va (by omega) (by decide) (by omega) | (rw [wrap_i64 (by omega) (by omega)]; omega))) ?_; refine Jp (k := 7) rfl rfl rfl rfl rfl (fun _ _ => Jhd (n := i % 8) (b := ((2 ^ (i % 8) : Nat) : Int)) rfl rfl rfl (show _ ≤ 8 from by omega) (Jpk (by omega))) ?_; refine Jp (k := 8) rfl rfl rfl rfl rfl (fun _ _ => xI (op := .or) (m := (Y.getD (i / 8) 0).toNat) (n := 2 ^ (i % 8)) rfl rfl rfl (YL _) (Nat.pow_lt_pow_right (by decide) (by omega) : 2 ^ (i % 8) < 2 ^ 8) rfl) ?_; refine Ww (Jiy _ (by omega)) ?_; refine Jp (k := 9) rfl rfl rfl rfl rfl (fun _ _ => JF (j := (i / 8)) (m := 1) (off' := (i / 8)) rfl rfl rfl rfl (by omega) (by omega) (by omega)) ?_; refine Ya (k := 10) (q := 0) (cs' := ((KV l N (i + 1)).map bV).toArray) rfl rfl rfl rfl rfl rfl rfl rfl (by simp; omega) (by rw [zB, hst1]) rfl (fun _ h => nomatch h) ?_; refine Kx ?_; refine JJ 5 rfl ?_; refine J3 (show _ = Value.int .i64 ((i + 1 : Nat) : Int) from by rw [wrap_i64 (by omega) (by omega)]; congr 1 <;> omega) ?_; refine Jx 2 rfl ?_; refine Jv ?_; exact Jo (i + 1) (by omega) (by omega) (lK rfl) (List.Sublist.refl _) (fun _ _ h => h)
  ·refine Jq 5 rfl ?_; refine J3 (show _ = Value.int .i64 ((i + 1 : Nat) : Int) from by rw [wrap_i64 (by omega) (by omega)]; congr 1 <;> omega) ?_; refine Jx 2 rfl ?_; refine Jv ?_
   (have hst0 : KV l N (i + 1) = KV l N i := by rw [KV, if_neg (by simp_all)]
    exact Jo (i + 1) (by omega) (by omega) (lK rfl) (by rw [hst0]; exact List.Sublist.refl _) (fun _ _ h => h))
 ·refine JK 6 rfl ?_
  obtain rfl : i = l.length := by omega
  refine JT [] [(0, .pure), (2, .grow (Qe (Ji4 (Y2 (KV l N l.length))) (fun x => rV x) (fun x => rL x))), (3, .pure), (5, .pure), (6, .pure), (7, .pure), (8, .pure), (10, .pure)] 11 [0, 1, 3, 4, 5, 6, 7, 2, 8, 9, 10] (by kernel_rfl) (by kernel_rfl) (by first | exact (fun _ h => absurd h List.not_mem_nil) | simp [SubS] | (intro p hp; simp [hp])) ?_; refine Jp (k := 0) rfl rfl rfl rfl rfl (fun _ hS => (Jf rfl)) ?_; refine KE (k := 1) rfl rfl rfl rfl rfl (KS (b := KV l N l.length) (row := some (rm, N, [])) (e := 5) (show _ = some (J8 (KV l N l.length).length _) from by rw [Vs]; rfl) ⟨by rw [List.length_map]; omega, by rw [Vs]; simp⟩ (fun p hp => .inl (by rw [List.mem_singleton.1 hp, List.append_nil]; exact List.mem_cons_self)) rfl rfl rfl) ?_
  refine Jp (k := 3) rfl rfl rfl rfl rfl (fun _ hS => (JA rfl rfl rfl)) ?_; refine KE (k := 4) rfl rfl rfl rfl rfl (Je rfl (kn 1 rfl) rfl rfl) ?_
  refine Jp (k := 5) rfl rfl rfl rfl rfl (fun _ _ => (J2 rfl rfl rfl)) ?_; refine Ww (show _ = Value.int .i64 ((n + 8 : Nat) : Int) from congrArg (Value.int .i64) (by first | exact Wm _ _ | exact Va (by omega) (by decide) (by omega) | (rw [wrap_i64 (by omega) (by omega)]; omega))) ?_
  refine Jp (k := 6) rfl rfl rfl rfl rfl (fun _ _ => (J2 rfl rfl rfl)) ?_; refine Ww (show _ = Value.int .i64 ((n + 7 : Nat) : Int) from congrArg (Value.int .i64) (by first | exact Wm _ _ | exact Va (by omega) (by decide) (by omega) | (rw [wrap_i64 (by omega) (by omega)]; omega))) ?_
  refine Jp (k := 7) rfl rfl rfl rfl rfl (fun _ _ => (J2 rfl rfl rfl)) ?_; refine Ww (show _ = Value.int .i64 (((n + 7) / 8 : Nat) : Int) from congrArg (Value.int .i64) (by first | exact Wm _ _ | exact Va (by omega) (by decide) (by omega) | (rw [wrap_i64 (by omega) (by omega)]; omega))) ?_; refine KO (k := 2) rfl rfl rfl rfl rfl (enters_of Tryz.func218 (by kernel_rfl) rfl) hcut oN fun x => ?_; refine QM (k := 8) rfl rfl rfl rfl rfl (enters_of Tryz.func220 (by kernel_rfl) rfl) (Jps (n := (n + 7) / 8) (by omega)) ?_; rw [Jyf]; refine Qa (k := 9) rfl rfl rfl rfl rfl Jia (vG hnb (by omega) (Km x.2 (by decide)) hc32) (fun q hq => .inl (List.mem_append_left _ hq)) ?_; refine Jp (k := 10) rfl rfl rfl rfl rfl (fun _ hS => (JC rfl)) ?_; refine Kx ?_; refine Jx 3 rfl ?_; refine pT rfl rfl rfl fun w1 hs1 => ?_; exact ⟨rfl, hs1.keep⟩
section
variable {c : Cx} {l : Kw} {L E : Jm} {X : XP} {Q : Exit → Act → World → Prop} {d : List Deferred}
variable {ops : Array Oper} {rest : List Nat} {i k : Nat} {v : Value} {o : Oper} {tb : ZU} {S : Jm} {T : Jm → Act → Prop}
theorem Jln {f : Operand} {args : Array Operand} {at_ : Array TypeId} {g : FuncId} {vs : List Value} {Rl : Jm} {ty : TypeId} {ps : String} {af : Array Edge} {gd : Option (Nat × Bool)}
  (hk : WJ ops.toList k = some ⟨some i, .call ⟨.value f, args, at_⟩, ty, ps, af, gd⟩) (hg : Kj l ops ⟨some i, .call ⟨.value f, args, at_⟩, ty, ps, af, gd⟩ = some true) (hi : Nat.ble (i + 1) c.n = true) (hA : tb k = .pure) (hca : Kq l f args = some (g, vs)) (eg : Enters c.P g)
  (hp : PureR c.P g vs.toArray v Rl) (hR : ∀ p ∈ Rl, p ∈ S ∨ p ∈ c.R) (h : HB c d ((i, v) :: l) E X S ops tb rest T) : HB c d l E X S ops tb (k :: rest) T := fun a hf => by
 refine ⟨_, QG hk, ?_⟩; rw [hA]; exact ⟨v, .inl ⟨JL hf hg, fun E' hE' w hs => Wu hf hca eg ((hp.run w fun p hp => (hR p hp).elim (fun h => (hs.own _ (hE' p h)).2.2) hs.readR).mono fun _ _ ⟨he, hk⟩ => ⟨v, he, rfl, hk⟩)⟩, h _ (hf.put (Nat.le_of_ble_eq_true hi))⟩
end
theorem Ze {k : Int} (h7 : k ≠ 7) (h8 : k ≠ 8) (x : Ty) (i : Nat) : JX k 0 [x] i = x := by unfold JX XC; rw [if_neg h7, if_neg h8]; rfl
theorem Jlo {l : List Vl} {x : Ty} {i : Nat} {v : Vl} (h : l[i]? = some v) : WR (l.take (i + 1)) x = WR (l.take i) x ++ Vu v x := by
 unfold WR
 rw [List.take_add_one, h]
 simp
theorem Ji6 {x : Ty} : ∀ {l : List Vl}, (∀ v ∈ l, (Vu v x).length ≤ 32) → (WR l x).length ≤ 32 * l.length
 | [], _ => by unfold WR; simp
 | v :: l, h => by
  have ih := Ji6 (l := l) fun y hy => h y (List.mem_cons_of_mem _ hy)
  have h1 := h v List.mem_cons_self
  unfold WR at ih ⊢
  rw [List.map_cons, List.flatten_cons, List.length_append, List.length_cons]; omega
theorem wQ {x : Ty} {v : Vl} (hc : chk x 0 = 0) (hp : Xu x = true) (hf : KL v x = 0) : Jui x v = (Vu v x, 0) ∧ (Vu v x).length ≤ 32 := by
 obtain ⟨f1, f2, f3, f4⟩ := Zu hc hp
 have h1 := f4 v hf
 have h2 : (Vu v x).length ≤ 32 := by omega
 have h3 : V8 x v = 0 := by unfold V8; rw [if_pos hc]; exact hf
 unfold Jui
 rw [if_neg (by rw [h3]; simp), if_neg (by omega)]; exact ⟨rfl, h2⟩
set_option maxHeartbeats 1000000 in
theorem Jyg {R : Jm} {k : Int} {n : Nat} {p pi : Pl} {x0 : Ty} {items : List Vl} (ht : Ty.In R (.mk k (n : Int) p [x0])) (h7 : k ≠ 7) (h8 : k ≠ 8) (hc : chk x0 0 = 0) (hs : Seg R items.length (QE items) pi) (hl : items.length ≤ n) (hn : n ≤ 512)
  (hfit : ∀ v ∈ items, KL v x0 = 0) (hw : ∀ v ∈ items, YF v ≤ 20000) (hIn : ∀ v ∈ items, v.In R)
  (hb : ∀ (i : Nat) x, items[i]? = some x → PureR Tryz.prog 100 [x0.val, x.val].toArray (J1 (KT x x0)) R) :
  PureR Tryz.prog 161 [Ty.val (.mk k (n : Int) p [x0]), KB items.length pi].toArray (J1 (WS k (n : Int) [x0] items (Ki items k 0 [x0] 0))) R := by
 have hro := zF ht h8 hs (by omega) (fun i _ => by unfold XC; rw [if_neg h7, if_neg h8]; exact Nat.lt_succ_self 0) (fun i x hx => by rw [Ze h7 h8]; exact hb i x hx)
 have hrl := Wi items k 0 [x0] 0
 have hr32 : ∀ s ∈ Ki items k 0 [x0] 0, s.length = 32 := fun s hs => by
  obtain ⟨j, x, h1, rfl⟩ := Yi hs
  rw [Ze h7 h8]; exact WX x x0 0 hc (hfit x (List.mem_of_getElem? h1))
 have hrt := fun (x : jM (Ki items k 0 [x0] 0)) => vG (m := n) (by omega) (by omega) (Km (e := 9) x.2 (by decide)) hr32
 have hM : WS k (n : Int) [x0] items (Ki items k 0 [x0] 0) = if Xu x0 = true then Vj (Y2 (WR items x0)) ((n * (KW x0).toNat + 31) / 32) else Vj (Ki items k 0 [x0] 0) n := by
  unfold WS
  rw [if_neg h7]; rfl
 rw [hM]
 have hx0 := ht.sub x0 List.mem_cons_self
 have ht2 := ht
 cases ht with
 | @mk k n p ins hk hn2 hlt hst hit =>
 have hpl := Jp0 x0
 refine Jb Tryz.func161 rfl rfl fun w => ?_; refine JD ?_; refine Jq 2 rfl ?_; refine LN rfl fun r1 => ?_; refine Xf 8 [0] rfl rfl ?_
 refine LR rfl (Jk (j := 0) rfl hst rfl rfl rfl (by first | rfl | omega) (Nat.lt_succ_self 0)) ?_; refine LR rfl (Qr oR rfl hst (show [x0][0]? = some x0 from rfl) rfl rfl) ?_; refine Jn rfl rfl rfl (enters_of Tryz.func215 (by kernel_rfl) rfl) hpl ?_; refine JI 3 rfl ?_; refine cD (fun g => ?_) fun g => ?_
 refine JK 1 rfl ?_
 refine JT [] [(1, .pure), (2, .grow (Qe (Ji4 (Ki items k 0 [x0] 0)) (fun x => rV x) (fun x => rL x))), (3, .pure), (6, .pure)] 7 [0, 1, 3, 4, 2, 5, 6] (by kernel_rfl) (by kernel_rfl) (by first | exact (fun _ h => absurd h List.not_mem_nil) | simp [SubS] | (intro p hp; simp [hp])) ?_; refine KE (k := 0) rfl rfl rfl rfl rfl (Jd (xs := (Ty.mk k (n : Int) p [x0]).cells) (n := 3) rfl (kn 0 rfl) rfl rfl (Ty.mk k (n : Int) p [x0]).len) ?_; refine Jp (k := 1) rfl rfl rfl rfl rfl (fun _ hS => (Jf rfl)) ?_
 refine Jp (k := 3) rfl rfl rfl rfl rfl (fun _ hS => (JA rfl rfl rfl)) ?_; refine KE (k := 4) rfl rfl rfl rfl rfl (Je rfl (kn 0 rfl) rfl rfl) ?_; refine KO (k := 2) rfl rfl rfl rfl rfl (enters_of Tryz.func169 (by kernel_rfl) rfl) hro (fun q hq => .inr hq) fun x => ?_; refine Qa (k := 5) rfl rfl rfl rfl rfl Jia (hrt x) (fun q hq => .inl (List.mem_append_left _ hq)) ?_; refine Jp (k := 6) rfl rfl rfl rfl rfl (fun _ hS => (JC rfl)) ?_; refine Kx ?_; refine Jx 4 rfl ?_; refine pT rfl rfl rfl fun w1 hs1 => ?_; refine ⟨?_, hs1.keep⟩; rw [if_neg (by rw [Bool.not_eq_true]; assumption)]; rfl
 ·refine JK 3 rfl ?_
  have hp : Xu x0 = true := by assumption
  obtain ⟨f1, f2, f3, f4⟩ := Zu hc hp
  obtain ⟨z, hz⟩ : ∃ z, z = (KW x0).toNat := ⟨_, rfl⟩
  have hSz := Jo6 hx0
  have hsz : zh x0 = (z : Int) := by unfold zh; rw [if_pos f1]; omega
  rw [hsz] at hSz
  have hnz : n * z ≤ 16384 := by
   have := Nat.mul_le_mul hn (show z ≤ 32 by omega)
   omega
  obtain ⟨C, hC⟩ : ∃ C, C = WR items x0 := ⟨_, rfl⟩
  have hCl : C.length = items.length * z := by rw [hC]; exact jL fun v hv => by have := f4 v (hfit v hv); omega
  have hCn : C.length ≤ n * z := by rw [hCl]; exact Nat.mul_le_mul_right _ hl
  have hcn : (Y2 C).length ≤ (n * z + 31) / 32 := by rw [Zd]; unfold Jau; omega
  refine Jq 1 rfl ?_; refine LN rfl fun r2 => ?_; refine JJ 6 rfl ?_; refine LR rfl (Jz rfl hs rfl) ?_; refine JI 4 rfl ?_; refine Jy (σ := Nat × QD × Bool) (fun q => q.1 ≤ items.length ∧ bOk (WR (items.take q.1) x0) q.2.1) (fun q => [(2, XS r1), (5, XS r2), (22, KB items.length pi), (23, .int .i64 (items.length : Int)), (24, .int .i64 (q.1 : Int))]) (fun q => WE r2 (WR (items.take q.1) x0) q.2.1 q.2.2 ++ [WD r1 (Ty.mk k (n : Int) p [x0])]) (fun _ _ _ => True) (fun q => items.length - q.1) (0, none, false) ⟨Nat.zero_le _, Jat⟩ (lK rfl) (List.Sublist.refl _) (fun _ _ h => h) ?_; rintro ⟨i, row, own⟩ ⟨hi1, hb1⟩; simp only at hi1 hb1; change HC _ _ [(2, _), (5, _), (22, _), (23, _), (24, .int .i64 (i : Int))] (WE r2 (WR (items.take i) x0) row own ++ [WD r1 (Ty.mk k (n : Int) p [x0])]) _ _ _; refine JK 6 rfl ?_; refine cD (fun g => ?_) fun g => ?_
  ·refine JK 5 rfl ?_
   have hil : i < items.length := by omega
   have hix := XH hil
   have hpr := wQ hc hp (hfit _ hix.2)
   have hput := Jyb hx0 (hIn _ hix.2) (hw _ hix.2)
   rw [hpr.1] at hput
   have hsn := Jlo (x := x0) hix.1
   have hcl := Ji6 (x := x0) (l := items.take i) fun v hv => (wQ hc hp (hfit v (List.mem_of_mem_take hv))).2
   rw [List.length_take] at hcl
   have hp2 := hpr.2
   refine Jq 1 rfl ?_
   refine LR rfl (Jk (j := i) rfl hs rfl rfl rfl (by first | rfl | omega) (by omega)) ?_; refine LR rfl (Wv oR rfl hs hix.1 rfl rfl) ?_; refine Qu (cs := #[.int .u64 0, .int .u64 0, .int .u64 0, .int .u64 0, .slice none 0 0, .slice none 0 0, .int .i64 0]) rfl rfl rfl rfl fun rv => ?_; refine Jh (k := 0) (n := 7) (ys := (XG items i).cells) rfl rfl rfl rfl rfl (XG items i).len rfl (XG items i).one rfl ?_; refine JI 3 rfl ?_; refine JE 11 (by kernel_rfl) (by kernel_rfl) ?_
   refine Ja rfl rfl rfl (JA rfl rfl rfl) ?_; refine Ja rfl rfl rfl (Je (v := KB 1 p) rfl (.inl (List.mem_cons_of_mem _ (List.mem_append_right _ List.mem_cons_self))) rfl rfl) ?_
   refine Ja rfl rfl rfl (Jk (j := 0) rfl hst rfl rfl rfl (by first | rfl | omega) (Nat.lt_succ_self 0)) ?_; refine Ja rfl rfl rfl (Qr oR rfl hst (show [x0][0]? = some x0 from rfl) rfl rfl) ?_; refine Ja rfl rfl rfl (Jd (xs := (XG items i).cells) (n := 7) rfl (kn 0 rfl) rfl rfl (XG items i).len) ?_; refine V3 rfl rfl rfl (enters_of Tryz.func216 (by kernel_rfl) rfl) hput oR ?_; refine Ja rfl rfl rfl (Jf rfl) ?_; refine Ja rfl rfl rfl (JY rfl rfl) ?_; refine Ja rfl rfl rfl (JY rfl rfl) ?_; refine Ja rfl rfl rfl (JC rfl) ?_; refine Ja rfl rfl rfl (JC rfl) ?_; refine JS ?_; refine JJ 4 rfl ?_; refine Qw (T := WE r2 (WR (items.take i) x0) row own) (L0 := _ :: [WD r1 (Ty.mk k (n : Int) p [x0])]) (Rl := []) List.perm_middle.symm rfl rfl rfl Jie (vH hb1 (s2 := Vu (XG items i) x0) (by omega)) oN fun x => ?_
   obtain ⟨rowx, hbx⟩ := x
   refine JJ 5 rfl ?_; refine J3 (show _ = Value.int .i64 ((i + 1 : Nat) : Int) from by rw [wrap_i64 (by omega) (by omega)]; congr 1 <;> omega) ?_; refine Jx 2 rfl ?_; refine Jv ?_; refine vE (L' := WE r2 (WR (items.take (i + 1)) x0) rowx true ++ [WD r1 (Ty.mk k (n : Int) p [x0])]) (by rw [hsn]; exact (List.Sublist.refl _).append (.cons _ (List.Sublist.refl _))) ?_; exact Jo (i + 1, rowx, true) ⟨by simp only; omega, by simp only; rw [hsn]; exact hbx⟩ (by simp only; omega) (lK rfl) (List.Sublist.refl _) (fun _ _ h => h)
  ·refine JK 6 rfl ?_
   obtain rfl : i = items.length := by omega
   rw [List.take_length, ← hC] at hb1; rw [List.take_length, ← hC]; refine JT [WD r1 (Ty.mk k (n : Int) p [x0])] [(0, .turn), (1, .grow (Qe (Ji4 (Y2 C)) (fun x => rV x) (fun x => rL x))), (2, .pure), (3, .pure), (4, .pure), (5, .pure), (6, .pure), (7, .pure), (8, .pure), (9, .pure), (10, .pure)] 11 [2, 3, 4, 5, 6, 7, 0, 1, 8, 9, 10] (by kernel_rfl) (by kernel_rfl) (fun p hp => List.mem_append_right _ hp) ?_
   refine Jp (k := 2) rfl rfl rfl rfl rfl (fun _ hS => (JA rfl rfl rfl)) ?_; refine Jp (k := 3) rfl rfl rfl rfl rfl (fun E' hS => Je (v := .int .i64 (n : Int)) rfl (.inl (hS _ List.mem_cons_self)) rfl rfl) ?_
   refine Jp (k := 4) rfl rfl rfl rfl rfl (fun _ hS => (JA rfl rfl rfl)) ?_; refine Jp (k := 5) rfl rfl rfl rfl rfl (fun E' hS => Je (v := KB 1 p) rfl (.inl (hS _ List.mem_cons_self)) rfl rfl) ?_
   refine Jp (k := 6) rfl rfl rfl rfl rfl (fun E' hS => Jk (j := 0) rfl hst rfl rfl rfl (by first | rfl | omega) (Nat.lt_succ_self 0)) ?_; refine Jp (k := 7) rfl rfl rfl rfl rfl (fun E' hS => Qr oR rfl hst (show [x0][0]? = some x0 from rfl) rfl rfl) ?_; refine Jpw (k := 0) (T0 := WE r2 C row own) (L0 := [WD r1 (Ty.mk k (n : Int) p [x0])]) (Rl := []) (List.Perm.refl _) rfl rfl rfl rfl rfl Joq (Jgd hb1 (by omega)) oN (fun _ p hp => hp) fun u => ?_; refine KO (k := 1) rfl rfl rfl rfl rfl (enters_of Tryz.func218 (by kernel_rfl) rfl) (Jpz (s := C) (by omega)) oN fun x => ?_; refine Jln (k := 8) rfl rfl rfl rfl rfl (enters_of Tryz.func221 (by kernel_rfl) rfl) hSz (fun q hq => .inr hq) ?_; refine Jp (k := 9) rfl rfl rfl rfl rfl (fun _ _ => (J2 rfl rfl rfl)) ?_; refine Ww (show _ = Value.int .i64 ((n * z : Nat) : Int) from congrArg (Value.int .i64) (by rw [← Int.natCast_mul]; exact wrap_i64 (by omega) (by omega))) ?_; refine QM (k := 10) rfl rfl rfl rfl rfl (enters_of Tryz.func220 (by kernel_rfl) rfl) (Jps (n := n * z) (by omega)) ?_; refine Kx ?_; refine Ji rfl rfl rfl Jia (vG hcn (by omega) (Km x.2 (by decide)) (Zs _)) (fun q hq => .inl (List.mem_append_left _ hq)) ?_; refine Jx 4 rfl ?_; refine pT rfl rfl rfl fun w1 hs1 => ?_; refine ⟨?_, hs1.keep⟩; rw [if_pos hp]; (try rw [← hz]); (try rw [← hC]); rfl
section
variable {R : Jm} {k n : Int} {p : Pl} {ins : List Ty} {a b c d : Nat} {bits : List Bool} {pb : Pl} {items : List Vl} {pi : Pl} {pick : Int} {s : BS}
theorem J12 (h : PureR Tryz.prog 161 [Ty.val (.mk k n p ins), KB items.length pi].toArray (J1 s) R) : PureR Tryz.prog 160 [Ty.val (.mk k n p ins), Vl.val (.mk a b c d bits pb items pi pick)].toArray (J1 s) R := by
 refine Jb Tryz.func160 rfl rfl fun w => ?_; refine JD ?_; refine Jq 2 rfl ?_; refine LN rfl fun r1 => ?_; refine LN rfl fun r2 => ?_; refine JJ 5 rfl ?_; refine LR rfl (Jd (xs := (Ty.mk k n p ins).cells) (n := 3) rfl (kn 1 rfl) rfl rfl (Ty.mk k n p ins).len) ?_
 refine LS 2 [0] rfl rfl ?_; refine Ji rfl rfl rfl (enters_of Tryz.func161 (by kernel_rfl) rfl) h oR ?_; refine Jx 4 rfl ?_; refine pT rfl rfl rfl fun w1 hs1 => ?_; exact ⟨rfl, hs1.keep⟩
theorem J13 (hs : Seg R items.length (QE items) pi) (h32 : s.length = 32) (hl : items.length ≤ 512) (h : PureR Tryz.prog 161 [Ty.val (.mk k n p ins), KB items.length pi].toArray (J1 s) R) : PureR Tryz.prog 162 [Ty.val (.mk k n p ins), Vl.val (.mk a b c d bits pb items pi pick)].toArray (J1 (Yz s items.length)) R := by
 refine Jb Tryz.func162 rfl rfl fun w => ?_; refine JD ?_; refine Jq 2 rfl ?_; refine LN rfl fun r1 => ?_; refine LN rfl fun r2 => ?_; refine JI 4 rfl ?_
 refine JT [] [(1, .pure), (4, .pure), (6, .pure), (7, .pure), (8, .pure)] 9 [0, 1, 2, 4, 5, 6, 3, 7, 8] (by kernel_rfl) (by kernel_rfl) (by first | exact (fun _ h => absurd h List.not_mem_nil) | simp [SubS] | (intro p hp; simp [hp])) ?_; refine KE (k := 0) rfl rfl rfl rfl rfl (Jd (xs := (Ty.mk k n p ins).cells) (n := 3) rfl (kn 1 rfl) rfl rfl (Ty.mk k n p ins).len) ?_
 refine Jp (k := 1) rfl rfl rfl rfl rfl (fun _ hS => (JA rfl rfl rfl)) ?_; refine KE (k := 2) rfl rfl rfl rfl rfl (Je rfl (kn 0 rfl) rfl rfl) ?_
 refine Jp (k := 4) rfl rfl rfl rfl rfl (fun _ hS => (JA rfl rfl rfl)) ?_; refine KE (k := 5) rfl rfl rfl rfl rfl (Je rfl (kn 0 rfl) rfl rfl) ?_; refine Jp (k := 6) rfl rfl rfl rfl rfl (fun _ hS => (Jz rfl hs rfl)) ?_; refine Qa (k := 3) rfl rfl rfl rfl rfl (enters_of Tryz.func161 (by kernel_rfl) rfl) h oR ?_; refine QM (k := 7) rfl rfl rfl rfl rfl Joo (Jph (by omega) (by omega)) ?_; refine Jp (k := 8) rfl rfl rfl rfl rfl (fun _ hS => (JC rfl)) ?_; refine Kx ?_; refine Jx 3 rfl ?_; refine pT rfl rfl rfl fun w1 hs1 => ?_; exact ⟨rfl, hs1.keep⟩
theorem J14 (h : PureR Tryz.prog 165 [Ty.val (.mk k n p ins), KB bits.length pb].toArray (J1 s) R) : PureR Tryz.prog 164 [Ty.val (.mk k n p ins), Vl.val (.mk a b c d bits pb items pi pick)].toArray (J1 s) R := by
 refine Jb Tryz.func164 rfl rfl fun w => ?_; refine JD ?_; refine Jq 2 rfl ?_; refine LN rfl fun r1 => ?_; refine LN rfl fun r2 => ?_; refine JJ 5 rfl ?_; refine LR rfl (Jd (xs := (Ty.mk k n p ins).cells) (n := 3) rfl (kn 1 rfl) rfl rfl (Ty.mk k n p ins).len) ?_
 refine LS 2 [0] rfl rfl ?_; refine Ji rfl rfl rfl (enters_of Tryz.func165 (by kernel_rfl) rfl) h oR ?_; refine Jx 4 rfl ?_; refine pT rfl rfl rfl fun w1 hs1 => ?_; exact ⟨rfl, hs1.keep⟩
theorem J15 (hs : Seg R bits.length (ju bits) pb) (h32 : s.length = 32) (hl : bits.length ≤ 512) (h : PureR Tryz.prog 165 [Ty.val (.mk k n p ins), KB bits.length pb].toArray (J1 s) R) : PureR Tryz.prog 166 [Ty.val (.mk k n p ins), Vl.val (.mk a b c d bits pb items pi pick)].toArray (J1 (Yz s bits.length)) R := by
 refine Jb Tryz.func166 rfl rfl fun w => ?_; refine JD ?_; refine Jq 2 rfl ?_; refine LN rfl fun r1 => ?_; refine LN rfl fun r2 => ?_; refine JI 4 rfl ?_
 refine JT [] [(1, .pure), (4, .pure), (6, .pure), (7, .pure), (8, .pure)] 9 [0, 1, 2, 4, 5, 6, 3, 7, 8] (by kernel_rfl) (by kernel_rfl) (by first | exact (fun _ h => absurd h List.not_mem_nil) | simp [SubS] | (intro p hp; simp [hp])) ?_; refine KE (k := 0) rfl rfl rfl rfl rfl (Jd (xs := (Ty.mk k n p ins).cells) (n := 3) rfl (kn 1 rfl) rfl rfl (Ty.mk k n p ins).len) ?_
 refine Jp (k := 1) rfl rfl rfl rfl rfl (fun _ hS => (JA rfl rfl rfl)) ?_; refine KE (k := 2) rfl rfl rfl rfl rfl (Je rfl (kn 0 rfl) rfl rfl) ?_
 refine Jp (k := 4) rfl rfl rfl rfl rfl (fun _ hS => (JA rfl rfl rfl)) ?_; refine KE (k := 5) rfl rfl rfl rfl rfl (Je rfl (kn 0 rfl) rfl rfl) ?_; refine Jp (k := 6) rfl rfl rfl rfl rfl (fun _ hS => (Jz rfl hs rfl)) ?_; refine Qa (k := 3) rfl rfl rfl rfl rfl (enters_of Tryz.func165 (by kernel_rfl) rfl) h oR ?_; refine QM (k := 7) rfl rfl rfl rfl rfl Joo (Jph (by omega) (by omega)) ?_; refine Jp (k := 8) rfl rfl rfl rfl rfl (fun _ hS => (JC rfl)) ?_; refine Kx ?_; refine Jx 3 rfl ?_; refine pT rfl rfl rfl fun w1 hs1 => ?_; exact ⟨rfl, hs1.keep⟩
theorem J16 {l : List BS} (hst : Seg R ins.length (Jcj ins) p) (hl : l.length ≤ ins.length) (hn : ins.length ≤ 16) (h32 : ∀ s ∈ l, s.length = 32) (h : PureT (α := jM l) Tryz.prog 169 [Ty.val (.mk k n p ins), KB items.length pi].toArray (fun x => rV x) [] (fun x => rL x) R) :
  PureR Tryz.prog 167 [Ty.val (.mk k n p ins), Vl.val (.mk a b c d bits pb items pi pick)].toArray (J1 (Vj l ins.length)) R := by
 refine Jb Tryz.func167 rfl rfl fun w => ?_; refine JD ?_; refine Jq 2 rfl ?_; refine LN rfl fun r1 => ?_; refine LN rfl fun r2 => ?_; refine JI 4 rfl ?_
 refine JT [] [(1, .pure), (3, .grow (Qe (Ji4 l) (fun x => rV x) (fun x => rL x))), (4, .pure), (6, .pure), (8, .pure)] 9 [0, 1, 2, 4, 5, 6, 3, 7, 8] (by kernel_rfl) (by kernel_rfl) (by first | exact (fun _ h => absurd h List.not_mem_nil) | simp [SubS] | (intro p hp; simp [hp])) ?_; refine KE (k := 0) rfl rfl rfl rfl rfl (Jd (xs := (Ty.mk k n p ins).cells) (n := 3) rfl (kn 1 rfl) rfl rfl (Ty.mk k n p ins).len) ?_
 refine Jp (k := 1) rfl rfl rfl rfl rfl (fun _ hS => (JA rfl rfl rfl)) ?_; refine KE (k := 2) rfl rfl rfl rfl rfl (Je rfl (kn 0 rfl) rfl rfl) ?_
 refine Jp (k := 4) rfl rfl rfl rfl rfl (fun _ hS => (JA rfl rfl rfl)) ?_; refine KE (k := 5) rfl rfl rfl rfl rfl (Je rfl (kn 1 rfl) rfl rfl) ?_; refine Jp (k := 6) rfl rfl rfl rfl rfl (fun _ hS => (Jz rfl hst rfl)) ?_; refine KO (k := 3) rfl rfl rfl rfl rfl (enters_of Tryz.func169 (by kernel_rfl) rfl) h (fun q hq => .inr hq) fun x => ?_; refine Qa (k := 7) rfl rfl rfl rfl rfl Jia (vG hl (by omega) (Km x.2 (by decide)) h32) (fun q hq => .inl (List.mem_append_left _ hq)) ?_; refine Jp (k := 8) rfl rfl rfl rfl rfl (fun _ hS => (JC rfl)) ?_; refine Kx ?_; refine Jx 3 rfl ?_; refine pT rfl rfl rfl fun w1 hs1 => ?_; exact ⟨rfl, hs1.keep⟩
theorem J17 {m : Nat} {y : Ty} {x : Vl} (hst : Seg R ins.length (Jcj ins) p) (hs : Seg R items.length (QE items) pi) (hm : m ≤ 8) (hy : ins[m]? = some y) (hx : items[0]? = some x) (h32 : s.length = 32) (h : PureR Tryz.prog 100 [y.val, x.val].toArray (J1 s) R) :
  PureR Tryz.prog 170 [Ty.val (.mk k n p ins), Vl.val (.mk a b c d bits pb items pi (m : Int))].toArray (J1 (Yz s m)) R := by
 have hm1 := (List.getElem?_eq_some_iff.1 hy).1
 have hm2 := (List.getElem?_eq_some_iff.1 hx).1
 refine Jb Tryz.func170 rfl rfl fun w => ?_; refine JD ?_; refine Jq 2 rfl ?_; refine LN rfl fun r1 => ?_; refine LN rfl fun r2 => ?_; refine JI 4 rfl ?_
 refine JT [] [(0, .pure), (2, .pure), (4, .pure), (6, .pure), (8, .pure), (11, .pure), (13, .pure), (14, .pure)] 15 [0, 1, 2, 3, 4, 5, 6, 7, 8, 9, 11, 12, 10, 13, 14] (by kernel_rfl) (by kernel_rfl) (by first | exact (fun _ h => absurd h List.not_mem_nil) | simp [SubS] | (intro p hp; simp [hp])) ?_
 refine Jp (k := 0) rfl rfl rfl rfl rfl (fun _ hS => (JA rfl rfl rfl)) ?_; refine KE (k := 1) rfl rfl rfl rfl rfl (Je rfl (kn 1 rfl) rfl rfl) ?_
 refine Jp (k := 2) rfl rfl rfl rfl rfl (fun _ hS => (JA rfl rfl rfl)) ?_; refine KE (k := 3) rfl rfl rfl rfl rfl (Je rfl (kn 0 rfl) rfl rfl) ?_; refine Jp (k := 4) rfl rfl rfl rfl rfl (fun E' hS => Jk (j := m) rfl hst rfl rfl rfl rfl hm1) ?_; refine KE (k := 5) rfl rfl rfl rfl rfl (Qr oR rfl hst hy rfl rfl) ?_
 refine Jp (k := 6) rfl rfl rfl rfl rfl (fun _ hS => (JA rfl rfl rfl)) ?_; refine KE (k := 7) rfl rfl rfl rfl rfl (Je rfl (kn 0 rfl) rfl rfl) ?_
 refine Jp (k := 8) rfl rfl rfl rfl rfl (fun E' hS => Jk (j := 0) rfl hs rfl rfl rfl (by first | rfl | omega) hm2) ?_; refine KE (k := 9) rfl rfl rfl rfl rfl (Wv oR rfl hs hx rfl rfl) ?_
 refine Jp (k := 11) rfl rfl rfl rfl rfl (fun _ hS => (JA rfl rfl rfl)) ?_; refine KE (k := 12) rfl rfl rfl rfl rfl (Je rfl (kn 0 rfl) rfl rfl) ?_; refine Qa (k := 10) rfl rfl rfl rfl rfl Jh7 h oR ?_; refine QM (k := 13) rfl rfl rfl rfl rfl Joo (Jph (by omega) (by omega)) ?_; refine Jp (k := 14) rfl rfl rfl rfl rfl (fun _ hS => (JC rfl)) ?_; refine Kx ?_; refine Jx 3 rfl ?_; refine pT rfl rfl rfl fun w1 hs1 => ?_; exact ⟨rfl, hs1.keep⟩
theorem XJ {g : FuncId} (hlk : Kz YB (.int .i64 k) (rootM.toList.map Ve) = some (.func (.func g) #[] #[])) (eg : Enters Tryz.prog g) (hg : PureR Tryz.prog g [Ty.val (.mk k n p ins), Vl.val (.mk a b c d bits pb items pi pick)].toArray (J1 s) R) :
  PureR Tryz.prog 100 [Ty.val (.mk k n p ins), Vl.val (.mk a b c d bits pb items pi pick)].toArray (J1 s) R := by
 refine Jb Tryz.func100 rfl rfl fun w => ?_; refine JD ?_; refine Jq 2 rfl ?_; refine LN rfl fun r1 => ?_; refine LN rfl fun r2 => ?_; refine JJ 5 rfl ?_; refine wa rfl rfl fun rm => ?_; refine KU (q := 0) (key := .int .i64 1) (val := .func (.func 159) #[] #[]) (Xz (t := 3) (by kernel_rfl)) rfl rfl rfl rfl rfl rfl ⟨_, rfl⟩ (by intro e he; simp at he) rfl rfl ?_
 refine KU (q := 0) (key := .int .i64 2) (val := .func (.func 159) #[] #[]) (Xz (t := 3) (by kernel_rfl)) rfl rfl rfl rfl rfl rfl ⟨_, rfl⟩ (by intro e he; simp at he; rcases he with rfl <;> exact ⟨_, rfl⟩) rfl rfl ?_
 refine KU (q := 0) (key := .int .i64 3) (val := .func (.func 160) #[] #[]) (Xz (t := 3) (by kernel_rfl)) rfl rfl rfl rfl rfl rfl ⟨_, rfl⟩ (by intro e he; simp at he; rcases he with rfl | rfl <;> exact ⟨_, rfl⟩) rfl rfl ?_
 refine KU (q := 0) (key := .int .i64 4) (val := .func (.func 162) #[] #[]) (Xz (t := 3) (by kernel_rfl)) rfl rfl rfl rfl rfl rfl ⟨_, rfl⟩ (by intro e he; simp at he; rcases he with rfl | rfl | rfl <;> exact ⟨_, rfl⟩) rfl rfl ?_
 refine KU (q := 0) (key := .int .i64 5) (val := .func (.func 164) #[] #[]) (Xz (t := 3) (by kernel_rfl)) rfl rfl rfl rfl rfl rfl ⟨_, rfl⟩ (by intro e he; simp at he; rcases he with rfl | rfl | rfl | rfl <;> exact ⟨_, rfl⟩) rfl rfl ?_
 refine KU (q := 0) (key := .int .i64 6) (val := .func (.func 166) #[] #[]) (Xz (t := 3) (by kernel_rfl)) rfl rfl rfl rfl rfl rfl ⟨_, rfl⟩ (by intro e he; simp at he; rcases he with rfl | rfl | rfl | rfl | rfl <;> exact ⟨_, rfl⟩) rfl rfl ?_
 refine KU (q := 0) (key := .int .i64 7) (val := .func (.func 167) #[] #[]) (Xz (t := 3) (by kernel_rfl)) rfl rfl rfl rfl rfl rfl ⟨_, rfl⟩ (by intro e he; simp at he; rcases he with rfl | rfl | rfl | rfl | rfl | rfl <;> exact ⟨_, rfl⟩) rfl rfl ?_
 refine KU (q := 0) (key := .int .i64 8) (val := .func (.func 170) #[] #[]) (Xz (t := 3) (by kernel_rfl)) rfl rfl rfl rfl rfl rfl ⟨_, rfl⟩ (by intro e he; simp at he; rcases he with rfl | rfl | rfl | rfl | rfl | rfl | rfl <;> exact ⟨_, rfl⟩) rfl rfl ?_; change HL _ _ _ ((rm, .map rootM 8) :: _) _ _ _ _; refine Xf 9 [2] rfl rfl ?_; refine LR rfl (Xe (v := .func (.func g) #[] #[]) (Xz (t := 3) (by kernel_rfl)) rfl rfl (kn 0 rfl) rfl rfl ⟨_, rfl⟩ Jlg (by show (Kz YB (.int .i64 k) (rootM.toList.map Ve)).getD _ = _; rw [hlk]; rfl)) ?_; refine LS 2 [2, 1] rfl rfl ?_; refine Ji rfl rfl rfl eg hg oR ?_; refine Jx 4 rfl ?_; refine pT rfl rfl rfl fun w1 hs1 => ?_; exact ⟨rfl, hs1.keep⟩
end
theorem Jlp {l : List Vl} {k pick : Int} {ins : List Ty} (h : l.length = 1) : (Ki l k pick ins 0).headD [] = KT (XG l 0) (JX k pick ins 0) := by
 match l, h with
 | [x], _ => rw [Ki]; rfl
theorem Jp1 {a b c d : Nat} {bits : List Bool} {pb : Pl} {items : List Vl} {pi : Pl} {pick k n : Int} {p : Pl} {ins : List Ty} (hcz : chk (.mk k n p ins) 0 = 0) (hfit : KL (.mk a b c d bits pb items pi pick) (.mk k n p ins) = 0) (hk : k = 3 ∨ k = 4 ∨ k = 7) : (WS k n ins items (Ki items k 0 ins 0)).length = 32 := by
 obtain ⟨q1, q2, q3⟩ := wJ hcz hfit
 have hrow := fun (j : Nat) x (h : items[j]? = some x) => Ji0 hcz hfit (by omega) h
 have hrs : ∀ s ∈ Ki items k 0 ins 0, s.length = 32 := fun s hs => by
  obtain ⟨j, x, h1, rfl⟩ := Yi hs
  rw [Nat.zero_add]
  obtain ⟨_, r1, r2, r3⟩ := hrow j x h1
  exact WX x _ 0 r2 r3
 have hrl := Wi items k 0 ins 0
 unfold WS
 by_cases h7 : k = 7
 ·rw [if_pos h7]
  exact VJ (by have := q3 h7; omega) hrs
 ·rw [if_neg h7]
  obtain ⟨w1, w2, w3, w4⟩ := q1 (by omega)
  match ins, w4 with
  | [x0], _ =>
  rw [show [x0].getD 0 default = x0 from rfl]
  by_cases hp : Xu x0 = true
  ·rw [if_pos hp]
   have hc0 := Zt hcz _ List.mem_cons_self
   obtain ⟨f1, f2, f3, f4⟩ := Zu hc0 hp
   refine VJ ?_ (Zs _); rw [Zd]
   unfold Jau
   have hz : ∀ v ∈ items, (Vu v x0).length = (KW x0).toNat := fun v hv => by
    obtain ⟨j, hj⟩ := List.getElem?_of_mem hv
    have hg := (hrow j v hj).2.2.2
    rw [Ze h7 (by omega)] at hg
    have := f4 v hg
    omega
   rw [jL hz]
   have hm : items.length * (KW x0).toNat ≤ n.toNat * (KW x0).toNat := Nat.mul_le_mul_right _ (by omega)
   omega
  ·rw [if_neg hp]
   exact VJ (by omega) hrs
set_option maxHeartbeats 1000000 in
theorem Jyh {R : Jm} {v : Vl} (hv : v.In R) : ∀ (t : Ty) (dp : Nat), t.In R → chk t (dp : Int) = 0 → KL v t = 0 → YF v ≤ 20000 → PureR Tryz.prog 100 [t.val, v.val].toArray (J1 (KT v t)) R := by
 have hv0 := hv
 induction hv with
 | @mk a b c d bits pb items pi pick ha hb hcc hd hlb hsb hl hs hp hi ih =>
 intro t dp ht hck hfit hw
 obtain ⟨k, n, p, ins⟩ := t
 have ht0 := ht
 cases ht with
 | mk hk hn hlt hst hit =>
 obtain ⟨hk8, ho, h6, hci⟩ := Vg hck
 obtain ⟨hf1, hf2, hf3⟩ := WW hfit
 obtain ⟨m1, m2, m3, m4⟩ := Jd4 hck hfit
 obtain ⟨q1, q2, q3⟩ := wJ hck hfit
 have hcz := Jav hck
 have hrow := fun (h8 : k ≠ 8) (j : Nat) x (h : items[j]? = some x) => Ji0 hcz hfit h8 h
 have hwi : ∀ x ∈ items, YF x ≤ 20000 := fun x hx => Nat.le_trans (Jge hx) hw
 have hrec : k ≠ 8 → ∀ (i : Nat) x, items[i]? = some x → PureR Tryz.prog 100 [(JX k 0 ins i).val, x.val].toArray (J1 (KT x (JX k 0 ins i))) R := fun h8 i x hx => by
  obtain ⟨_, r1, r2, r3⟩ := hrow h8 i x hx
  have hm := List.mem_of_getElem? hx
  exact ih x hm (hi x hm) _ 0 (hit _ r1) r2 r3 (hwi x hm)
 have hlen := WX _ _ dp hck hfit
 rw [Xv] at hlen ⊢
 by_cases h1 : k = 1
 ·subst h1
  rw [if_pos (.inl rfl)]; exact XJ rfl (enters_of Tryz.func159 (by kernel_rfl) rfl) (Jdy _ hv0).toR
 by_cases h2 : k = 2
 ·subst h2
  rw [if_pos (.inr rfl)]; exact XJ rfl (enters_of Tryz.func159 (by kernel_rfl) rfl) (Jdy _ hv0).toR
 rw [if_neg (by omega)] at hlen ⊢
 have hone : k ≠ 7 → k ≠ 8 → ∀ x0, ins = [x0] → ∀ N : Nat, n = (N : Int) → N ≤ 512 → items.length ≤ N → PureR Tryz.prog 161 [Ty.val (.mk k n p ins), KB items.length pi].toArray (J1 (WS k n ins items (Ki items k 0 ins 0))) R := fun h7 h8 x0 e N en hN hle => by
  subst e; subst en; refine Jyg ht0 h7 h8 (Zt hcz _ List.mem_cons_self) hs hle hN (fun v hv => ?_) hwi hi fun i x hx => ?_
  ·obtain ⟨j, hj⟩ := List.getElem?_of_mem hv
   have := (hrow h8 j v hj).2.2.2
   rwa [Ze h7 h8] at this
  ·have := hrec h8 i x hx
   rwa [Ze h7 h8] at this
 by_cases h4 : k = 4
 ·subst h4
  obtain ⟨w1, w2, w3, w4⟩ := q1 (.inr rfl)
  rw [if_pos rfl, wH (by decide)] at hlen ⊢
  have hrl : (WS 4 n ins items (Ki items 4 0 ins 0)).length = 32 := Jp1 hcz hfit (.inr (.inl rfl))
  obtain ⟨x0, hx0⟩ := List.length_eq_one_iff.1 w4
  exact XJ rfl (enters_of Tryz.func162 (by kernel_rfl) rfl) (J13 hs hrl m1 (hone (by decide) (by decide) x0 hx0 n.toNat (by omega) (by omega) (by omega)))
 rw [if_neg h4] at hlen ⊢
 by_cases h5 : k = 5
 ·subst h5
  obtain ⟨w1, w2, w3⟩ := q2 (.inl rfl)
  rw [if_pos rfl] at hlen ⊢; refine XJ rfl (enters_of Tryz.func164 (by kernel_rfl) rfl) (J14 ?_)
  have := Ji5 (k := 5) (p := p) (ins := ins) (l := bits) (n := n.toNat) (by omega) (by omega) hsb
  rwa [show ((n.toNat : Nat) : Int) = n by omega] at this
 rw [if_neg h5] at hlen ⊢
 by_cases h6 : k = 6
 ·subst h6
  obtain ⟨w1, w2, w3⟩ := q2 (.inr rfl)
  rw [if_pos rfl] at hlen ⊢; refine XJ rfl (enters_of Tryz.func166 (by kernel_rfl) rfl) (J15 hsb (VJ (qu w3) (Zs _)) m2 ?_)
  have := Ji5 (k := 6) (p := p) (ins := ins) (l := bits) (n := n.toNat) (by omega) (by omega) hsb
  rwa [show ((n.toNat : Nat) : Int) = n by omega] at this
 rw [if_neg h6] at hlen ⊢
 by_cases h8 : k = 8
 ·subst h8
  obtain ⟨w1, w2, w3, w4⟩ := m4 rfl
  obtain ⟨m, rfl⟩ : ∃ m : Nat, pick = (m : Int) := ⟨pick.toNat, by omega⟩
  have hx8 := XH (l := items) (i := 0) (by omega)
  have hg := Xs (j := 0) hf3 hx8.1
  have hin := qr (v := .mk a b c d bits pb items pi (m : Int)) (i := 0) hcz hf2 (show 0 < items.length by omega)
  have hty := QV hin
  have hX := ih _ hx8.2 (hi _ hx8.2) _ 0 (hit _ hty.2) (Zt hcz _ hty.2) hg (hwi _ hx8.2)
  have hXl := WX _ _ 0 (Zt hcz _ hty.2) hg
  rw [if_pos rfl, Jlp w1, Int.toNat_natCast]; exact XJ rfl (enters_of Tryz.func170 (by kernel_rfl) rfl) (J17 hst hs (by omega) (show ins[m]? = some _ from hty.1) hx8.1 hXl hX)
 rw [if_neg h8, wH h8] at hlen ⊢
 by_cases h3 : k = 3
 ·subst h3
  obtain ⟨w1, w2, w3, w4⟩ := q1 (.inl rfl)
  obtain ⟨x0, hx0⟩ := List.length_eq_one_iff.1 w4
  exact XJ rfl (enters_of Tryz.func160 (by kernel_rfl) rfl) (J12 (hone (by decide) (by decide) x0 hx0 n.toNat (by omega) (by omega) (by omega)))
 have h7 : k = 7 := by omega
 subst h7
 obtain ⟨w1, w2, w3⟩ := q3 rfl
 have hM : WS 7 n ins items (Ki items 7 0 ins 0) = Vj (Ki items 7 0 ins 0) ins.length := by unfold WS; rw [if_pos rfl]
 rw [hM]
 have hrl := Wi items 7 0 ins 0
 refine XJ rfl (enters_of Tryz.func167 (by kernel_rfl) rfl) (J16 hst (by omega) w3 (fun s hs => ?_) (zF ht0 (by decide) hs (by omega) (fun i hi => ?_) (hrec (by decide))))
 ·obtain ⟨j, x, h1, rfl⟩ := Yi hs
  rw [Nat.zero_add]
  obtain ⟨_, r1, r2, r3⟩ := hrow (by decide) j x h1
  exact WX x _ 0 r2 r3
 ·show i < ins.length
  omega
def Yk (t : Ty) (v : Vl) : BS × Int := if V8 t v ≠ 0 then ([], V8 t v) else (KT v t, 0)
theorem Ju1 {R : Jm} {t : Ty} {v : Vl} (ht : t.In R) (hv : v.In R) (hw : YF v ≤ 20000) : PureR Tryz.prog 45 [t.val, v.val].toArray (ZB (Yk t v)) R := by
 have h1 := Jo8 ht hv
 have h2 := fun h => Jyh hv t 0 ht (Y1 (t := t) (v := v) h).1 (Y1 h).2 hw
 unfold Yk
 generalize V8 t v = e at h1 h2 ⊢
 generalize KT v t = s at h2 ⊢
 obtain ⟨k, n, p, ins⟩ := t
 obtain ⟨a, b, c, d, bits, pb, items, pi, pick⟩ := v
 refine Jb Tryz.func45 rfl rfl fun w => ?_; refine JD ?_; refine Jq 2 rfl ?_; refine LN rfl fun r1 => ?_; refine LN rfl fun r2 => ?_; refine Xf 9 [1, 0] rfl rfl ?_; refine Ji rfl rfl rfl (enters_of Tryz.func99 (by kernel_rfl) rfl) h1 oR ?_; refine JI 9 rfl ?_; refine cD (fun g => ?_) fun g => ?_
 refine Kh 9 rfl ?_; refine Jg rfl rfl (.cons (Jj rfl) (.cons (Jj rfl) .nil)) (fun w1 hs1 => ?_); refine ⟨?_, hs1.keep⟩; rw [if_pos (by omega)]; rfl
 ·refine Vw 6 [1, 0] rfl rfl ?_; refine Ji rfl rfl rfl Jh7 (h2 (by omega)) oR ?_; refine Jx 5 rfl ?_; refine Jg rfl rfl (.cons (Jj rfl) (.cons (Jj rfl) .nil)) (fun w1 hs1 => ?_); refine ⟨?_, hs1.keep⟩; rw [if_neg (by omega)]; rfl
theorem Ji7 (l : List Vl) : (vJ l).length = l.length := by rw [WT, List.length_map]
theorem Jw3 : ∀ l : List Vl, (∀ x ∈ l, YF (ZF x) = YF x) → wL (vJ l) = wL l
 | [], _ => by rw [vJ]
 | x :: xs, h => by rw [vJ, wL, wL, h x List.mem_cons_self, Jw3 xs fun y hy => h y (List.mem_cons_of_mem _ hy)]
theorem J0n (v : Vl) : YF (ZF v) = YF v := by
 induction v using Vl.ind with
 | h a b c d bits pb items pi pick ih => rw [WF, YF, YF, Jw3 items ih]
theorem Ji8 (k pick : Int) (ins : List Ty) : ∀ (l : List Vl), (∀ x ∈ l, ∀ t, KL (ZF x) t = KL x t) → ∀ i : Nat, QN (vJ l) k pick ins i = QN l k pick ins i
 | [], _, i => by rw [vJ]
 | x :: xs, h, i => by rw [vJ, QN, QN, h x List.mem_cons_self, Ji8 k pick ins xs fun y hy => h y (List.mem_cons_of_mem _ hy)]
theorem Jyi (k n : Int) (m : Nat) (v : Vl) : ofT k n m (ZF v) = ofT k n m v := by
 obtain ⟨a, b, c, d, bits, pb, items, pi, pick⟩ := v
 rw [WF]; rw [V0 k n m a b c d bits none (vJ items) none pick _ rfl, V0 k n m a b c d bits pb items pi pick _ rfl]; simp only [Vk, Ji7]
theorem Jyj (v : Vl) : ∀ t, KL (ZF v) t = KL v t := by
 induction v using Vl.ind with
 | h a b c d bits pb items pi pick ih =>
 intro t
 obtain ⟨k, n, p, ins⟩ := t
 have hl := Ji7 items
 have ho := Jyi k n ins.length (.mk a b c d bits pb items pi pick)
 rw [WF] at ho ⊢; rw [KL, KL, hl, Ji8 k pick ins items ih, ho]
theorem Jp2 (t : Ty) : (Y4 t).k = t.k := by cases t; rw [Y4]; rfl
theorem Jw4 (t : Ty) : (Y4 t).n = t.n := by cases t; rw [Y4]; rfl
theorem Ji9 (t : Ty) : (Y4 t).ins = WU t.ins := by cases t; rw [Y4]; rfl
theorem erT_def : Y4 default = default := by show Y4 (.mk 0 0 none []) = .mk 0 0 none []; rw [Y4, WU]
mutual
theorem Jaz : ∀ (t : Ty) (d : Int), chk (Y4 t) d = chk t d
 | .mk k n p ins, d => by rw [Y4, chk, chk, Jea ins, wP]
theorem Jea : ∀ (l : List Ty) (d : Int), XO (WU l) d = XO l d
 | [], _ => by rw [WU]
 | x :: xs, d => by rw [WU, XO, XO, Jaz x, Jea xs]
end
mutual
theorem Jeb : ∀ (t : Ty), Xh (Y4 t) = Xh t
 | .mk k n p ins => by rw [Y4, Xh, Xh, Jec ins]
theorem Jec : ∀ (l : List Ty), qf (WU l) = qf l
 | [] => by rw [WU]
 | x :: xs => by rw [WU, qf, qf, Jeb x, Jec xs]
end
mutual
theorem wR : ∀ (t : Ty), KW (Y4 t) = KW t
 | .mk k n p ins => by rw [Y4, KW, KW, Jed ins]
theorem Jed : ∀ (l : List Ty), VY (WU l) = VY l
 | [] => by rw [WU]
 | x :: xs => by rw [WU, VY, VY, wR x, Jed xs]
end
theorem zG (t : Ty) : V4 (Y4 t) = V4 t := by unfold V4; rw [Jaz, Jeb]
theorem Jp3 (t : Ty) : yJ (Y4 t) = yJ t := by unfold yJ; rw [zG, wR]
theorem Jee : ∀ l : List Ty, Vm (l.map Y4) = Vm l
 | [] => rfl
 | x :: xs => by rw [List.map_cons, Vm, Vm, Jp3, Jee xs]
theorem Jef (ins : List Ty) (i : Nat) : (WU ins).getD i default = Y4 (ins.getD i default) := by
 rw [wO, List.getD_eq_getElem?_getD, List.getD_eq_getElem?_getD, List.getElem?_map]
 cases ins[i]? with
 | none => exact erT_def.symm
 | some x => rfl
theorem wT (k pick : Int) (ins : List Ty) (i : Nat) : JX k pick (WU ins) i = Y4 (JX k pick ins i) := by unfold JX; exact Jef ins _
mutual
theorem Jja : ∀ (v : Vl) (t : Ty), KL v (Y4 t) = KL v t
 | .mk a b c d bits pb items pi pick, .mk k n p ins => by rw [Y4, KL, KL, wP, Jeg items]
theorem Jeg : ∀ (l : List Vl) (k pick : Int) (ins : List Ty) (i : Nat), QN l k pick (WU ins) i = QN l k pick ins i
 | [], _, _, _, _ => by rw [QN, QN]
 | x :: xs, k, pick, ins, i => by rw [QN, QN, wT, Jja x, Jeg xs]
end
theorem Jp4 (t : Ty) (v : Vl) : V8 (Y4 t) v = V8 t v := by unfold V8; rw [Jaz, Jja]
theorem wU (h : Nat) : ∀ (l : List (Ty × BS)) (f th : BS), ZC h (l.map fun p => (Y4 p.1, p.2)) f th = ZC h l f th
 | [], f, th => rfl
 | (x, s) :: l, f, th => by rw [List.map_cons, ZC, ZC, zG, wU h l, wU h l]
mutual
theorem Jjb : ∀ (v : Vl) (t : Ty), Vu v (Y4 t) = Vu v t
 | .mk a b c d bits pb items pi pick, t => by
  have h1 : ((Ql items t.k pick t.ins 0).map fun p => (Y4 p.1, p.2)).headD (default, []) = (fun p : Ty × BS => (Y4 p.1, p.2)) ((Ql items t.k pick t.ins 0).headD (default, [])) := by
   cases Ql items t.k pick t.ins 0 with
   | nil => show (default, []) = (Y4 default, []); rw [erT_def]
   | cons x l => rfl
  have h2 : (((Ql items t.k pick t.ins 0).map fun p => (Y4 p.1, p.2)).map Prod.fst) = ((Ql items t.k pick t.ins 0).map Prod.fst).map Y4 := by rw [List.map_map, List.map_map]; rfl
  rw [Vu, Vu, Jp2, Jw4, Ji9, Jeh items, wU, h1, h2, Jee]
theorem Jeh : ∀ (l : List Vl) (k pick : Int) (ins : List Ty) (i : Nat), Ql l k pick (WU ins) i = (Ql l k pick ins i).map fun p => (Y4 p.1, p.2)
 | [], _, _, _, _ => by rw [Ql, Ql]; rfl
 | x :: xs, k, pick, ins, i => by rw [Ql, Ql, wT, Jjb x, Jeh xs]; rfl
end
theorem Jp5 (items : List Vl) (x : Ty) : WR items (Y4 x) = WR items x := by unfold WR; rw [List.map_congr_left fun v _ => Jjb v x]
theorem Jp6 (k n : Int) (ins : List Ty) (items : List Vl) (rs : List BS) : WS k n (WU ins) items rs = WS k n ins items rs := by
 unfold WS Xu
 rw [Jef, wP, Jp2, Jp5, wR]
mutual
theorem Jei : ∀ (v : Vl) (t : Ty), KT v (Y4 t) = KT v t
 | .mk a b c d bits pb items pi pick, t => by rw [KT, KT, Jp2, Jw4, Ji9, zH items, Jp6]
theorem zH : ∀ (l : List Vl) (k pick : Int) (ins : List Ty) (i : Nat), Ki l k pick (WU ins) i = Ki l k pick ins i
 | [], _, _, _, _ => by rw [Ki, Ki]
 | x :: xs, k, pick, ins, i => by rw [Ki, Ki, wT, Jei x, zH xs]
end
theorem Jlq (t : Ty) (v : Vl) : Yk (Y4 t) v = Yk t v := by unfold Yk; rw [Jp4, Jei]
def wW (x : BS × BS) : Vl := KY [yN x.1, yN x.2] 0
def acV (a : AcE) : Vl := KY [yN a.addr, .mk a.nonce 0 0 0 [] none [] none 0, .mk a.bal.a a.bal.b a.bal.c a.bal.d [] none [] none 0, yN a.code, KY (a.slots.map wW) 0] 0
def Zf (l : List AcE) : Vl := KY (l.map acV) 0
theorem Jjc : chk qv 0 = 0 := by decide +kernel
def QB (l : List AcE) : BS × Int := if KC l ≠ 0 then ([], KC l) else Yk qv (Zf l)
theorem Vl.In.up {R R' : Jm} {v : Vl} (h : v.In R) (hs : ∀ q ∈ R, q ∈ R') : v.In R' := h.mono hs
theorem J0o {s : BS} {r : Nat} {Lr : Jm} (hl : s.length ≤ 100000) (h : (r, Obj.cells (QE (s.map ZW)).toArray 0 (0, 0)) ∈ Lr) : Vl.In Lr (.mk 0 0 0 0 [] none (s.map ZW) (some (⟨r, 0, none⟩, s.length)) 0) :=
 .mk u0 u0 u0 u0 (by decide) rfl (by rw [List.length_map]; omega) ⟨by rw [List.length_map]; exact Nat.le_refl _, fun _ => ⟨rfl, _, 0, (0, 0), h, by rw [List.drop_zero, List.toList_toArray, List.take_length]⟩⟩ i0 fun x hx => by
  obtain ⟨b, _, rfl⟩ := List.mem_map.1 hx
  exact (Jw1 b).mono fun q hq => absurd hq List.not_mem_nil
def Jp7 {s : BS} (hl : s.length ≤ 100000) : VR (yN s) := ⟨_, [(0, .cells (QE (s.map ZW)).toArray 0 (0, 0))], J0o hl (List.mem_singleton_self _), Jw2 s _⟩
theorem Jp8 {Lr : Jm} {its : List Vl} {r e n : Nat} (h : (r, Obj.cells (QE its).toArray e (0, 0)) ∈ Lr) (hn : its.length = n) (hl : n ≤ 1000) (hi : ∀ x ∈ its, x.In Lr) : Vl.In Lr (.mk 0 0 0 0 [] none its (some (⟨r, 0, none⟩, n)) 0) :=
 .mk u0 u0 u0 u0 (by decide) rfl (by omega) ⟨Nat.le_of_eq hn, fun _ => ⟨rfl, _, e, (0, 0), h, by rw [List.drop_zero, List.toList_toArray, List.take_length]⟩⟩ i0 hi
theorem Jyk {us : List Vl} {F yL zL : Jm} {y z : Vl} {rb e : Nat} (hin : ∀ x ∈ us, x.In F) (hy : y.In yL) (hz : z.In zL) {q : Vl} (hq : q ∈ us ++ [Vl.mk 0 0 0 0 [] none [y, z] (some (⟨rb, 0, none⟩, 2)) 0]) : q.In ((rb, Obj.cells (QE [y, z]).toArray e (0, 0)) :: (zL ++ (yL ++ F))) := by
 rcases List.mem_append.1 hq with hq | hq
 ·exact (hin q hq).mono fun p hp => by simp [hp]
 ·rw [List.mem_singleton.1 hq]
  refine Jp8 List.mem_cons_self rfl (by decide) fun x hx => ?_; simp only [List.mem_cons, List.not_mem_nil, or_false] at hx
  rcases hx with rfl | rfl
  ·exact hy.mono fun p hp => by simp [hp]
  ·exact hz.mono fun p hp => by simp [hp]
theorem Jyl {slots : List (BS × BS)} {j : Nat} {us : List Vl} {k v : BS} {y z : Vl} {p : Pl} (her : us.map ZF = (slots.take j).map wW) (hx : slots[j]? = some (k, v)) (hy : ZF y = yN k) (hz : ZF z = yN v) : (us ++ [Vl.mk 0 0 0 0 [] none [y, z] p 0]).map ZF = (slots.take (j + 1)).map wW := by
 rw [List.map_append, her, ZN hx, List.map_append]
 congr 1
 show [ZF _] = [wW (k, v)]
 rw [WF, WT, List.map_cons, List.map_cons, List.map_nil, hy, hz]; rfl
theorem Jym {vs us : List Vl} {E F U yL zL : Jm} {y z : Vl} {rb e nonce ba bb bc bd n : Nat} {p : Pl} (hin : ∀ x ∈ vs, x.In E) (hs : Seg U n (QE us) p) (hn : us.length = n) (hn2 : n ≤ 100000) (hin2 : ∀ x ∈ us, x.In F) (hnu : VV nonce) (hba : W4.ok ⟨ba, bb, bc, bd⟩) (hy : y.In yL) (hz : z.In zL) {q : Vl}
  (hq : q ∈ vs ++ [Vl.mk 0 0 0 0 [] none [y, .mk nonce 0 0 0 [] none [] none 0, .mk ba bb bc bd [] none [] none 0, z, .mk 0 0 0 0 [] none us p 0] (some (⟨rb, 0, none⟩, 5)) 0]) : q.In ((rb, Obj.cells (QE [y, .mk nonce 0 0 0 [] none [] none 0, .mk ba bb bc bd [] none [] none 0, z, .mk 0 0 0 0 [] none us p 0]).toArray e (0, 0)) :: (zL ++ (yL ++ (U ++ (F ++ E))))) := by
 rcases List.mem_append.1 hq with hq | hq
 ·exact (hin q hq).mono fun p hp => by simp [hp]
 ·rw [List.mem_singleton.1 hq]
  refine Jp8 List.mem_cons_self rfl (by decide) fun x hx => ?_; simp only [List.mem_cons, List.not_mem_nil, or_false] at hx
  rcases hx with rfl | rfl | rfl | rfl | rfl
  ·exact hy.mono fun p hp => by simp [hp]
  ·exact .mk hnu u0 u0 u0 (by decide) rfl (by decide) rfl i0 (fun x hx => nomatch hx)
  ·exact .mk hba.a hba.b hba.c hba.d (by decide) rfl (by decide) rfl i0 (fun x hx => nomatch hx)
  ·exact hz.mono fun p hp => by simp [hp]
  ·refine .mk u0 u0 u0 u0 (by decide) rfl (by omega) (by rw [hn]; exact hs.mono fun p hp => by simp [hp]) i0 fun x hx => (hin2 x hx).mono fun p hp => by simp [hp]
theorem Jyn {accts : List AcL} {i : Nat} {vs us : List Vl} {addr code : BS} {nonce ba bb bc bd : Nat} {slots : List (BS × BS)} {ap p p2 : Pl} {y z : Vl} (her : vs.map ZF = (accts.take i).map fun a => acV a.er) (hx : accts[i]? = some ⟨addr, nonce, ⟨ba, bb, bc, bd⟩, code, slots, ap⟩) (hy : ZF y = yN addr) (hz : ZF z = yN code) (hu : us.map ZF = (slots.take slots.length).map wW) :
  (vs ++ [Vl.mk 0 0 0 0 [] none [y, .mk nonce 0 0 0 [] none [] none 0, .mk ba bb bc bd [] none [] none 0, z, .mk 0 0 0 0 [] none us p 0] p2 0]).map ZF = (accts.take (i + 1)).map fun a => acV a.er := by
 rw [List.map_append, her, ZN hx, List.map_append]
 congr 1
 show [ZF _] = [acV (AcL.er ⟨addr, nonce, ⟨ba, bb, bc, bd⟩, code, slots, ap⟩)]
 rw [List.take_length] at hu; simp only [WF, WT, List.map_cons, List.map_nil, hy, hz, hu]
 rfl
theorem Jyo (accts : List AcL) : Vl.mk 0 0 0 0 [] none (accts.map fun a => acV a.er) none 0 = Zf (accts.map AcL.er) := by
 unfold Zf KY
 rw [List.map_map]; rfl
open Classical in
theorem Ju2 {α : Type} (a b : α) (Z Y M U W : List α) : (a :: b :: (Z ++ (Y ++ (M ++ (U ++ W))))).Perm (U ++ (a :: b :: (M ++ (Z ++ (Y ++ W))))) := by
 rw [List.perm_iff_count]; intro x; simp only [List.count_append, List.count_cons]; omega
open Classical in
theorem Ju3 {α : Type} (a b : α) (Z Y M U F V E : List α) : (a :: b :: (Z ++ (Y ++ (M ++ (U ++ (F ++ (V ++ E))))))).Perm (V ++ (a :: b :: (M ++ (Z ++ (Y ++ (U ++ (F ++ E))))))) := by
 rw [List.perm_iff_count]; intro x; simp only [List.count_append, List.count_cons]; omega
open Classical in
theorem Ju4 {α : Type} (r a b : α) (M Z Y F W : List α) : (r :: a :: b :: (M ++ (Z ++ (Y ++ (F ++ W))))).Perm (a :: (M ++ (r :: ((b :: (Z ++ (Y ++ F))) ++ W)))) := by
 rw [List.perm_iff_count]; intro x; simp only [List.count_append, List.count_cons]; omega
open Classical in
theorem Ju5 {α : Type} (r a b : α) (M W : List α) : (r :: a :: b :: (M ++ W)).Perm (a :: (M ++ (r :: (b :: W)))) := by
 rw [List.perm_iff_count]; intro x; simp only [List.count_append, List.count_cons]; omega
def Ac1 (a : AcL) : Prop := a.addr.length ≤ 100000 ∧ a.code.length ≤ 100000 ∧ a.slots.length ≤ 100000 ∧ ∀ x ∈ a.slots, x.1.length ≤ 100000 ∧ x.2.length ≤ 100000
set_option maxHeartbeats 2000000 in
theorem Ju6 {R : Jm} {accts : List AcL} {p : Pl} (hs : StL.In R ⟨accts, p⟩) (hn : accts.length ≤ 100000) (hb : ∀ a ∈ accts, Ac1 a) : PureT (α := VR (Zf (accts.map AcL.er))) Tryz.prog 47 [KB accts.length p].toArray (fun y => y.x.val) [] (fun y => y.L) R := by
 have hseg : Seg R accts.length (KA accts) p := hs.seg
 refine Jw Tryz.func47 rfl rfl fun w => ?_; refine JD ?_; refine Jq 2 rfl ?_; refine LN rfl fun r1 => ?_; refine JJ 4 rfl ?_; refine LN rfl fun r2 => ?_; refine JJ 6 rfl ?_; refine LR rfl (Jz rfl hseg rfl) ?_; refine JI 4 rfl ?_; refine Jy (σ := Nat × List Vl × QD × Jm) (fun q => q.1 ≤ accts.length ∧ rowOk 7 q.1 (QE q.2.1) q.2.2.1 ∧ (∀ x ∈ q.2.1, Vl.In q.2.2.2 x) ∧ q.2.1.map ZF = (accts.take q.1).map fun a => acV a.er) (fun q => [(2, XS r1), (3, XS r2), (9, KB accts.length p), (10, .int .i64 (accts.length : Int)), (11, .int .i64 (q.1 : Int))]) (fun q => (r2, .cells #[.int .u64 0, .int .u64 0, .int .u64 0, .int .u64 0, .slice none 0 0, J8 q.1 q.2.2.1, .int .i64 0] 89 (0, 0)) :: (r1, .cells #[.int .u64 0, .int .u64 0, .int .u64 0, .int .u64 0, .slice none 0 0, .slice none 0 0, .int .i64 0] 89 (0, 0)) :: (JH 89 (QE q.2.1) q.2.2.1 ++ q.2.2.2)) (fun _ _ _ => True) (fun q => accts.length - q.1) (0, [], none, []) ⟨Nat.zero_le _, ⟨rfl, rfl⟩, fun x hx => (nomatch hx), rfl⟩ (lK rfl) (by simp only [JH, List.nil_append, List.append_nil]; exact List.Sublist.refl _) (fun _ _ h => h) ?_; rintro ⟨i, vs, row, E⟩ ⟨hi1, hrow, hin, her⟩; simp only at hi1 hrow hin her; refine JK 6 rfl ?_; refine cD (fun g => ?_) fun g => ?_
 ·refine JK 5 rfl ?_
  obtain ⟨a, ha, hma⟩ := Qs (show i < accts.length by omega)
  have ha2 := hs.accts a hma
  obtain ⟨hb1, hb2, hb3, hb4⟩ := hb a hma
  obtain ⟨addr, nonce, ⟨ba, bb, bc, bd⟩, code, slots, ap⟩ := a
  have hnu : VV nonce := ha2.nonce
  have hba : W4.ok ⟨ba, bb, bc, bd⟩ := ha2.bal
  have hsg : Seg R slots.length (Jtl slots) ap := ha2.seg
  simp only at hb1 hb2 hb3 hb4; refine Jq 1 rfl ?_
  refine LR rfl (Jk (j := i) rfl hseg rfl rfl rfl (by first | rfl | omega) (by omega)) ?_; refine LR rfl (JV AcL.len oR rfl hseg ha rfl rfl) ?_; refine LN rfl fun r3 => ?_
  refine LT 0 rfl rfl ?_; refine JJ 4 rfl ?_; refine LN rfl fun r4 => ?_; refine Xf 7 [1] rfl rfl ?_; refine LR rfl (Jz rfl hsg rfl) ?_; refine JI 4 rfl ?_; refine Jy (σ := Nat × List Vl × QD × Jm) (fun q => q.1 ≤ slots.length ∧ rowOk 7 q.1 (QE q.2.1) q.2.2.1 ∧ (∀ x ∈ q.2.1, Vl.In q.2.2.2 x) ∧ q.2.1.map ZF = (slots.take q.1).map wW) (fun q => [(2, XS r1), (3, XS r2), (5, XS r3), (6, XS r4), (9, KB accts.length p), (10, .int .i64 (accts.length : Int)), (11, .int .i64 (i : Int)), (16, KB slots.length ap), (17, .int .i64 (slots.length : Int)), (18, .int .i64 (q.1 : Int))]) (fun q => (r4, .cells #[.int .u64 0, .int .u64 0, .int .u64 0, .int .u64 0, .slice none 0 0, J8 q.1 q.2.2.1, .int .i64 0] 89 (0, 0)) :: (r3, .cells #[J1 addr, uV nonce, uV ba, uV bb, uV bc, uV bd, J1 code, KB slots.length ap] 48 (0, 0)) :: (r2, .cells #[.int .u64 0, .int .u64 0, .int .u64 0, .int .u64 0, .slice none 0 0, J8 i row, .int .i64 0] 89 (0, 0)) :: (r1, .cells #[.int .u64 0, .int .u64 0, .int .u64 0, .int .u64 0, .slice none 0 0, .slice none 0 0, .int .i64 0] 89 (0, 0)) :: (JH 89 (QE q.2.1) q.2.2.1 ++ (q.2.2.2 ++ (JH 89 (QE vs) row ++ E)))) (fun _ _ _ => True) (fun q => slots.length - q.1) (0, [], none, []) ⟨Nat.zero_le _, ⟨rfl, rfl⟩, fun x hx => (nomatch hx), rfl⟩ (lK rfl) (by simp only [JH, List.nil_append, List.append_nil]; exact List.Sublist.refl _) (fun _ _ h => h) ?_; rintro ⟨j, us, rw2, F⟩ ⟨hj1, hrow2, hin2, her2⟩; simp only at hj1 hrow2 hin2 her2; refine JK 6 rfl ?_; refine cD (fun g => ?_) fun g => ?_
  ·refine JK 5 rfl ?_
   obtain ⟨⟨k, v⟩, hx, hmx⟩ := Qs (show j < slots.length by omega)
   obtain ⟨hk1, hv1⟩ := hb4 _ hmx
   simp only at hk1 hv1; refine Jq 1 rfl ?_
   refine LR rfl (Jk (j := j) rfl hsg rfl rfl rfl (by first | rfl | omega) (by omega)) ?_; refine LR rfl (JV JW oR rfl hsg hx rfl rfl) ?_; refine LN rfl fun r5 => ?_
   refine LT 0 rfl rfl ?_; refine JI 2 rfl ?_
   refine JT [(r4, .cells #[.int .u64 0, .int .u64 0, .int .u64 0, .int .u64 0, .slice none 0 0, J8 j rw2, .int .i64 0] 89 (0, 0)), (r5, .cells #[J1 k, J1 v] 97 (0, 0))] [(0, .pure), (1, .pure), (2, .pure), (3, .pure), (4, .grow (Qe (Jp7 hk1) (fun y => y.x.val) (fun y => y.L))), (5, .pure), (6, .pure), (7, .grow (Qe (Jp7 hv1) (fun y => y.x.val) (fun y => y.L))), (8, .dep [26, 29] (Jcm 2 89)), (9, .pure), (10, .dep [31] (Jcm 1 89))] 11 [0, 1, 2, 3, 5, 6, 4, 7, 8, 9, 10] (by kernel_rfl) (by kernel_rfl) (by first | exact (fun _ h => absurd h List.not_mem_nil) | simp [SubS] | (intro p hp; simp [hp])) ?_
   refine Jp (k := 0) rfl rfl rfl rfl rfl (fun _ hS => (JA rfl rfl rfl)) ?_; refine Jp (k := 1) rfl rfl rfl rfl rfl (fun _ hS => (Je rfl (.inl (hS _ (Ju (n := 0) rfl))) rfl rfl)) ?_
   refine Jp (k := 2) rfl rfl rfl rfl rfl (fun _ hS => (JA rfl rfl rfl)) ?_; refine Jp (k := 3) rfl rfl rfl rfl rfl (fun _ hS => (Je rfl (.inl (hS _ (Ju (n := 1) rfl))) rfl rfl)) ?_
   refine Jp (k := 5) rfl rfl rfl rfl rfl (fun _ hS => (JA rfl rfl rfl)) ?_; refine Jp (k := 6) rfl rfl rfl rfl rfl (fun _ hS => (Je rfl (.inl (hS _ (Ju (n := 1) rfl))) rfl rfl)) ?_; refine KO (k := 4) rfl rfl rfl rfl rfl Jh8 (Jay hk1) oN fun y => ?_
   obtain ⟨⟨ya, yb, yc, yd, ybits, ypb, yitems, ypi, ypick⟩, yL, yok, yer⟩ := y
   refine KO (k := 7) rfl rfl rfl rfl rfl Jh8 (Jay hv1) oN fun y => ?_
   obtain ⟨⟨za, zb, zc, zd, zbits, zpb, zitems, zpi, zpick⟩, zL, zok, zer⟩ := y
   refine Vh (k := 8) (dv := [_, _]) (n := 2) (sz := 7) (vs := [_, _]) (zs := [_, _, _, _, _, _, _, _, _, _, _, _, _, _]) (r := [uV ya, uV yb, uV yc, uV yd, KB ybits.length ypb, KB yitems.length ypi, .int .i64 ypick, uV za, uV zb, uV zc, uV zd, KB zbits.length zpb, KB zitems.length zpi, .int .i64 zpick]) rfl rfl rfl rfl rfl rfl rfl rfl rfl rfl rfl rfl rfl (by rw [JO]; exact rfl) rfl fun rb => ?_; refine Jp (k := 9) rfl rfl rfl rfl rfl (fun _ hS => (Jt (r := [_, _, _, _, _, _, _]) rfl rfl)) ?_; refine Vh (k := 10) (dv := [_]) (n := 1) (sz := 7) (vs := [_]) (zs := [_, _, _, _, _, _, _]) (r := [.int .u64 0, .int .u64 0, .int .u64 0, .int .u64 0, .slice none 0 0, .slice (some ⟨rb, 0, none⟩) 2 2, .int .i64 0]) rfl rfl rfl rfl rfl rfl rfl rfl rfl rfl rfl rfl rfl (by rw [JO]; exact rfl) rfl fun rc => ?_; refine Kx ?_; refine Kk (Ju2 (M := [_, _, _, _, _]) ..) ?_; refine JM (L0 := _) (xs := QE us) (row := rw2) (n := j) (sz := 7) (b := 88) (news := [_, _, _, _, _, _, _]) (List.Perm.refl _) rfl rfl rfl rfl (kn 0 rfl) rfl rfl rfl rfl rfl (by decide) rfl rfl rfl (by decide) hrow2 (by omega) (by omega) fun ra cap sp hra => ?_
   refine LS 1 [] rfl rfl ?_; refine Kn (k := 4) (cs' := #[.int .u64 0, .int .u64 0, .int .u64 0, .int .u64 0, .slice none 0 0, J8 (j + 1) (some (ra, cap, sp)), .int .i64 0]) rfl rfl rfl rfl rfl rfl rfl rfl rfl rfl ?_; refine JJ 5 rfl ?_; refine J3 (show _ = Value.int .i64 ((j + 1 : Nat) : Int) from by rw [wrap_i64 (by omega) (by omega)]; congr 1 <;> omega) ?_; refine Jx 2 rfl ?_; refine Jv ?_
   have hvc : QE us ++ Vl.cells (.mk 0 0 0 0 [] none [(.mk ya yb yc yd ybits ypb yitems ypi ypick), (.mk za zb zc zd zbits zpb zitems zpi zpick)] (some (⟨rb, 0, none⟩, 2)) 0) = QE (us ++ [.mk 0 0 0 0 [] none [(.mk ya yb yc yd ybits ypb yitems ypi ypick), (.mk za zb zc zd zbits zpb zitems zpi zpick)] (some (⟨rb, 0, none⟩, 2)) 0]) := by unfold QE; rw [List.flatMap_append]; simp
   refine Jd8 (Ju4 (M := [_, _, _, _, _]) ..) ?_; exact Jo (j + 1, us ++ [.mk 0 0 0 0 [] none [(.mk ya yb yc yd ybits ypb yitems ypi ypick), (.mk za zb zc zd zbits zpb zitems zpi zpick)] (some (⟨rb, 0, none⟩, 2)) 0], some (ra, cap, sp), _ :: (zL ++ (yL ++ F))) ⟨by simp only; omega, by simp only; rw [← hvc]; exact hra, fun z hz => Jyk hin2 yok zok hz, Jyl her2 hx yer zer⟩ (by simp only; omega) (lK rfl) (by simp only; rw [← hvc]; exact .cons _ (.cons _ (List.Sublist.refl _))) (fun _ _ h => h)
  ·refine JK 5 rfl ?_
   obtain rfl : j = slots.length := by omega
   have hul : us.length = slots.length := by have := congrArg List.length her2; simpa using this
   have hvr2 : J8 slots.length rw2 = KB us.length (Qo rw2) := by rw [hul]; exact (QZ _ _ (fun h => by rw [h] at hrow2; exact hrow2.1)).symm
   rw [hvr2]
   refine JT [(r2, .cells #[.int .u64 0, .int .u64 0, .int .u64 0, .int .u64 0, .slice none 0 0, J8 i row, .int .i64 0] 89 (0, 0)), (r3, .cells #[J1 addr, uV nonce, uV ba, uV bb, uV bc, uV bd, J1 code, KB slots.length ap] 48 (0, 0)), (r4, .cells #[.int .u64 0, .int .u64 0, .int .u64 0, .int .u64 0, .slice none 0 0, KB us.length (Qo rw2), .int .i64 0] 89 (0, 0))] [(0, .pure), (1, .pure), (2, .pure), (3, .pure), (4, .grow (Qe (Jp7 hb1) (fun y => y.x.val) (fun y => y.L))), (5, .pure), (6, .pure), (7, .pure), (8, .pure), (9, .pure), (10, .pure), (11, .pure), (12, .pure), (13, .pure), (14, .grow (Qe (Jp7 hb2) (fun y => y.x.val) (fun y => y.L))), (15, .pure), (16, .dep [40, 44, 47, 50, 51] (Jcm 5 89)), (17, .pure), (18, .dep [53] (Jcm 1 89))] 19 [0, 1, 2, 3, 5, 6, 9, 10, 11, 12, 13, 15, 4, 7, 8, 14, 16, 17, 18] (by kernel_rfl) (by kernel_rfl) (by first | exact (fun _ h => absurd h List.not_mem_nil) | simp [SubS] | (intro p hp; simp [hp])) ?_
   refine Jp (k := 0) rfl rfl rfl rfl rfl (fun _ hS => (JA rfl rfl rfl)) ?_; refine Jp (k := 1) rfl rfl rfl rfl rfl (fun _ hS => (Je rfl (.inl (hS _ (Ju (n := 0) rfl))) rfl rfl)) ?_
   refine Jp (k := 2) rfl rfl rfl rfl rfl (fun _ hS => (JA rfl rfl rfl)) ?_; refine Jp (k := 3) rfl rfl rfl rfl rfl (fun _ hS => (Je rfl (.inl (hS _ (Ju (n := 1) rfl))) rfl rfl)) ?_
   refine Jp (k := 5) rfl rfl rfl rfl rfl (fun _ hS => (JA rfl rfl rfl)) ?_; refine Jp (k := 6) rfl rfl rfl rfl rfl (fun _ hS => (Je rfl (.inl (hS _ (Ju (n := 1) rfl))) rfl rfl)) ?_
   refine Jp (k := 9) rfl rfl rfl rfl rfl (fun _ hS => (JA rfl rfl rfl)) ?_; refine Jp (k := 10) rfl rfl rfl rfl rfl (fun _ hS => (Js (vs := [_, _, _, _]) rfl (.inl (hS _ (Ju (n := 1) rfl))) rfl rfl rfl rfl)) ?_; refine Jp (k := 11) rfl rfl rfl rfl rfl (fun _ hS => (Jt (r := [_, _, _, _, _, _, _]) rfl rfl)) ?_
   refine Jp (k := 12) rfl rfl rfl rfl rfl (fun _ hS => (JA rfl rfl rfl)) ?_; refine Jp (k := 13) rfl rfl rfl rfl rfl (fun _ hS => (Je rfl (.inl (hS _ (Ju (n := 1) rfl))) rfl rfl)) ?_; refine Jp (k := 15) rfl rfl rfl rfl rfl (fun _ hS => (Js (vs := [_, _, _, _, _, _, _]) rfl (.inl (hS _ (Ju (n := 2) rfl))) rfl rfl rfl rfl)) ?_; refine KO (k := 4) rfl rfl rfl rfl rfl Jh8 (Jay hb1) oN fun y => ?_
   obtain ⟨⟨ya, yb, yc, yd, ybits, ypb, yitems, ypi, ypick⟩, yL, yok, yer⟩ := y
   refine QM (k := 7) rfl rfl rfl rfl rfl qR (VK _) ?_; refine Jp (k := 8) rfl rfl rfl rfl rfl (fun _ hS => (Jt (r := [_, _, _, _, _, _, _]) rfl rfl)) ?_; refine KO (k := 14) rfl rfl rfl rfl rfl Jh8 (Jay hb2) oN fun y => ?_
   obtain ⟨⟨za, zb, zc, zd, zbits, zpb, zitems, zpi, zpick⟩, zL, zok, zer⟩ := y
   refine Vh (k := 16) (dv := [_, _, _, _, _]) (n := 5) (sz := 7) (vs := [_, _, _, _, _]) (zs := [_, _, _, _, _, _, _, _, _, _, _, _, _, _, _, _, _, _, _, _, _, _, _, _, _, _, _, _, _, _, _, _, _, _, _]) (r := [uV ya, uV yb, uV yc, uV yd, KB ybits.length ypb, KB yitems.length ypi, .int .i64 ypick, uV nonce, uV 0, uV 0, uV 0, .slice none 0 0, .slice none 0 0, .int .i64 0, uV ba, uV bb, uV bc, uV bd, .slice none 0 0, .slice none 0 0, .int .i64 0, uV za, uV zb, uV zc, uV zd, KB zbits.length zpb, KB zitems.length zpi, .int .i64 zpick, uV 0, uV 0, uV 0, uV 0, .slice none 0 0, KB us.length (Qo rw2), .int .i64 0]) rfl rfl rfl rfl rfl rfl rfl rfl rfl rfl rfl rfl rfl (by rw [JO]; exact rfl) rfl fun rb => ?_; refine Jp (k := 17) rfl rfl rfl rfl rfl (fun _ hS => (Jt (r := [_, _, _, _, _, _, _]) rfl rfl)) ?_; refine Vh (k := 18) (dv := [_]) (n := 1) (sz := 7) (vs := [_]) (zs := [_, _, _, _, _, _, _]) (r := [.int .u64 0, .int .u64 0, .int .u64 0, .int .u64 0, .slice none 0 0, .slice (some ⟨rb, 0, none⟩) 5 5, .int .i64 0]) rfl rfl rfl rfl rfl rfl rfl rfl rfl rfl rfl rfl rfl (by rw [JO]; exact rfl) rfl fun rc => ?_; refine Kx ?_; refine Kk (Ju3 (M := [_, _, _, _]) ..) ?_; refine JM (L0 := _) (xs := QE vs) (row := row) (n := i) (sz := 7) (b := 88) (news := [_, _, _, _, _, _, _]) (List.Perm.refl _) rfl rfl rfl rfl (kn 0 rfl) rfl rfl rfl rfl rfl (by decide) rfl rfl rfl (by decide) hrow (by omega) (by omega) fun ra cap sp hra => ?_
   refine LS 1 [] rfl rfl ?_; refine Kn (k := 5) (cs' := #[.int .u64 0, .int .u64 0, .int .u64 0, .int .u64 0, .slice none 0 0, J8 (i + 1) (some (ra, cap, sp)), .int .i64 0]) rfl rfl rfl rfl rfl rfl rfl rfl rfl rfl ?_; refine JJ 5 rfl ?_; refine J3 (show _ = Value.int .i64 ((i + 1 : Nat) : Int) from by rw [wrap_i64 (by omega) (by omega)]; congr 1 <;> omega) ?_; refine Jx 2 rfl ?_; refine Jv ?_
   have hvc : QE vs ++ Vl.cells (.mk 0 0 0 0 [] none [(.mk ya yb yc yd ybits ypb yitems ypi ypick), (.mk nonce 0 0 0 [] none [] none 0), (.mk ba bb bc bd [] none [] none 0), (.mk za zb zc zd zbits zpb zitems zpi zpick), .mk 0 0 0 0 [] none us (Qo rw2) 0] (some (⟨rb, 0, none⟩, 5)) 0) = QE (vs ++ [.mk 0 0 0 0 [] none [(.mk ya yb yc yd ybits ypb yitems ypi ypick), (.mk nonce 0 0 0 [] none [] none 0), (.mk ba bb bc bd [] none [] none 0), (.mk za zb zc zd zbits zpb zitems zpi zpick), .mk 0 0 0 0 [] none us (Qo rw2) 0] (some (⟨rb, 0, none⟩, 5)) 0]) := by unfold QE; rw [List.flatMap_append]; simp
   refine Jd8 (Ju5 (M := [_, _, _, _]) ..) ?_; exact Jo (i + 1, vs ++ [.mk 0 0 0 0 [] none [(.mk ya yb yc yd ybits ypb yitems ypi ypick), (.mk nonce 0 0 0 [] none [] none 0), (.mk ba bb bc bd [] none [] none 0), (.mk za zb zc zd zbits zpb zitems zpi zpick), .mk 0 0 0 0 [] none us (Qo rw2) 0] (some (⟨rb, 0, none⟩, 5)) 0], some (ra, cap, sp), _ :: (zL ++ (yL ++ (_ ++ (F ++ E))))) ⟨by simp only; omega, by simp only; rw [← hvc]; exact hra, fun z hz => Jym hin (Km hrow2 (by decide)) hul hb3 hin2 hnu hba yok zok hz, Jyn her ha yer zer her2⟩ (by simp only; omega) (lK rfl) (by simp only; rw [← hvc]; exact .cons _ (.cons _ (.cons _ (List.Sublist.refl _)))) (fun _ _ h => h)
 ·refine JK 6 rfl ?_
  have honeV : ([.int .u64 0, .int .u64 0, .int .u64 0, .int .u64 0, .slice none 0 0, J8 i row, .int .i64 0] : List Value).all Q3 = true := by cases row <;> rfl
  refine Jq 1 rfl ?_; refine LR rfl (Jd (xs := [.int .u64 0, .int .u64 0, .int .u64 0, .int .u64 0, .slice none 0 0, J8 i row, .int .i64 0]) (n := 7) rfl (kn 0 rfl) rfl rfl rfl) ?_; refine Jh (k := 1) (n := 7) (ys := [.int .u64 0, .int .u64 0, .int .u64 0, .int .u64 0, .slice none 0 0, J8 i row, .int .i64 0]) rfl rfl rfl rfl rfl rfl rfl honeV rfl ?_; refine Jx 3 rfl ?_; refine Jg rfl rfl (.cons (Jr (vs := [_, _, _, _, _, _, _]) rfl (kn 1 rfl) rfl rfl) .nil) (fun w1 hs1 => ?_)
  have hiM : i = accts.length := by omega
  have hvl : vs.length = i := by have := congrArg List.length her; simp at this; omega
  rw [hiM, List.take_length] at her; rw [← hvl] at hrow
  have hvr : J8 i row = KB vs.length (Qo row) := by rw [← hvl]; exact (QZ _ _ (fun h => by rw [h] at hrow; exact hrow.1)).symm
  exact ⟨⟨.mk 0 0 0 0 [] none vs (Qo row) 0, JH 89 (QE vs) row ++ E, Jd7 (by omega) (Km hrow (by decide)) hin i0, by rw [WF, WT, her]; exact Jyo ..⟩, congrArg (fun z => Ending.returned (Value.agg #[.int .u64 0, .int .u64 0, .int .u64 0, .int .u64 0, .slice none 0 0, z, .int .i64 0])) hvr, hs1.weakL (.cons _ (.cons _ (List.Sublist.refl _)))⟩
def vA (x : AcL) : Value := .agg (AcL.cells x).toArray
theorem Ja0 (x : AcL) : Pure Tryz.prog 98 [vA x].toArray (J1 (AcL.addr x)) := by
 refine Jl Tryz.func98 rfl rfl fun w => ?_; refine JD ?_; refine Jq 2 rfl ?_; refine LN rfl fun r1 => ?_; refine Goq 11 [0] rfl rfl ?_; refine pT rfl rfl rfl fun w1 hs1 => ?_; exact ⟨rfl, hs1.keep⟩
theorem Jp9 {R : Jm} {xs : List AcL} {p : Pl} (hl : xs.length ≤ 9223372036854775807) (hs : Seg R xs.length (xs.flatMap AcL.cells) p) {g : FuncId} {caps : List Value} {pr : AcL → Bool} (eg : Enters Tryz.prog g) (hg : ∀ x ∈ xs, PureR Tryz.prog g (vA x :: caps).toArray (.bool (pr x)) R) :
  PureR Tryz.prog 42 [KB xs.length p, .func (.func g) #[] caps.toArray].toArray (.int .i64 (Yw pr xs)) R := by
 refine Jb Tryz.func42 rfl rfl fun w => ?_; refine JD ?_; refine Jq 9 rfl ?_; refine LR rfl (Jz rfl hs rfl) ?_; refine JI 4 rfl ?_; refine Jy (σ := Nat) (fun i => i ≤ xs.length ∧ ∀ j, j < i → ∀ y, xs[j]? = some y → pr y = false) (fun i => [(0, KB xs.length p), (1, .func (.func g) #[] caps.toArray), (7, .int .i64 (xs.length : Int)), (8, .int .i64 (i : Int))]) (fun _ => []) (fun _ _ _ => True) (fun i => xs.length - i) 0 ⟨by omega, fun j hj => absurd hj (by omega)⟩ (lK rfl) (List.nil_sublist _) (fun _ _ h => h) ?_; rintro i ⟨hi1, hinv⟩; refine JK 6 rfl ?_; refine cD (fun h6 => ?_) fun h6 => ?_
 refine JK 11 rfl ?_
 obtain ⟨x, hx, hmx⟩ := Qs (show i < xs.length by omega)
 refine Jq 4 rfl ?_
 refine LR rfl (Jk (j := i) rfl hs rfl rfl rfl (by first | rfl | omega) (by omega)) ?_; refine LR rfl (JV AcL.len oR rfl hs hx rfl rfl) ?_; refine Ji rfl rfl rfl eg (hg x hmx) oR ?_; refine JI 2 rfl ?_; refine cD (fun h10 => ?_) fun h10 => ?_
 refine Kh 12 rfl ?_; refine pT rfl rfl rfl fun w1 hs1 => ?_; refine ⟨?_, hs1.keep⟩; rw [Jc2 hx (by assumption) hinv]; rfl
 refine Jq 5 rfl ?_; refine Jc (by omega) (by omega) ?_; refine Jx 2 rfl ?_; refine Jv ?_
 exact Jo (i + 1) ⟨by omega, fun j hj y hy => by
  rcases Nat.lt_succ_iff_lt_or_eq.1 hj with hj | rfl
  exact hinv j hj y hy
  rw [hx] at hy; cases hy; assumption⟩ (by omega) (lK rfl) (List.nil_sublist _) (fun _ _ h => h)
 ·refine Kh 11 rfl ?_; refine pT rfl rfl rfl fun w1 hs1 => ?_; refine ⟨?_, hs1.keep⟩; rw [Jc1 fun j x hx => hinv j (by have := (List.getElem?_eq_some_iff.1 hx).1; omega) x hx]; rfl
theorem Jqa {R : Jm} {xs : List AcL} {p : Pl} (hl : xs.length ≤ 9223372036854775807) (hs : Seg R xs.length (xs.flatMap AcL.cells) p) :
  PureR Tryz.prog 97 [KB xs.length p, fV 98].toArray (.bool (Q4 AcL.addr xs)) R := by
 refine Jb Tryz.func97 rfl rfl fun w => ?_; refine JD ?_; refine JK 12 rfl ?_; refine Jy (σ := Nat) (fun i => (i = 0 ∨ i < xs.length) ∧ ∀ j x y, j < i → xs[j]? = some x → xs[j + 1]? = some y → Op.bytesLess (AcL.addr x) (AcL.addr y) = true) (fun i => [(0, KB xs.length p), (1, fV 98), (5, .int .i64 ((i + 1 : Nat) : Int))]) (fun _ => []) (fun _ _ _ => True) (fun i => xs.length - i) 0 ⟨.inl rfl, fun j _ _ hj => absurd hj (by omega)⟩ (lK rfl) (List.nil_sublist _) (fun _ _ h => h) ?_; rintro i ⟨hi1, hinv⟩; refine Jq 5 rfl ?_; refine LR rfl (Jz rfl hs rfl) ?_; refine JI 3 rfl ?_; refine cD (fun g => ?_) fun g => ?_
 refine JK 5 rfl ?_
 obtain ⟨x, hx, hmx⟩ := Qs (show i < xs.length by omega)
 obtain ⟨y, hy, hmy⟩ := Qs (show i + 1 < xs.length by omega)
 refine JE 14 (by kernel_rfl) (by kernel_rfl) ?_; refine Ja rfl rfl rfl (Jf rfl) ?_; refine Ja rfl rfl rfl (Jf rfl) ?_; refine Ja rfl rfl rfl (Jf rfl) ?_; refine Ja rfl rfl rfl (J2 rfl rfl rfl) ?_; refine Q9 (by omega) (by omega) ?_
 refine Ja rfl rfl rfl (Jk (j := i) rfl hs rfl rfl rfl (by first | rfl | omega) (by omega)) ?_; refine Ja rfl rfl rfl (JV AcL.len oR rfl hs hx rfl rfl) ?_; refine Ky rfl rfl rfl Jtz (Ja0 x) ?_; refine Ja rfl rfl rfl (Jf rfl) ?_; refine Ja rfl rfl rfl (Jf rfl) ?_; refine Ja rfl rfl rfl (Jf rfl) ?_
 refine Ja rfl rfl rfl (Jk (j := (i + 1)) rfl hs rfl rfl rfl (by first | rfl | omega) (by omega)) ?_; refine Ja rfl rfl rfl (JV AcL.len oR rfl hs hy rfl rfl) ?_; refine Ky rfl rfl rfl Jtz (Ja0 y) ?_; refine Ja rfl rfl rfl (vy rfl rfl) ?_; refine JS ?_; refine JI 2 rfl ?_; refine cD (fun g => ?_) fun g => ?_
 refine Kh 11 rfl ?_; refine pT rfl rfl rfl fun w1 hs1 => ?_; refine ⟨?_, hs1.keep⟩; rw [j9 hx hy (by simp_all)]; rfl
 refine Jq 6 rfl ?_; refine Jc (by omega) (by omega) ?_; refine Jx 2 rfl ?_; refine Jv ?_
 exact Jo (i + 1) ⟨.inr (by omega), fun j u v hj hu hv => by
  rcases Nat.lt_succ_iff_lt_or_eq.1 hj with hj | rfl
  exact hinv j u v hj hu hv
  rw [hx] at hu; rw [hy] at hv; cases hu; cases hv; simp_all⟩ (by omega) (lK rfl) (List.nil_sublist _) (fun _ _ h => h)
 ·refine Kh 11 rfl ?_; refine pT rfl rfl rfl fun w1 hs1 => ?_; refine ⟨?_, hs1.keep⟩; rw [Zn fun j u v hu hv => hinv j u v (by have := (List.getElem?_eq_some_iff.1 hv).1; omega) hu hv]; rfl
def vS (x : (BS × BS)) : Value := .agg (Qk x).toArray
theorem Ja1 (x : (BS × BS)) : Pure Tryz.prog 156 [vS x].toArray (J1 (Prod.fst x)) := by
 refine Jl Tryz.func156 rfl rfl fun w => ?_; refine JD ?_; refine Jq 2 rfl ?_; refine LN rfl fun r1 => ?_; refine Goq 11 [0] rfl rfl ?_; refine pT rfl rfl rfl fun w1 hs1 => ?_; exact ⟨rfl, hs1.keep⟩
theorem Jej {R : Jm} {xs : List (BS × BS)} {p : Pl} (hl : xs.length ≤ 9223372036854775807) (hs : Seg R xs.length (xs.flatMap Qk) p) {g : FuncId} {caps : List Value} {pr : (BS × BS) → Bool} (eg : Enters Tryz.prog g) (hg : ∀ x ∈ xs, PureR Tryz.prog g (vS x :: caps).toArray (.bool (pr x)) R) :
  PureR Tryz.prog 114 [KB xs.length p, .func (.func g) #[] caps.toArray].toArray (.int .i64 (Yw pr xs)) R := by
 refine Jb Tryz.func114 rfl rfl fun w => ?_; refine JD ?_; refine Jq 9 rfl ?_; refine LR rfl (Jz rfl hs rfl) ?_; refine JI 4 rfl ?_; refine Jy (σ := Nat) (fun i => i ≤ xs.length ∧ ∀ j, j < i → ∀ y, xs[j]? = some y → pr y = false) (fun i => [(0, KB xs.length p), (1, .func (.func g) #[] caps.toArray), (7, .int .i64 (xs.length : Int)), (8, .int .i64 (i : Int))]) (fun _ => []) (fun _ _ _ => True) (fun i => xs.length - i) 0 ⟨by omega, fun j hj => absurd hj (by omega)⟩ (lK rfl) (List.nil_sublist _) (fun _ _ h => h) ?_; rintro i ⟨hi1, hinv⟩; refine JK 6 rfl ?_; refine cD (fun h6 => ?_) fun h6 => ?_
 refine JK 11 rfl ?_
 obtain ⟨x, hx, hmx⟩ := Qs (show i < xs.length by omega)
 refine Jq 4 rfl ?_
 refine LR rfl (Jk (j := i) rfl hs rfl rfl rfl (by first | rfl | omega) (by omega)) ?_; refine LR rfl (JV JW oR rfl hs hx rfl rfl) ?_; refine Ji rfl rfl rfl eg (hg x hmx) oR ?_; refine JI 2 rfl ?_; refine cD (fun h10 => ?_) fun h10 => ?_
 refine Kh 12 rfl ?_; refine pT rfl rfl rfl fun w1 hs1 => ?_; refine ⟨?_, hs1.keep⟩; rw [Jc2 hx (by assumption) hinv]; rfl
 refine Jq 5 rfl ?_; refine Jc (by omega) (by omega) ?_; refine Jx 2 rfl ?_; refine Jv ?_
 exact Jo (i + 1) ⟨by omega, fun j hj y hy => by
  rcases Nat.lt_succ_iff_lt_or_eq.1 hj with hj | rfl
  exact hinv j hj y hy
  rw [hx] at hy; cases hy; assumption⟩ (by omega) (lK rfl) (List.nil_sublist _) (fun _ _ h => h)
 ·refine Kh 11 rfl ?_; refine pT rfl rfl rfl fun w1 hs1 => ?_; refine ⟨?_, hs1.keep⟩; rw [Jc1 fun j x hx => hinv j (by have := (List.getElem?_eq_some_iff.1 hx).1; omega) x hx]; rfl
theorem Jqb {R : Jm} {xs : List (BS × BS)} {p : Pl} (hl : xs.length ≤ 9223372036854775807) (hs : Seg R xs.length (xs.flatMap Qk) p) :
  PureR Tryz.prog 155 [KB xs.length p, fV 156].toArray (.bool (Q4 Prod.fst xs)) R := by
 refine Jb Tryz.func155 rfl rfl fun w => ?_; refine JD ?_; refine JK 12 rfl ?_; refine Jy (σ := Nat) (fun i => (i = 0 ∨ i < xs.length) ∧ ∀ j x y, j < i → xs[j]? = some x → xs[j + 1]? = some y → Op.bytesLess (Prod.fst x) (Prod.fst y) = true) (fun i => [(0, KB xs.length p), (1, fV 156), (5, .int .i64 ((i + 1 : Nat) : Int))]) (fun _ => []) (fun _ _ _ => True) (fun i => xs.length - i) 0 ⟨.inl rfl, fun j _ _ hj => absurd hj (by omega)⟩ (lK rfl) (List.nil_sublist _) (fun _ _ h => h) ?_; rintro i ⟨hi1, hinv⟩; refine Jq 5 rfl ?_; refine LR rfl (Jz rfl hs rfl) ?_; refine JI 3 rfl ?_; refine cD (fun g => ?_) fun g => ?_
 refine JK 5 rfl ?_
 obtain ⟨x, hx, hmx⟩ := Qs (show i < xs.length by omega)
 obtain ⟨y, hy, hmy⟩ := Qs (show i + 1 < xs.length by omega)
 refine JE 14 (by kernel_rfl) (by kernel_rfl) ?_; refine Ja rfl rfl rfl (Jf rfl) ?_; refine Ja rfl rfl rfl (Jf rfl) ?_; refine Ja rfl rfl rfl (Jf rfl) ?_; refine Ja rfl rfl rfl (J2 rfl rfl rfl) ?_; refine Q9 (by omega) (by omega) ?_
 refine Ja rfl rfl rfl (Jk (j := i) rfl hs rfl rfl rfl (by first | rfl | omega) (by omega)) ?_; refine Ja rfl rfl rfl (JV JW oR rfl hs hx rfl rfl) ?_; refine Ky rfl rfl rfl Jh9 (Ja1 x) ?_; refine Ja rfl rfl rfl (Jf rfl) ?_; refine Ja rfl rfl rfl (Jf rfl) ?_; refine Ja rfl rfl rfl (Jf rfl) ?_
 refine Ja rfl rfl rfl (Jk (j := (i + 1)) rfl hs rfl rfl rfl (by first | rfl | omega) (by omega)) ?_; refine Ja rfl rfl rfl (JV JW oR rfl hs hy rfl rfl) ?_; refine Ky rfl rfl rfl Jh9 (Ja1 y) ?_; refine Ja rfl rfl rfl (vy rfl rfl) ?_; refine JS ?_; refine JI 2 rfl ?_; refine cD (fun g => ?_) fun g => ?_
 refine Kh 11 rfl ?_; refine pT rfl rfl rfl fun w1 hs1 => ?_; refine ⟨?_, hs1.keep⟩; rw [j9 hx hy (by simp_all)]; rfl
 refine Jq 6 rfl ?_; refine Jc (by omega) (by omega) ?_; refine Jx 2 rfl ?_; refine Jv ?_
 exact Jo (i + 1) ⟨.inr (by omega), fun j u v hj hu hv => by
  rcases Nat.lt_succ_iff_lt_or_eq.1 hj with hj | rfl
  exact hinv j u v hj hu hv
  rw [hx] at hu; rw [hy] at hv; cases hu; cases hv; simp_all⟩ (by omega) (lK rfl) (List.nil_sublist _) (fun _ _ h => h)
 ·refine Kh 11 rfl ?_; refine pT rfl rfl rfl fun w1 hs1 => ?_; refine ⟨?_, hs1.keep⟩; rw [Zn fun j u v hu hv => hinv j u v (by have := (List.getElem?_eq_some_iff.1 hv).1; omega) hu hv]; rfl
theorem Ju7 (a : BS) : (!decide (a = a)) = false := by simp
theorem Jjd (a : BS) : Pure Tryz.prog 126 [J1 a].toArray (.bool false) := by
 refine Jl Tryz.func126 rfl rfl fun w => ?_; refine JD ?_; refine Jq 9 rfl ?_; refine LR rfl (X8 rfl rfl) ?_; refine J3 (congrArg Value.bool (Ju7 a)) ?_; refine Jx 4 rfl ?_; refine pT rfl rfl rfl fun w1 hs1 => ?_; exact ⟨rfl, hs1.keep⟩
theorem zI (a b : BS) : Pure Tryz.prog 76 [J1 a, J1 b].toArray (.int .i64 (Yd a b)) := by
 refine Jl Tryz.func76 rfl rfl fun w => ?_; refine JD ?_; refine Jq 8 rfl ?_; refine Jn rfl rfl rfl (enters_of Tryz.func126 (by kernel_rfl) rfl) (Jjd a) ?_; refine JJ 6 rfl ?_; refine Jn rfl rfl rfl (enters_of Tryz.func126 (by kernel_rfl) rfl) (Jjd b) ?_; refine JI 9 rfl ?_; refine J0 rfl (fun g => ?_) (fun g => ?_)
 try exact Bool.noConfusion g
 ·try simp only [ZZ] at g
  refine JK 8 rfl ?_; refine J0 rfl (fun g => ?_) (fun g => ?_)
  try exact Bool.noConfusion g
  ·try simp only [ZZ] at g
   refine Jq 7 rfl ?_; refine LR rfl (Jhe rfl rfl) ?_; refine JI 2 rfl ?_; refine cD (fun g => ?_) fun g => ?_
   refine Kh 7 rfl ?_; refine pT rfl rfl rfl fun w1 hs1 => ?_; refine ⟨?_, hs1.keep⟩
   unfold Yd
   simp_all [JG]
   ·refine Jq 7 rfl ?_; refine LR rfl (xZ rfl rfl) ?_; refine JI 2 rfl ?_; refine cD (fun g => ?_) fun g => ?_
    refine Kh 7 rfl ?_; refine pT rfl rfl rfl fun w1 hs1 => ?_; refine ⟨?_, hs1.keep⟩
    unfold Yd
    simp_all [JG]
    ·refine Kh 8 rfl ?_; refine pT rfl rfl rfl fun w1 hs1 => ?_; refine ⟨?_, hs1.keep⟩
     unfold Yd
     simp_all [JG]
theorem Jqc : Lib.repeatL [0] 32 = Qc := by decide +kernel
theorem Jqd : Pure Tryz.prog 116 [].toArray (J1 Qc) := by
 rw [← Jqc]; refine Jl Tryz.func116 rfl rfl fun w => ?_; refine JD ?_; refine Jq 7 rfl ?_; refine Jn rfl rfl rfl (enters_of Tryz.func189 (by kernel_rfl) rfl) (zw (n := 32) (by decide)) ?_; refine Jx 4 rfl ?_; refine pT rfl rfl rfl fun w1 hs1 => ?_; exact ⟨rfl, hs1.keep⟩
theorem J0p {R : Jm} {rb e : Nat} (hb : (rb, Obj.cells #[fV 98] e (0, 0)) ∈ R) (x : AcL) (k : BS) : PureR Tryz.prog 351 [vA x, J1 k, .pointer (some ⟨rb, 0, none⟩)].toArray (.int .i64 (Yd (AcL.addr x) k)) R := by
 refine Jb Tryz.func351 rfl rfl fun w => ?_; refine JD ?_; refine Jq 2 rfl ?_; refine LN rfl fun r1 => ?_; refine JJ 5 rfl ?_; refine LR rfl (Je rfl (Or.inr hb) rfl rfl) ?_; refine LR rfl (Js (vs := [_, _, _, _, _, _, _, _]) rfl (kn 0 rfl) rfl rfl rfl rfl) ?_; refine Jn rfl rfl rfl Jtz (Ja0 x) ?_; refine Q1 rfl (Jn rfl rfl rfl (enters_of Tryz.func76 (by kernel_rfl) rfl) (zI (AcL.addr x) k) (Jx 4 rfl ?_)); refine pT rfl rfl rfl fun w1 hs1 => ?_; exact ⟨rfl, hs1.keep⟩
theorem Jlr {R : Jm} {xs : List AcL} {p : Pl} (hl : xs.length ≤ 1000) (hs : Seg R xs.length (xs.flatMap AcL.cells) p) (hso : Ks AcL.addr xs) {k : BS} {g : FuncId} {caps : List Value} (eg : Enters Tryz.prog g) (hg : ∀ x ∈ xs, PureR Tryz.prog g (vA x :: J1 k :: caps).toArray (.int .i64 (Yd (AcL.addr x) k)) R) :
  PureR Tryz.prog 350 [KB xs.length p, J1 k, .func (.func g) #[] caps.toArray].toArray (.tuple #[.int .i64 (ZV AcL.addr k xs : Nat), .bool (VD AcL.addr k xs)]) R := by
 refine Jb Tryz.func350 rfl rfl fun w => ?_; refine JD ?_; refine Jq 9 rfl ?_; refine LR rfl (Jz rfl hs rfl) ?_; refine JI 12 rfl ?_; refine Jy (σ := Nat × Nat) (fun s => (s.1 ≤ s.2 ∧ s.2 ≤ xs.length) ∧ (∀ q y, q < s.1 → xs[q]? = some y → Op.bytesLess (AcL.addr y) k = true) ∧ ∀ q y, s.2 ≤ q → xs[q]? = some y → Op.bytesLess (AcL.addr y) k = false) (fun s => [(0, KB xs.length p), (1, J1 k), (2, .func (.func g) #[] caps.toArray), (8, .int .i64 (xs.length : Int)), (9, .int .i64 (s.1 : Int)), (10, .int .i64 (s.2 : Int))]) (fun _ => []) (fun _ _ _ => True) (fun s => s.2 - s.1) (0, xs.length) ⟨⟨Nat.zero_le _, Nat.le_refl _⟩, fun q _ hq => absurd hq (Nat.not_lt_zero q), fun q y hq hy => absurd (List.getElem?_eq_some_iff.1 hy).1 (by omega)⟩ (lK rfl) (List.nil_sublist _) (fun _ _ h => h) ?_; rintro ⟨i, j⟩ ⟨⟨hi0, hj0⟩, hi1, hi2⟩; simp only at hi0 hj0 hi1 hi2; change HC _ _ [(0, _), (1, _), (2, _), (8, _), (9, .int .i64 (i : Int)), (10, .int .i64 (j : Int))] _ _ _ _; refine JK 8 rfl ?_; refine cD (fun h7 => ?_) fun h7 => ?_
 refine Jq 8 rfl ?_; refine Jc (by omega) (by omega) ?_; refine VQ rfl (VE (by omega) (by omega) (LR rfl (qE (n := 1) (b := (((i + j) / 2 : Nat) : Int)) rfl rfl rfl (by decide) (by omega) (by omega)) ?_)); refine VQ rfl (Jc (by omega) (by omega) (JI 4 rfl ?_))
 obtain ⟨x, hx, hmx⟩ := Qs (show (i + j) / 2 < xs.length by omega)
 refine Jq 4 rfl ?_
 refine LR rfl (Jk (j := ((i + j) / 2)) rfl hs rfl rfl rfl (by first | rfl | omega) (by omega)) ?_; refine LR rfl (JV AcL.len oR rfl hs hx rfl rfl) ?_; refine Q1 rfl (Ji rfl rfl rfl eg (hg x hmx) oR ?_); refine VQ rfl (J3 (congrArg Value.bool (vz (AcL.addr x) k)) (JI 2 rfl ?_)); refine cD (fun h10 => ?_) fun h10 => ?_
 refine Jq 3 rfl ?_; refine Jc (by omega) (by omega) ?_; refine Jx 3 rfl ?_; refine Jv ?_; exact Jo ((i + j) / 2 + 1, j) ⟨⟨by simp only; omega, hj0⟩, Jc5 hso hx (by assumption), hi2⟩ (by simp only; omega) (lK rfl) (List.nil_sublist _) (fun _ _ h => h)
 refine Kh 5 rfl ?_; refine Jv ?_; exact Jo (i, (i + j) / 2) ⟨⟨by simp only; omega, by simp only; omega⟩, hi1, Jc6 hso hx (by assumption)⟩ (by simp only; omega) (lK rfl) (List.nil_sublist _) (fun _ _ h => h)
 ·refine JK 6 rfl ?_
  have hij : i = j := by omega
  have hlo : i = ZV AcL.addr k xs := Jn9 (by omega) hi1 (fun y hy => hi2 i y (by omega) hy)
  refine Jq 6 rfl ?_
  refine J6 39 rfl (fun gb => ?_) (fun gb => ?_) <;> (try simp only [ZZ] at gb) <;> first | (refine Q1 rfl ?_) | (refine LK rfl ?_)
  all_goals refine LW 2 [] rfl rfl ?_
  all_goals first | (obtain ⟨x, hx, hmx⟩ := Qs (show i < xs.length by omega); refine LR rfl (Jk (j := i) rfl hs rfl rfl rfl (by first | rfl | omega) (by omega)) ?_) | refine LK rfl ?_
  all_goals first | refine LR rfl (JV AcL.len oR rfl hs hx rfl rfl) ?_ | refine LK rfl ?_
  all_goals refine LW 1 [] rfl rfl ?_
  all_goals first | refine Ji rfl rfl rfl eg (hg x hmx) oR ?_ | refine LK rfl ?_
  all_goals first | (refine VQ rfl ?_; refine J3 (congrArg Value.bool (Jc4 (AcL.addr x) k)) ?_) | refine LK rfl ?_
  all_goals (
   refine LW 1 [] rfl rfl (Jx 3 rfl (ZT 2 rfl ?_)); refine Jg rfl rfl (.cons (Jj rfl) (.cons (Jj rfl) .nil)) (fun w1 hs1 => ?_); refine ⟨?_, hs1.keep⟩
   first | (rw [← Jc7 (kf := AcL.addr) (hlo ▸ hx), ← hlo]; rfl) | (rw [qp (kf := AcL.addr) (by omega), ← hlo]; rfl)
   skip)
theorem Jqe {R : Jm} {xs : List AcL} {p : Pl} (hl : xs.length ≤ 1000) (hs : Seg R xs.length (xs.flatMap AcL.cells) p) (hso : Ks AcL.addr xs) {k : BS} :
  PureR Tryz.prog 322 [KB xs.length p, J1 k, fV 98].toArray (.tuple #[.int .i64 (ZV AcL.addr k xs : Nat), .bool (VD AcL.addr k xs)]) R := by
 refine Jb Tryz.func322 rfl rfl fun w => ?_; refine JD ?_; refine Jq 2 rfl ?_; refine LN rfl fun r1 => ?_; refine JJ 8 rfl ?_; refine LR rfl (JN rfl rfl) ?_; refine Ji (Rl := (r1, Obj.cells #[fV 98] _ (0, 0)) :: R) rfl rfl rfl (enters_of Tryz.func350 (by kernel_rfl) rfl) (Jlr (caps := [.pointer (some ⟨r1, 0, none⟩)]) hl (hs.mono fun q hq => List.mem_cons_of_mem _ hq) hso (enters_of Tryz.func351 (by kernel_rfl) rfl) (fun x hx => J0p List.mem_cons_self x k)) (fun q hq => (List.mem_cons.1 hq).elim (fun h => Or.inl (by rw [h]; exact List.mem_cons_self)) Or.inr) ?_; refine Jx 7 rfl ?_; refine Jg rfl rfl (.cons (Jj rfl) (.cons (Jj rfl) .nil)) (fun w1 hs1 => ?_); exact ⟨rfl, hs1.keep⟩
theorem J0q {R : Jm} {rb e : Nat} (hb : (rb, Obj.cells #[fV 156] e (0, 0)) ∈ R) (x : (BS × BS)) (k : BS) : PureR Tryz.prog 355 [vS x, J1 k, .pointer (some ⟨rb, 0, none⟩)].toArray (.int .i64 (Yd (Prod.fst x) k)) R := by
 refine Jb Tryz.func355 rfl rfl fun w => ?_; refine JD ?_; refine Jq 2 rfl ?_; refine LN rfl fun r1 => ?_; refine JJ 5 rfl ?_; refine LR rfl (Je rfl (Or.inr hb) rfl rfl) ?_; refine LR rfl (Js (vs := [_, _]) rfl (kn 0 rfl) rfl rfl rfl rfl) ?_; refine Jn rfl rfl rfl Jh9 (Ja1 x) ?_; refine Q1 rfl (Jn rfl rfl rfl (enters_of Tryz.func76 (by kernel_rfl) rfl) (zI (Prod.fst x) k) (Jx 4 rfl ?_)); refine pT rfl rfl rfl fun w1 hs1 => ?_; exact ⟨rfl, hs1.keep⟩
theorem Jls {R : Jm} {xs : List (BS × BS)} {p : Pl} (hl : xs.length ≤ 1000) (hs : Seg R xs.length (xs.flatMap Qk) p) (hso : Ks Prod.fst xs) {k : BS} {g : FuncId} {caps : List Value} (eg : Enters Tryz.prog g) (hg : ∀ x ∈ xs, PureR Tryz.prog g (vS x :: J1 k :: caps).toArray (.int .i64 (Yd (Prod.fst x) k)) R) :
  PureR Tryz.prog 354 [KB xs.length p, J1 k, .func (.func g) #[] caps.toArray].toArray (.tuple #[.int .i64 (ZV Prod.fst k xs : Nat), .bool (VD Prod.fst k xs)]) R := by
 refine Jb Tryz.func354 rfl rfl fun w => ?_; refine JD ?_; refine Jq 9 rfl ?_; refine LR rfl (Jz rfl hs rfl) ?_; refine JI 12 rfl ?_; refine Jy (σ := Nat × Nat) (fun s => (s.1 ≤ s.2 ∧ s.2 ≤ xs.length) ∧ (∀ q y, q < s.1 → xs[q]? = some y → Op.bytesLess (Prod.fst y) k = true) ∧ ∀ q y, s.2 ≤ q → xs[q]? = some y → Op.bytesLess (Prod.fst y) k = false) (fun s => [(0, KB xs.length p), (1, J1 k), (2, .func (.func g) #[] caps.toArray), (8, .int .i64 (xs.length : Int)), (9, .int .i64 (s.1 : Int)), (10, .int .i64 (s.2 : Int))]) (fun _ => []) (fun _ _ _ => True) (fun s => s.2 - s.1) (0, xs.length) ⟨⟨Nat.zero_le _, Nat.le_refl _⟩, fun q _ hq => absurd hq (Nat.not_lt_zero q), fun q y hq hy => absurd (List.getElem?_eq_some_iff.1 hy).1 (by omega)⟩ (lK rfl) (List.nil_sublist _) (fun _ _ h => h) ?_; rintro ⟨i, j⟩ ⟨⟨hi0, hj0⟩, hi1, hi2⟩; simp only at hi0 hj0 hi1 hi2; change HC _ _ [(0, _), (1, _), (2, _), (8, _), (9, .int .i64 (i : Int)), (10, .int .i64 (j : Int))] _ _ _ _; refine JK 8 rfl ?_; refine cD (fun h7 => ?_) fun h7 => ?_
 refine Jq 8 rfl ?_; refine Jc (by omega) (by omega) ?_; refine VQ rfl (VE (by omega) (by omega) (LR rfl (qE (n := 1) (b := (((i + j) / 2 : Nat) : Int)) rfl rfl rfl (by decide) (by omega) (by omega)) ?_)); refine VQ rfl (Jc (by omega) (by omega) (JI 4 rfl ?_))
 obtain ⟨x, hx, hmx⟩ := Qs (show (i + j) / 2 < xs.length by omega)
 refine Jq 4 rfl ?_
 refine LR rfl (Jk (j := ((i + j) / 2)) rfl hs rfl rfl rfl (by first | rfl | omega) (by omega)) ?_; refine LR rfl (JV JW oR rfl hs hx rfl rfl) ?_; refine Q1 rfl (Ji rfl rfl rfl eg (hg x hmx) oR ?_); refine VQ rfl (J3 (congrArg Value.bool (vz (Prod.fst x) k)) (JI 2 rfl ?_)); refine cD (fun h10 => ?_) fun h10 => ?_
 refine Jq 3 rfl ?_; refine Jc (by omega) (by omega) ?_; refine Jx 3 rfl ?_; refine Jv ?_; exact Jo ((i + j) / 2 + 1, j) ⟨⟨by simp only; omega, hj0⟩, Jc5 hso hx (by assumption), hi2⟩ (by simp only; omega) (lK rfl) (List.nil_sublist _) (fun _ _ h => h)
 refine Kh 5 rfl ?_; refine Jv ?_; exact Jo (i, (i + j) / 2) ⟨⟨by simp only; omega, by simp only; omega⟩, hi1, Jc6 hso hx (by assumption)⟩ (by simp only; omega) (lK rfl) (List.nil_sublist _) (fun _ _ h => h)
 ·refine JK 6 rfl ?_
  have hij : i = j := by omega
  have hlo : i = ZV Prod.fst k xs := Jn9 (by omega) hi1 (fun y hy => hi2 i y (by omega) hy)
  refine Jq 6 rfl ?_
  refine J6 39 rfl (fun gb => ?_) (fun gb => ?_) <;> (try simp only [ZZ] at gb) <;> first | (refine Q1 rfl ?_) | (refine LK rfl ?_)
  all_goals refine LW 2 [] rfl rfl ?_
  all_goals first | (obtain ⟨x, hx, hmx⟩ := Qs (show i < xs.length by omega); refine LR rfl (Jk (j := i) rfl hs rfl rfl rfl (by first | rfl | omega) (by omega)) ?_) | refine LK rfl ?_
  all_goals first | refine LR rfl (JV JW oR rfl hs hx rfl rfl) ?_ | refine LK rfl ?_
  all_goals refine LW 1 [] rfl rfl ?_
  all_goals first | refine Ji rfl rfl rfl eg (hg x hmx) oR ?_ | refine LK rfl ?_
  all_goals first | (refine VQ rfl ?_; refine J3 (congrArg Value.bool (Jc4 (Prod.fst x) k)) ?_) | refine LK rfl ?_
  all_goals (
   refine LW 1 [] rfl rfl (Jx 3 rfl (ZT 2 rfl ?_)); refine Jg rfl rfl (.cons (Jj rfl) (.cons (Jj rfl) .nil)) (fun w1 hs1 => ?_); refine ⟨?_, hs1.keep⟩
   first | (rw [← Jc7 (kf := Prod.fst) (hlo ▸ hx), ← hlo]; rfl) | (rw [qp (kf := Prod.fst) (by omega), ← hlo]; rfl)
   skip)
theorem Jqf {R : Jm} {xs : List (BS × BS)} {p : Pl} (hl : xs.length ≤ 1000) (hs : Seg R xs.length (xs.flatMap Qk) p) (hso : Ks Prod.fst xs) {k : BS} :
  PureR Tryz.prog 324 [KB xs.length p, J1 k, fV 156].toArray (.tuple #[.int .i64 (ZV Prod.fst k xs : Nat), .bool (VD Prod.fst k xs)]) R := by
 refine Jb Tryz.func324 rfl rfl fun w => ?_; refine JD ?_; refine Jq 2 rfl ?_; refine LN rfl fun r1 => ?_; refine JJ 8 rfl ?_; refine LR rfl (JN rfl rfl) ?_; refine Ji (Rl := (r1, Obj.cells #[fV 156] _ (0, 0)) :: R) rfl rfl rfl (enters_of Tryz.func354 (by kernel_rfl) rfl) (Jls (caps := [.pointer (some ⟨r1, 0, none⟩)]) hl (hs.mono fun q hq => List.mem_cons_of_mem _ hq) hso (enters_of Tryz.func355 (by kernel_rfl) rfl) (fun x hx => J0q List.mem_cons_self x k)) (fun q hq => (List.mem_cons.1 hq).elim (fun h => Or.inl (by rw [h]; exact List.mem_cons_self)) Or.inr) ?_; refine Jx 7 rfl ?_; refine Jg rfl rfl (.cons (Jj rfl) (.cons (Jj rfl) .nil)) (fun w1 hs1 => ?_); exact ⟨rfl, hs1.keep⟩
theorem Jek {R : Jm} {xs : List AcL} {p : Pl} (hl : xs.length ≤ 1000) (hs : Seg R xs.length (xs.flatMap AcL.cells) p) :
  PureT (α := { row : QD // rowOk 8 xs.length (xs.flatMap AcL.cells) row }) Tryz.prog 79 [KB xs.length p].toArray (fun x => J8 xs.length x.1) [] (fun x => JH 48 (xs.flatMap AcL.cells) x.1) R := by
 cases p with
 | none =>
  have h0 : xs = [] := List.length_eq_zero_iff.1 hs
  subst h0; refine Jw Tryz.func79 rfl rfl fun w => ?_; refine JD ?_; refine JK 12 rfl ?_; refine cD (fun g => ?_) fun g => ?_
  refine Kh 7 rfl ?_; refine pT rfl rfl rfl fun w1 hs1 => ?_; exact ⟨⟨none, rfl, rfl⟩, rfl, hs1⟩
  try exact Bool.noConfusion g
 | some q =>
  refine Jw Tryz.func79 rfl rfl fun w => ?_; refine JD ?_; refine JK 12 rfl ?_; refine J0 rfl (fun g => ?_) (fun g => ?_)
  try exact Bool.noConfusion g
  ·refine Jq 4 rfl ?_; refine Xn rfl rfl rfl rfl fun r1 => ?_; refine Q1 rfl (wm (k := 0) (b := 96) (sz := 8) rfl rfl rfl rfl rfl rfl hs oR rfl rfl rfl rfl rfl (by decide) (Kt AcL.len xs) (Yx AcL.one xs) (by omega) (by omega) fun row hrow => (Jx 4 rfl ?_)); refine pT rfl rfl rfl fun w1 hs1 => ?_; exact ⟨⟨row, hrow⟩, rfl, hs1.weakL (List.sublist_append_left _ _)⟩
theorem Jlt {R : Jm} {xs : List AcL} {row : QD} (hl : xs.length ≤ 1000) (hrow : rowOk 8 xs.length (xs.flatMap AcL.cells) row) {i : Nat} (hi : i ≤ xs.length) {y : AcL} {rv : Nat} (hv : (rv, Obj.cells (AcL.cells y).toArray 48 (0, 0)) ∈ R) :
  PureT (α := { row' : QD // rowOk 8 (xs.length + 1) ((xs.take i ++ y :: xs.drop i).flatMap AcL.cells) row' }) Tryz.prog 323 [J8 xs.length row, .int .i64 (i : Int), .slice (some ⟨rv, 0, none⟩) 1 1].toArray (fun x => J8 (xs.length + 1) x.1) (JH 48 (xs.flatMap AcL.cells) row) (fun x => JH 48 ((xs.take i ++ y :: xs.drop i).flatMap AcL.cells) x.1) R := by
 obtain ⟨A, hA⟩ : ∃ A, A = (xs.take i).flatMap AcL.cells := ⟨_, rfl⟩
 obtain ⟨B, hB⟩ : ∃ B, B = (xs.drop i).flatMap AcL.cells := ⟨_, rfl⟩
 obtain ⟨n, hn⟩ : ∃ n, n = xs.length := ⟨_, rfl⟩
 have e1 : xs.flatMap AcL.cells = A ++ B := by rw [hA, hB, ← List.flatMap_append, List.take_append_drop]
 have e2 : (xs.take i ++ y :: xs.drop i).flatMap AcL.cells = A ++ (AcL.cells y ++ B) := by rw [List.flatMap_append, List.flatMap_cons, hA, hB]
 have lA : A.length = i * 8 := by rw [hA, Kt AcL.len, List.length_take, Nat.min_eq_left hi]
 have lB : B.length = (n - i) * 8 := by rw [hB, Kt AcL.len, List.length_drop, hn]
 have lF : (AcL.cells y).length = 8 := AcL.len y
 have oF : (AcL.cells y).all Q3 = true := AcL.one y
 have oA : A.all Q3 = true := by rw [hA]; exact Yx AcL.one _
 have oB : B.all Q3 = true := by rw [hB]; exact Yx AcL.one _
 rw [e1] at hrow; rw [e1, e2]; rw [← hn] at hl hi hrow ⊢; clear hA hB e1 e2 hn
 cases row with
 | none =>
  obtain ⟨rfl, hAB⟩ := hrow
  obtain rfl : i = 0 := by omega
  obtain ⟨rfl, rfl⟩ := List.append_eq_nil_iff.1 hAB
  refine Jw Tryz.func323 rfl rfl fun w => ?_; refine JD ?_; refine Jq 15 rfl ?_; refine LR rfl (Ka rfl rfl) ?_; refine JI 10 rfl ?_; refine cD (fun g => ?_) fun g => ?_
  first | exact Bool.noConfusion g | omega
  refine Jq 5 rfl ?_; refine LR rfl (Ka rfl rfl) ?_; refine JI 11 rfl ?_; refine J0 rfl (fun g => ?_) (fun g => ?_)
  try simp only [ZZ] at g
  refine Jq 4 rfl ?_; refine Wb (n := 0) (m := 1) (b := 96) (sz := 8) (news := AcL.cells y) (xs := []) (L0 := []) rfl rfl rfl rfl (Or.inr hv) rfl rfl rfl rfl rfl (by decide) rfl rfl oF (by decide) SlOwn.nil (by decide) (by decide) fun r1 cap1 sp1 hsp1 => ?_; refine Jx 5 rfl ?_; refine pT rfl rfl rfl fun w1 hs1 => ?_; exact ⟨⟨some (r1, cap1, sp1), by simp [lF], hsp1⟩, rfl, by simpa [JH] using hs1⟩
  try exact Bool.noConfusion g
 | some q =>
  obtain ⟨r, cap, sp⟩ := q
  obtain ⟨hr1, hr2⟩ := hrow
  have hcap : n ≤ cap := by omega
  refine Jw Tryz.func323 rfl rfl fun w => ?_; refine JD ?_; change HC _ _ _ [(r, .cells ((A ++ B) ++ sp).toArray 48 (0, 0))] _ _ _; refine Jq 9 rfl ?_; refine LR rfl (JU (m := i) (kl := some i) (kh := none) (km := none) (q := n) (z := cap) rfl rfl rfl ⟨_, rfl⟩ trivial trivial rfl rfl rfl (by omega) (by omega) (by omega) (fun _ => rfl) rfl) ?_; refine JJ 5 rfl ?_; refine LR rfl (Ka rfl rfl) ?_; refine JI 10 rfl ?_; refine J0 rfl (fun g => ?_) (fun g => ?_)
  try exact Bool.noConfusion g
  ·refine Jq 5 rfl ?_; refine LR rfl (Ka rfl rfl) ?_; refine JI 11 rfl ?_; refine J0 rfl (fun g => ?_) (fun g => ?_)
   try simp only [ZZ] at g
   refine Jq 4 rfl ?_
   obtain rfl : B = [] := List.length_eq_zero_iff.1 (by omega)
   refine Wb (n := n) (m := 1) (b := 96) (sz := 8) (news := AcL.cells y) (xs := A ++ []) (L0 := []) rfl rfl rfl rfl (Or.inr hv) rfl rfl rfl rfl rfl (by decide) rfl lF oF (by decide) (SlOwn.own (k := 0) rfl (by simp only [List.toList_toArray]; rw [List.take_left' hr1]) hr1 (by rw [List.size_toArray, List.length_append, hr1]; omega) rfl) (by omega) (by omega) fun r1 cap1 sp1 hsp1 => ?_; refine Jx 5 rfl ?_; refine pT rfl rfl rfl fun w1 hs1 => ?_; exact ⟨⟨some (r1, cap1, sp1), by simp only [List.length_append, List.length_nil, lF]; omega, hsp1⟩, rfl, by simpa [JH] using hs1⟩
   ·try simp only [ZZ] at g
    refine Jq 8 rfl ?_; refine Jc (by omega) (by omega) ?_; refine Q1 rfl (LR rfl (Jhx rfl rfl) (JI 3 rfl ?_)); refine cD (fun g => ?_) fun g => ?_
    ·refine Jq 4 rfl ?_
     refine LR rfl (JU (sz := 8) (q := i) (kl := none) (kh := some (i)) (km := none) (m := 0) (z := cap) (off' := 0) rfl rfl rfl trivial ⟨_, rfl⟩ trivial rfl rfl rfl (by omega) (by omega) (by omega) (fun h => by cases h) (by split <;> omega)) ?_; refine LS 3 [] rfl rfl ?_; refine Jc (by omega) (by omega) ?_; refine JJ 2 rfl ?_; refine J3 (show _ = Value.int .i64 ((n + 1 - i : Nat) : Int) from by rw [wrap_i64 (by omega) (by omega)]; congr 1 <;> omega) ?_; refine wg (r := r) (off := 0) (n := i) (cap := cap) (m := n + 1 - i) (sz := 8) (b := 96) (xs := A) rfl rfl rfl rfl (kn 0 rfl) rfl rfl rfl rfl rfl rfl (by decide) (by simp only [List.toList_toArray, List.drop_zero]; rw [List.append_assoc, List.take_left' lA]) lA (by omega) (by omega) (by omega) (by omega) (by omega) fun r2 cap2 Z sp2 hZ hsp2 => ?_; rw [show i + (n + 1 - i) = n + 1 by omega] at hsp2 ⊢
     obtain ⟨Z1, Z2, rfl, lZ1⟩ := cut (l := Z) (a := 8) (by omega)
     have lZ2 : Z2.length = (n - i) * 8 := by rw [List.length_append, lZ1] at hZ; omega
     rw [show A ++ (Z1 ++ Z2) ++ sp2 = A ++ (Z1 ++ (Z2 ++ sp2)) by simp only [List.append_assoc]]; refine JJ 7 rfl ?_; refine LR rfl (JU (sz := 8) (m := i) (kl := some (i)) (kh := none) (km := none) (q := n + 1) (z := cap2) (off' := i * 8) rfl rfl rfl ⟨_, rfl⟩ trivial trivial rfl rfl rfl (by omega) (by omega) (by omega) (fun _ => rfl) (by rw [if_neg (by omega)]; omega)) ?_; refine Q1 rfl ?_
     refine XB (k := 0) (n := 1) (sz := 8) (vs := AcL.cells y) (cs' := A ++ (AcL.cells y ++ (Z2 ++ sp2))) rfl rfl rfl rfl rfl (Or.inr hv) rfl rfl (by simp only [Nat.min_def]; split <;> omega) rfl lF oF (by simp only [List.size_toArray, List.length_append]; omega) (Xo lA (by rw [lZ1])) rfl ?_; refine JI 3 rfl ?_; refine JE 8 (by kernel_rfl) (by kernel_rfl) ?_; refine Ja rfl rfl rfl (Jf rfl) ?_; refine Ja rfl rfl rfl (Jf rfl) ?_; refine Ja rfl rfl rfl (Jf rfl) ?_
     refine Ja rfl rfl rfl (J2 rfl rfl rfl) ?_; refine KR (show _ = Value.int .i64 ((i + 1 : Nat) : Int) from by rw [wrap_i64 (by omega) (by omega)]; congr 1 <;> omega) ?_; refine Ja rfl rfl rfl (JU (sz := 8) (m := i + 1) (kl := some (i + 1)) (kh := none) (km := none) (q := n + 1) (z := cap2) (off' := (i + 1) * 8) rfl rfl rfl ⟨_, rfl⟩ trivial trivial rfl rfl rfl (by omega) (by omega) (by omega) (fun _ => rfl) (by rw [if_neg (by omega)]; omega)) ?_; refine Ja rfl rfl rfl (Jf rfl) ?_; refine Ja rfl rfl rfl (Jf rfl) ?_; refine Ja rfl rfl rfl (JU (sz := 8) (m := i) (kl := some (i)) (kh := none) (km := none) (q := n) (z := cap) (off' := i * 8) rfl rfl rfl ⟨_, rfl⟩ trivial trivial rfl rfl rfl (by omega) (by omega) (by omega) (fun _ => rfl) (by rw [if_neg (by omega)]; omega)) ?_; refine JS ?_; rw [show A ++ (AcL.cells y ++ (Z2 ++ sp2)) = (A ++ AcL.cells y) ++ (Z2 ++ sp2) by simp only [List.append_assoc]]
     refine XB (k := 0) (n := n - i) (sz := 8) (vs := B) (cs' := (A ++ AcL.cells y) ++ (B ++ sp2)) rfl rfl rfl rfl rfl (kn 1 rfl) rfl rfl (by simp only [Nat.min_def]; split <;> omega) (by simp only [List.toList_toArray]; rw [List.append_assoc, List.drop_left' lA, List.take_left' lB]) lB oB (by simp only [List.size_toArray, List.length_append]; omega) (Xo (by rw [List.length_append, lA, lF]; omega) lZ2) rfl ?_; refine Jx 10 rfl ?_; refine pT rfl rfl rfl fun w1 hs1 => ?_; exact ⟨⟨some (r2, cap2, sp2), by simp only [List.length_append]; omega, hsp2⟩, rfl, hs1.weakL (by simp [JH])⟩
    ·refine Jq 8 rfl ?_; refine J3 (show _ = Value.int .i64 ((n + 1 : Nat) : Int) from by rw [wrap_i64 (by omega) (by omega)]; congr 1 <;> omega) ?_
     refine LR rfl (JU (sz := 8) (q := n + 1) (kl := none) (kh := some (n + 1)) (km := none) (m := 0) (z := cap) (off' := 0) rfl rfl rfl trivial ⟨_, rfl⟩ trivial rfl rfl rfl (by omega) (by omega) (by omega) (fun h => by cases h) (by split <;> omega)) ?_; refine JJ 11 rfl ?_; refine J3 (show _ = Value.int .i64 ((i + 1 : Nat) : Int) from by rw [wrap_i64 (by omega) (by omega)]; congr 1 <;> omega) ?_; refine LR rfl (JU (sz := 8) (m := i + 1) (kl := some (i + 1)) (kh := none) (km := none) (q := n + 1) (z := cap) (off' := (i + 1) * 8) rfl rfl rfl ⟨_, rfl⟩ trivial trivial rfl rfl rfl (by omega) (by omega) (by omega) (fun _ => rfl) (by rw [if_neg (by omega)]; omega)) ?_; refine LR rfl (qM (k := 0) rfl rfl rfl hv rfl rfl rfl (by simp only [List.size_toArray, List.length_append]; omega) Tryz.func352 rfl rfl rfl rfl) ?_; refine JI 3 rfl ?_; refine J0 rfl (fun g => ?_) (fun g => ?_)
     ·try simp only [ZZ] at g
      refine JK 1 rfl ?_; refine JE 8 (by kernel_rfl) (by kernel_rfl) ?_; refine Ja rfl rfl rfl (Jf rfl) ?_; refine Ja rfl rfl rfl (Jf rfl) ?_; refine Ja rfl rfl rfl (Jf rfl) ?_
      refine Ja rfl rfl rfl (J2 rfl rfl rfl) ?_; refine KR (show _ = Value.int .i64 ((i + 1 : Nat) : Int) from by rw [wrap_i64 (by omega) (by omega)]; congr 1 <;> omega) ?_; refine Ja rfl rfl rfl (JU (sz := 8) (m := i + 1) (kl := some (i + 1)) (kh := none) (km := none) (q := n + 1) (z := cap) (off' := (i + 1) * 8) rfl rfl rfl ⟨_, rfl⟩ trivial trivial rfl rfl rfl (by omega) (by omega) (by omega) (fun _ => rfl) (by rw [if_neg (by omega)]; omega)) ?_; refine Ja rfl rfl rfl (Jf rfl) ?_; refine Ja rfl rfl rfl (Jf rfl) ?_; refine Ja rfl rfl rfl (JU (sz := 8) (m := i) (kl := some (i)) (kh := none) (km := none) (q := n + 1) (z := cap) (off' := i * 8) rfl rfl rfl ⟨_, rfl⟩ trivial trivial rfl rfl rfl (by omega) (by omega) (by omega) (fun _ => rfl) (by rw [if_neg (by omega)]; omega)) ?_; refine JS ?_
      obtain ⟨X1, X2, hX, lX1⟩ := cut (l := B ++ sp) (a := 8) (by rw [List.length_append]; omega)
      obtain ⟨X3, X4, rfl, lX3⟩ := cut (l := X2) (a := (n - i) * 8) (by have := congrArg List.length hX; simp only [List.length_append] at this; omega)
      rw [show (A ++ B) ++ sp = (A ++ X1) ++ (X3 ++ X4) by rw [List.append_assoc, hX]; simp only [List.append_assoc]]
      refine XB (k := 0) (n := n - i) (sz := 8) (vs := B) (cs' := (A ++ X1) ++ (B ++ X4)) rfl rfl rfl rfl rfl (kn 0 rfl) rfl rfl (by simp only [Nat.min_def]; split <;> omega) (by simp only [List.toList_toArray]; rw [List.append_assoc, List.drop_left' lA, ← hX, List.take_left' lB]) lB oB (by have := congrArg List.length hX; simp only [List.size_toArray, List.length_append] at this ⊢; omega) (Xo (by rw [List.length_append, lA, lX1]; omega) lX3) rfl ?_; refine JJ 6 rfl ?_; refine LR rfl (JU (sz := 8) (m := i) (kl := some (i)) (kh := none) (km := none) (q := n + 1) (z := cap) (off' := i * 8) rfl rfl rfl ⟨_, rfl⟩ trivial trivial rfl rfl rfl (by omega) (by omega) (by omega) (fun _ => rfl) (by rw [if_neg (by omega)]; omega)) ?_; refine Q1 rfl ?_; rw [show (A ++ X1) ++ (B ++ X4) = A ++ (X1 ++ (B ++ X4)) by simp only [List.append_assoc]]
      refine XB (k := 0) (n := 1) (sz := 8) (vs := AcL.cells y) (cs' := A ++ (AcL.cells y ++ (B ++ X4))) rfl rfl rfl rfl rfl (Or.inr hv) rfl rfl (by simp only [Nat.min_def]; split <;> omega) rfl lF oF (by simp only [List.size_toArray, List.length_append]; omega) (Xo lA (by rw [lX1])) rfl ?_; refine Jx 10 rfl ?_; refine pT rfl rfl rfl fun w1 hs1 => ?_; exact ⟨⟨some (r, cap, X4), by simp only [List.length_append]; omega, by have := congrArg List.length hX; simp only [List.length_append] at this; omega⟩, rfl, by simpa [JH] using hs1⟩
     ·try exact Bool.noConfusion g
end Go.Proofs.YtfaagelglpgpkaaGreatDoor
