import Derived.Test.YtfaagelglpgpkaaGreatDoorZtOrderc
set_option maxRecDepth 100000
namespace Go.Proofs.YtfaagelglpgpkaaGreatDoor
set_option linter.all false
open Go.SL Go.RowKit Go.Shelf
theorem XO {Y : BS} {i : Nat} (h : i < Y.length) : (Y.map bV)[i]? = some (bV (Y.getD i 0)) := by
 rw [List.getElem?_map, List.getD_eq_getElem?_getD, List.getElem?_eq_getElem h]; rfl
def Yk (xs : BS) : Nat → BS
 | 0 => xs
 | i + 1 => ((Yk xs i).set i ((Yk xs i).getD (xs.length - 1 - i) 0)).set (xs.length - 1 - i) ((Yk xs i).getD i 0)
theorem XQ (xs : BS) : ∀ i, (Yk xs i).length = xs.length
 | 0 => rfl
 | i + 1 => by rw [Yk, List.length_set, List.length_set, XQ xs i]
theorem getD_set {Y : BS} {i j : Nat} {b : UInt8} (hi : i < Y.length) : (Y.set i b).getD j 0 = if i = j then b else Y.getD j 0 := by
 rw [List.getD_eq_getElem?_getD, List.getElem?_set, List.getD_eq_getElem?_getD]
 split
 ·first | rfl | (rw [if_pos hi]; rfl) | simp [hi]
 ·rfl
theorem jn (xs : BS) : ∀ {i j : Nat}, 2 * i ≤ xs.length → j < xs.length → (Yk xs i).getD j 0 = if j < i ∨ xs.length - 1 - j < i then xs.getD (xs.length - 1 - j) 0 else xs.getD j 0
 | 0, j, _, hj => by rw [Yk, if_neg (by omega)]
 | i + 1, j, hi, hj => by
  have h1 := XQ xs i
  have ga := jn xs (i := i) (j := xs.length - 1 - i) (by omega) (by omega)
  have gb := jn xs (i := i) (j := i) (by omega) (by omega)
  have gj := jn xs (i := i) (j := j) (by omega) hj
  rw [if_neg (by omega)] at ga gb; rw [Yk, getD_set (by rw [List.length_set, h1]; omega), getD_set (by rw [h1]; omega), ga, gb, gj]
  by_cases e1 : xs.length - 1 - i = j
  ·rw [if_pos e1, if_pos (by omega)]
   congr 1; omega
  ·rw [if_neg e1]
   by_cases e2 : i = j
   ·rw [if_pos e2, if_pos (by omega)]
    congr 1; omega
   ·rw [if_neg e2]
    by_cases e3 : j < i ∨ xs.length - 1 - j < i
    ·rw [if_pos e3, if_pos (by omega)]
    ·rw [if_neg e3, if_neg (by omega)]
theorem Jcj {xs : BS} {i : Nat} (h1 : 2 * i ≤ xs.length) (h2 : xs.length ≤ 2 * i + 1) : Yk xs i = xs.reverse := by
 apply List.ext_getElem?
 intro j
 by_cases hj : j < xs.length
 ·have e1 : (Yk xs i)[j]? = some ((Yk xs i).getD j 0) := by rw [List.getD_eq_getElem?_getD, List.getElem?_eq_getElem (by rw [XQ]; exact hj)]; rfl
  rw [e1, jn xs h1 hj, List.getElem?_reverse hj]
  have e2 : xs[xs.length - 1 - j]? = some (xs.getD (xs.length - 1 - j) 0) := by rw [List.getD_eq_getElem?_getD, List.getElem?_eq_getElem (by omega)]; rfl
  rw [e2]
  by_cases e3 : j < i ∨ xs.length - 1 - j < i
  ·rw [if_pos e3]
  ·rw [if_neg e3, show xs.length - 1 - j = j by omega]
 ·rw [List.getElem?_eq_none (by rw [XQ]; omega), List.getElem?_eq_none (by rw [List.length_reverse]; omega)]
theorem jo {Y : BS} {sp : List Value} {i : Nat} {b : UInt8} (h : i < Y.length) : (Y.map bV ++ sp).toArray.setIfInBounds i (bV b) = ((Y.set i b).map bV ++ sp).toArray := by
 rw [List.setIfInBounds_toArray, List.set_append_left _ _ (by rw [List.length_map]; exact h), List.map_set]
section
variable {c : Cx} {l : Kk} {L E : Ji} {X : XP} {Q : Exit → Act → World → Prop} {d : List Deferred}
variable {ops : Array Oper} {rest : List Nat} {i k : Nat} {v : Value} {o : Oper} {tb : Zy} {S : Ji} {T : Ji → Act → Prop}
theorem YZ {t ty : TypeId} {ps : String} {af : Array Edge} {gd : Option (Nat × Bool)} {x y : Operand} {q r off : Nat} {cs cs' : Array Value} {e : TypeId} {fr : Nat × Nat} {E' : Ji} (hko : W9 ops.toList k = some ⟨none, .store t x y, ty, ps, af, gd⟩) (hg : JV l ops ⟨none, .store t x y, ty, ps, af, gd⟩ = some true) (hA : tb k = .turn)
  (hx : JT l x = some (.pointer (some ⟨r, off, none⟩))) (hk : E[q]? = some (r, .cells cs e fr)) (hy : JT l y = some v) (ht : KC c.P t = some 1) (ho : Qt v = true) (hfr : frB fr off = false) (hc : (cs[off]?).isSome = true)
  (hcs : cs.setIfInBounds off v = cs') (hL : E.set q (r, .cells cs' e fr) = E') (hS : SubS S E')
  (h : HB c d l E' X S ops tb rest T) : HB c d l E X S ops tb (k :: rest) T :=
 ZW hko hg rfl hA (fun a w hf hs => ⟨w.setCell ⟨r, off, none⟩ v, by
  simp only [execOp]; rw [hf.eval hx, hf.eval hy]
  obtain ⟨old, hold⟩ := Option.isSome_iff_exists.1 hc
  have h1 := run_store c.P w ⟨r, off, none⟩ v .plain (by rw [Wv]; exact ho)
  rw [Vb (hs.get hk), hold, XC (hs.get hk) hfr] at h1
  have hcell : v.cells = #[v] := by cases v <;> first | rfl | cases ho
  simp [Instr.storeAt, Instr.sureAddr, Sem.run_bind, Result.andThen, storeVar, QG ht, hcell, storeCells, Addr.add, h1], by
  subst hL; subst hcs
  exact hs.set hk (Keep.setCell r off v) (Go.SL.heap_setCell_same v (hs.get hk))⟩) hS h
end
section
variable {c : Cx} {l : Kk} {L : Ji} {X : XP} {d : List Deferred} {i : Nat} {ps : String} {af : Array Edge} {gd : Option (Nat × Bool)} {ty : TypeId}
theorem qo {x : Operand} {b : List UInt8} {r n cap : Nat} {cs : Array Value} {e src dst : TypeId} {fr : Nat × Nat} (hx : JT l x = some (.slice (some ⟨r, 0, none⟩) n cap)) (hk : known c L r (.cells cs e fr)) (hn : n = b.length) (ht : cs.toList.take b.length = b.map bV)
  (hs : Ka c.P src = some e) (he : c.P.underlying e = some (.int .u8)) (hd : vf c.P dst = true) :
  J4 c d l L X ⟨some i, .convert src dst x, ty, ps, af, gd⟩ (.string (bs b)) := fun a' w hf hst => by
 subst hn; simp only [execOp]; rw [hf.eval hx]
 have hget := hst.known hk
 have hl := jY (P := c.P) (xs := b.map bV) hget (by rw [List.length_map]; exact ht)
 rw [List.length_map] at hl; simp only [Sem.run_bind]; rw [run_convert_bytes_string w src dst e _ _ _ (JS hs) he (Q8 hd)]; rw [run_bytesToString w _ _ _ (b.map fun x => ((x.toNat : Nat) : Int)) (by rw [hl]; simp [bV, Function.comp_def])]
 have := YK b []
 rw [show (bs [] : ByteArray) = ByteArray.empty from rfl] at this; rw [this]
 rfl
end
theorem Jjy {xs : BS} {sp : List Value} {r cap : Nat} {fr : Nat × Nat} (hfr : ∀ q, q < xs.length → frB fr q = false) (hc : xs.length ≤ cap) (hx : xs.length ≤ 9223372036854775807) : PureT (α := Unit) Tryz.prog 214 [.slice (some ⟨r, 0, none⟩) xs.length cap].toArray (fun _ => .tuple #[])
  [(r, .cells (xs.map bV ++ sp).toArray 5 fr)] (fun _ => [(r, .cells (xs.reverse.map bV ++ sp).toArray 5 fr)]) [] := by
 refine Ju Tryz.func214 rfl rfl fun w => ?_; refine JB ?_; refine Jq 3 rfl ?_; refine LR rfl (JQ rfl rfl) ?_; refine Wi rfl (J3 (show _ = Value.int .i64 ((xs.length : Int) - 1) from congrArg (Value.int .i64) (wrap_i64 (by omega) (by omega))) (JM 5 rfl ?_)); refine Jz (σ := Nat) (fun i => 2 * i ≤ xs.length + 1 ∧ 2 * i ≤ xs.length) (fun i => [(0, .slice (some ⟨r, 0, none⟩) xs.length cap), (2, .int .i64 (i : Int)), (3, .int .i64 ((xs.length : Int) - 1 - (i : Int)))]) (fun i => [(r, .cells ((Yk xs i).map bV ++ sp).toArray 5 fr)]) (fun _ _ _ => True) (fun i => xs.length - i) 0 ⟨by omega, by omega⟩ (.cons rfl (.cons rfl (.cons (by rw [show ((0 : Nat) : Int) = 0 from rfl, Int.sub_zero]; rfl) .nil))) (List.Sublist.refl _) (fun _ _ h => h) ?_; rintro i ⟨hi1, hi2⟩; refine JP 8 rfl ?_; refine cD (fun g => ?_) fun g => ?_
 ·refine JP 4 rfl ?_
  have hii : i + 1 ≤ xs.length - i := by omega
  obtain ⟨Y, hY⟩ : ∃ Y, Y = Yk xs i := ⟨_, rfl⟩
  have hYl : Y.length = xs.length := by rw [hY]; exact XQ xs i
  rw [← hY]
  refine JN [] [(0, .pure), (1, .pure), (2, .pure), (3, .pure), (4, .pure), (5, .pure), (6, .pure), (8, .pure), (9, .pure), (10, .pure), (12, .pure), (13, .turn), (14, .pure), (15, .turn)] 16 [0, 1, 2, 3, 4, 5, 6, 7, 8, 9, 10, 11, 12, 13, 14, 15] (by kernel_rfl) (by kernel_rfl) (by first | exact (fun _ h => absurd h List.not_mem_nil) | simp [SubS] | (intro p hp; simp [hp])) ?_; refine Jm (k := 0) rfl rfl rfl rfl rfl (fun _ hS => (Jg rfl)) ?_; refine Jm (k := 1) rfl rfl rfl rfl rfl (fun _ hS => (Jg rfl)) ?_; refine Jm (k := 2) rfl rfl rfl rfl rfl (fun _ hS => (Jg rfl)) ?_; refine Jm (k := 3) rfl rfl rfl rfl rfl (fun _ hS => (Jg rfl)) ?_; refine Jm (k := 4) rfl rfl rfl rfl rfl (fun _ hS => (Jg rfl)) ?_; refine Jm (k := 5) rfl rfl rfl rfl rfl (fun _ hS => (Jg rfl)) ?_; refine Jm (k := 6) rfl rfl rfl rfl rfl (fun _ _ => JF (j := (xs.length - 1 - i)) (m := 1) (off' := (xs.length - 1 - i)) rfl rfl rfl rfl (by omega) (by omega) (by omega)) ?_; refine KD (k := 7) rfl rfl rfl rfl rfl (Jd rfl (kn 0 rfl) rfl (ZN (xs := Y.map bV) (v := bV (Y.getD (xs.length - 1 - i) 0)) (XO (by omega)))) ?_; refine Jm (k := 8) rfl rfl rfl rfl rfl (fun _ hS => (Jg rfl)) ?_; refine Jm (k := 9) rfl rfl rfl rfl rfl (fun _ hS => (Jg rfl)) ?_; refine Jm (k := 10) rfl rfl rfl rfl rfl (fun _ _ => JF (j := i) (m := 1) (off' := i) rfl rfl rfl rfl (by omega) (by omega) (by omega)) ?_; refine KD (k := 11) rfl rfl rfl rfl rfl (Jd rfl (kn 0 rfl) rfl (ZN (xs := Y.map bV) (v := bV (Y.getD (i) 0)) (XO (by omega)))) ?_; refine Jm (k := 12) rfl rfl rfl rfl rfl (fun _ _ => JF (j := i) (m := 1) (off' := i) rfl rfl rfl rfl (by omega) (by omega) (by omega)) ?_; refine YZ (k := 13) (q := 0) (cs' := ((Y.set i (Y.getD (xs.length - 1 - i) 0)).map bV ++ sp).toArray) rfl rfl rfl rfl rfl rfl rfl rfl (hfr _ (by omega)) (by simp; omega) (jo (by omega)) rfl (fun _ h => nomatch h) ?_; refine Jm (k := 14) rfl rfl rfl rfl rfl (fun _ _ => JF (j := (xs.length - 1 - i)) (m := 1) (off' := (xs.length - 1 - i)) rfl rfl rfl rfl (by omega) (by omega) (by omega)) ?_; refine YZ (k := 15) (q := 0) (cs' := ((Yk xs (i + 1)).map bV ++ sp).toArray) rfl rfl rfl rfl rfl rfl rfl rfl (hfr _ (by omega)) (by simp; omega) (by rw [jo (by rw [List.length_set]; omega), Yk, ← hY]) rfl (fun _ h => nomatch h) ?_; refine Kv ?_; refine JG 6 rfl ?_; refine Jc (by omega) (by omega) ?_; refine JG 2 rfl ?_; refine J3 (show _ = Value.int .i64 ((xs.length : Int) - 1 - ((i + 1 : Nat) : Int)) from by rw [wrap_i64 (by omega) (by omega)]; congr 1 <;> omega) ?_; refine Jy 3 rfl ?_; refine Jw ?_; exact Jt (i + 1) ⟨by omega, by omega⟩ (by omega) (lK rfl) (List.Sublist.refl _) (fun _ _ h => h)
 ·refine Km 4 rfl ?_; refine Kj rfl rfl .nil (fun w1 hs1 => ?_); exact ⟨(), rfl, by rw [← Jcj (xs := xs) (i := i) (by omega) (by omega)]; exact hs1⟩
theorem Jy0 (w : List Nat) : leW w 32 = (YL w 32).reverse := by unfold leW; rw [List.take_of_length_le (by rw [List.length_reverse, Vs]; exact Nat.le_refl _)]
theorem Jck (t : Ty) {R : Ji} {v : Vl} (hv : v.In R) : Pure Tryz.prog 159 [t.val, v.val].toArray (J6 (leW v.num 32)) := by
 obtain ⟨k, n, p, ins⟩ := t
 cases hv with
 | @mk a b c d bits pb items pi pick ha hb hc hd hlb hsb hl hs hp hi =>
 have hw : WOk [a, b, c, d] := ⟨rfl, fun x hx => by simp at hx; rcases hx with rfl | rfl | rfl | rfl <;> assumption⟩
 show Pure _ _ _ (J6 (leW [a, b, c, d] 32))
 rw [Jy0]
 have hfx := QA hw
 have hlen := Vs [a, b, c, d] 32
 generalize YL [a, b, c, d] 32 = B at hfx hlen
 refine Jl Tryz.func159 rfl rfl fun w => ?_; refine JB ?_; refine Jq 2 rfl ?_; refine LN rfl fun r1 => ?_; refine LN rfl fun r2 => ?_; refine XB 7 [0] rfl rfl ?_; refine Jo rfl rfl rfl Jb2 hfx ?_; refine Xj rfl rfl rfl rfl rfl rfl fun rb kb => ?_; refine JG 6 rfl ?_; refine Qk (T := [(rb, .cells (B.map bV ++ List.replicate kb (Value.int .u8 0)).toArray 5 (B.length + kb, B.length + kb + 1))]) (L0 := [(r2, _), (r1, _)]) (Rl := []) (List.Perm.refl _) rfl rfl rfl (enters_of Tryz.func214 (by kernel_rfl) rfl) (Jjy (fun q hq => by simp [frB, Nat.blt, Nat.ble]; omega) (by omega) (by omega)) oN fun u => ?_; change HL _ _ _ ((rb, _) :: (r2, _) :: (r1, _) :: []) _ _ _ _; refine JG 5 rfl ?_; refine LR rfl (qo (b := B.reverse) rfl (kn 0 rfl) (by rw [List.length_reverse]) (by simp only [List.toList_toArray]; rw [List.take_left' (by rw [List.length_map])]) rfl rfl rfl) ?_; refine Jy 4 rfl ?_; refine pT rfl rfl rfl fun w1 hs1 => ?_; exact ⟨rfl, hs1.keep⟩
def rootM : Array MapEntry := #[⟨.int .i64 1, .func (.func 159) #[] #[], 0⟩, ⟨.int .i64 2, .func (.func 159) #[] #[], 1⟩, ⟨.int .i64 3, .func (.func 160) #[] #[], 2⟩, ⟨.int .i64 4, .func (.func 162) #[] #[], 3⟩,
 ⟨.int .i64 5, .func (.func 164) #[] #[], 4⟩, ⟨.int .i64 6, .func (.func 166) #[] #[], 5⟩, ⟨.int .i64 7, .func (.func 167) #[] #[], 6⟩, ⟨.int .i64 8, .func (.func 170) #[] #[], 7⟩]
theorem Jjz : ∀ e ∈ rootM.toList, isI e.key := by
 intro e he
 unfold rootM at he
 simp at he
 rcases he with rfl | rfl | rfl | rfl | rfl | rfl | rfl | rfl <;> exact ⟨_, rfl⟩
theorem XR {a b : Bool} (h : a = b) : Value.bool a = Value.bool b := by rw [h]
theorem nat_u8 {n : Int} (h : (Lit.int .u8 n).wf = true) : ∃ m : Nat, n = (m : Int) ∧ m ≤ 255 := by
 have h2 : 0 ≤ n ∧ n ≤ 255 := by simp [Lit.wf, IntKind.min, IntKind.max, IntKind.signed, IntKind.bits] at h; omega
 exact ⟨n.toNat, by omega, by omega⟩
abbrev pB (own : Bool) (r : Nat) : Value := .pointer (if own then some ⟨r, 0, none⟩ else none)
def wJ (r : Nat) (s : BS) (row : QK) (own : Bool) : Nat × Obj := (r, .cells #[pB own r, J9 s.length row] 243 (0, 0))
def Wq (r : Nat) (s : BS) (row : QK) (own : Bool) : Ji := wJ r s row own :: JH 5 (s.map bV) row
def bOk (s : BS) (row : QK) : Prop := rowOk 1 s.length (s.map bV) row ∧ (s = [] → row = none)
theorem Jcl (r : Nat) (own : Bool) (v : Value) : PureT (α := Unit) Tryz.prog 303 [X8 r].toArray (fun _ => .tuple #[]) [(r, .cells #[pB own r, v] 243 (0, 0))] (fun _ => [(r, .cells #[pB true r, v] 243 (0, 0))]) [] := by
 cases own with
 | false =>
  refine Ju Tryz.func303 rfl rfl fun w => ?_; refine JB ?_; refine Jq 5 rfl ?_; refine LR rfl (Jd (v := .pointer none) rfl (kn 0 rfl) rfl rfl) ?_; refine LR rfl (Jm2 rfl rfl rfl rfl) ?_; refine JM 2 rfl ?_; refine cD (fun g => ?_) fun g => ?_
  refine Jq 3 rfl ?_; refine LR rfl (Jer (sz := 2) rfl (kn 0 rfl) rfl rfl rfl (by decide) (by simp)) ?_; refine LR rfl (Jes rfl rfl (Tryz.func345) (by kernel_rfl) rfl rfl rfl) ?_; refine LR rfl (zU rfl (kn 0 rfl) rfl rfl rfl (by kernel_rfl)) ?_; refine JG 2 rfl ?_; refine Kx (k := 0) (cs' := #[X8 r, v]) rfl rfl rfl rfl rfl rfl rfl rfl rfl rfl ?_; refine Jy 1 rfl ?_; refine Kj rfl rfl .nil (fun w1 hs1 => ?_); exact ⟨(), rfl, hs1⟩
  try exact Bool.noConfusion g
 | true =>
  refine Ju Tryz.func303 rfl rfl fun w => ?_; refine JB ?_; refine Jq 5 rfl ?_; refine LR rfl (Jd (v := X8 r) rfl (kn 0 rfl) rfl rfl) ?_; refine LR rfl (Jm3 rfl rfl rfl rfl) ?_; refine JM 2 rfl ?_; refine J1 rfl (fun g => ?_) (fun g => ?_)
  try exact Bool.noConfusion g
  ·refine Jq 5 rfl ?_; refine LR rfl (Jd (v := X8 r) rfl (kn 0 rfl) rfl rfl) ?_; refine QI rfl (LR rfl (Jm1 rfl rfl rfl rfl) (JM 2 rfl ?_)); refine J1 rfl (fun g => ?_) (fun g => ?_)
   try exact Bool.noConfusion g
   ·try simp only [ZZ] at g
    refine Km 1 rfl ?_; refine Kj rfl rfl .nil (fun w1 hs1 => ?_); exact ⟨(), rfl, hs1⟩
theorem xm (r : Nat) (s : BS) (row : QK) (own : Bool) : PureT (α := Unit) Tryz.prog 303 [X8 r].toArray (fun _ => .tuple #[]) [wJ r s row own] (fun _ => [wJ r s row true]) [] := Jcl r own _
theorem qS {r : Nat} {s s2 : BS} {row : QK} {own : Bool} (hb : bOk s row) (hl : s.length + s2.length ≤ 1000000) :
  PureT (α := { x : QK // bOk (s ++ s2) x }) Tryz.prog 217 [X8 r, J6 s2].toArray (fun _ => .tuple #[.int .i64 (s2.length : Int), .nilIface]) (Wq r s row own) (fun x => Wq r (s ++ s2) x.1 true) [] := by
 refine Ju Tryz.func217 rfl rfl fun w => ?_; refine JB ?_
 unfold Wq
 refine Jq 9 rfl ?_; refine Qk (T := [wJ r s row own]) (L0 := JH 5 (s.map bV) row) (Rl := []) (List.Perm.refl _) rfl rfl rfl (enters_of Tryz.func303 (by kernel_rfl) rfl) (xm r s row own) oN fun u => ?_; change HL _ _ _ (wJ r s row true :: JH 5 (s.map bV) row) _ _ _ _; refine JG 8 rfl ?_; refine LR rfl (Jd (v := J9 s.length row) rfl (kn 0 rfl) rfl rfl) ?_; refine QI rfl (Jeq (e := 5) (s := s) (s2 := s2) (row := row) (L0 := [wJ r s row true]) (List.perm_append_comm (l₁ := [_])) rfl rfl rfl rfl rfl rfl rfl rfl rfl hb.1 hb.2 (by omega) fun row2 h1 h2 => (Kn List.perm_append_comm ?_)); change HL _ _ _ ((r, .cells #[pB true r, J9 s.length row] 243 (0, 0)) :: JH 5 ((s ++ s2).map bV) row2) _ _ _ _; refine JG 2 rfl ?_; refine Kx (k := 0) (cs' := #[pB true r, J9 (s ++ s2).length row2]) rfl rfl rfl rfl rfl (Jjx _ _) rfl rfl rfl rfl ?_; refine JG 5 rfl ?_; refine LR rfl (Qg rfl rfl) ?_; refine Jy 5 rfl ?_; refine Jh rfl rfl (.cons (Jj rfl) (.cons (Jj rfl) .nil)) (fun w1 hs1 => ?_); exact ⟨⟨row2, h1, h2⟩, rfl, hs1⟩
theorem Jwq (r : Nat) {s : BS} {row : QK} (own : Bool) (hb : bOk s row) : PureR Tryz.prog 246 [X8 r].toArray (.int .i64 (s.length : Int)) [wJ r s row own] := by
 refine Ja Tryz.func246 rfl rfl fun w => ?_; refine JB ?_; refine Jq 10 rfl ?_; refine LR rfl (Jd (v := J9 s.length row) rfl (Jx (k := 0) rfl) rfl rfl) ?_; refine LR rfl (WJ rfl hb.1.zero rfl) ?_; refine Jy 4 rfl ?_; refine pT rfl rfl rfl fun w1 hs1 => ?_; exact ⟨rfl, hs1.keep⟩
theorem Je3 {r : Nat} {s : BS} {row : QK} {own : Bool} (hb : bOk s row) (hl : s.length ≤ 1000000) :
  PureT (α := Unit) Tryz.prog 219 [X8 r].toArray (fun _ => J6 s) (Wq r s row own) (fun _ => []) [] := by
 have hcap : ∀ q cap sp, row = some (q, cap, sp) → cap ≠ 0 := by
  rintro q cap sp rfl h0
  obtain ⟨⟨h1, h2⟩, h3⟩ := hb
  have h4 : s.length = 0 := by omega
  have := h3 (List.eq_nil_of_length_eq_zero h4)
  cases this
 refine Ju Tryz.func219 rfl rfl fun w => ?_; refine JB ?_
 unfold Wq
 refine JP 6 rfl ?_
 refine JN [] [(0, .pure), (1, .pure), (2, .pure), (4, .pure), (5, .pure), (6, .pure), (7, .pure), (9, .pure)] 10 [0, 1, 2, 3, 4, 5, 6, 7, 8, 9] (by kernel_rfl) (by kernel_rfl) (by first | exact (fun _ h => absurd h List.not_mem_nil) | simp [SubS] | (intro p hp; simp [hp])) ?_; refine Jm (k := 0) rfl rfl rfl rfl rfl (fun _ hS => (Jg rfl)) ?_; refine Jm (k := 1) rfl rfl rfl rfl rfl (fun _ hS => (Jv rfl rfl rfl)) ?_
 refine Jm (k := 2) rfl rfl rfl rfl rfl (fun _ hS => (JE rfl rfl rfl)) ?_; refine KD (k := 3) rfl rfl rfl rfl rfl (Jd (v := J9 s.length row) rfl (kn 0 rfl) rfl rfl) ?_; refine Jm (k := 4) rfl rfl rfl rfl rfl (fun _ _ => zT rfl hcap) ?_; refine Jm (k := 5) rfl rfl rfl rfl rfl (fun _ hS => (Jg rfl)) ?_; refine Jm (k := 6) rfl rfl rfl rfl rfl (fun _ hS => (Jv rfl rfl rfl)) ?_
 refine Jm (k := 7) rfl rfl rfl rfl rfl (fun _ hS => (JE rfl rfl rfl)) ?_; refine KD (k := 8) rfl rfl rfl rfl rfl (Jd (v := J9 s.length row) rfl (kn 0 rfl) rfl rfl) ?_; refine Jm (k := 9) rfl rfl rfl rfl rfl (fun _ _ => WJ rfl hb.1.zero rfl) ?_; refine Kv ?_; refine q8 (e := 5) (s := s) (row := row) (L0 := [wJ r s row own]) (List.perm_append_comm (l₁ := [_])) rfl rfl rfl rfl rfl rfl hb.1 hb.2 (by omega) ?_; refine Jy 4 rfl ?_; refine pT rfl rfl rfl fun w1 hs1 => ?_; exact ⟨(), rfl, hs1.weakL (List.nil_sublist _)⟩
theorem Jta (x : Ty) : wI x = if Vm x then KL x else 4 := rfl
theorem Jhj {R : Ji} {t : Ty} (ht : t.In R) : PureR Tryz.prog 367 [t.val].toArray (.tuple #[.int .i64 (wI t), .bool (Vm t)]) R := by
 have h1 := Jhg ht
 have h2 := Jnp ht
 unfold yi at h2
 rw [Jta]
 generalize Vm t = b at h1 h2 ⊢
 generalize KL t = z at h2 ⊢
 obtain ⟨k, n, p, ins⟩ := t
 refine Ja Tryz.func367 rfl rfl fun w => ?_; refine JB ?_; refine Jq 2 rfl ?_; refine LN rfl fun r1 => ?_; refine JG 7 rfl ?_; refine LR rfl (Jp (vs := [_, _, _]) rfl (kn 0 rfl) rfl rfl rfl rfl) ?_; refine Je rfl rfl rfl (enters_of Tryz.func304 (by kernel_rfl) rfl) h1 oR ?_; refine JM 2 rfl ?_; refine cD (fun g => ?_) fun g => ?_
 refine Jq 2 rfl ?_; refine LR rfl (Jp (vs := [_, _, _]) rfl (kn 0 rfl) rfl rfl rfl rfl) ?_; refine Je rfl rfl rfl (enters_of Tryz.func221 (by kernel_rfl) rfl) h2 oR ?_; refine Jy 6 rfl ?_; refine Jh rfl rfl (.cons (Jj rfl) (.cons (Jj rfl) .nil)) (fun w1 hs1 => ?_); refine ⟨?_, hs1.keep⟩
 simp_all [J8]
 ·refine Km 9 rfl ?_; refine Jh rfl rfl (.cons (Jj rfl) (.cons (Jj rfl) .nil)) (fun w1 hs1 => ?_); refine ⟨?_, hs1.keep⟩
  simp_all [J8]
theorem Jy1 {R : Ji} {k n : Int} {p : Pl} {ins : List Ty} {pick : Int} {i : Nat} (ht : Ty.In R (.mk k n p ins)) (hp8 : k = 8 → 0 ≤ pick) (hx : Xn k pick i < ins.length) : PureR Tryz.prog 380 [Ty.val (.mk k n p ins), .int .i64 pick, .int .i64 (i : Int)].toArray (JO k pick ins i).val R := by
 have hty := QD hx
 cases ht with
 | @mk k n p ins hk hn hlt hst hit =>
 obtain ⟨X, hX⟩ : ∃ X, X = JO k pick ins i := ⟨_, rfl⟩
 rw [← hX] at hty ⊢; refine Ja Tryz.func380 rfl rfl fun w => ?_; refine JB ?_; refine Jq 2 rfl ?_; refine LN rfl fun r1 => ?_; refine LN rfl fun r2 => ?_; refine Goc 16 [1] rfl rfl ?_; refine cD (fun g => ?_) fun g => ?_
 refine XA 5 [1] rfl rfl ?_; refine LR rfl (Jr (j := Xn k pick i) rfl hst rfl rfl rfl (by unfold Xn; rw [if_pos (by assumption)]) hx) ?_; refine LR rfl (Qd oR rfl hst hty.1 rfl rfl) ?_; refine Jk (k := 0) (n := 3) (ys := X.cells) rfl rfl rfl rfl rfl X.len rfl X.one rfl ?_; refine Jy 5 rfl ?_; refine Jh rfl rfl (.cons (J2 (vs := X.cells) rfl (kn 0 rfl) rfl (by rw [X.len]; rfl)) .nil) (fun w1 hs1 => ?_); exact ⟨rfl, hs1.keep⟩
 ·refine JP 6 rfl ?_; refine cD (fun g => ?_) fun g => ?_
  refine XA 5 [1] rfl rfl ?_; refine LR rfl (Jr (j := Xn k pick i) rfl hst rfl rfl rfl (by unfold Xn; rw [if_neg (by assumption), if_pos (by assumption)]; have := hp8 (by assumption); omega) hx) ?_; refine LR rfl (Qd oR rfl hst hty.1 rfl rfl) ?_; refine Jk (k := 0) (n := 3) (ys := X.cells) rfl rfl rfl rfl rfl X.len rfl X.one rfl ?_; refine Jy 5 rfl ?_; refine Jh rfl rfl (.cons (J2 (vs := X.cells) rfl (kn 0 rfl) rfl (by rw [X.len]; rfl)) .nil) (fun w1 hs1 => ?_); exact ⟨rfl, hs1.keep⟩
  ·refine XA 7 [1] rfl rfl ?_; refine LR rfl (Jr (j := Xn k pick i) rfl hst rfl rfl rfl (by unfold Xn; rw [if_neg (by assumption), if_neg (by assumption)]; rfl) hx) ?_; refine LR rfl (Qd oR rfl hst hty.1 rfl rfl) ?_; refine Jk (k := 0) (n := 3) (ys := X.cells) rfl rfl rfl rfl rfl X.len rfl X.one rfl ?_; refine Jy 3 rfl ?_; refine Jh rfl rfl (.cons (J2 (vs := X.cells) rfl (kn 0 rfl) rfl (by rw [X.len]; rfl)) .nil) (fun w1 hs1 => ?_); exact ⟨rfl, hs1.keep⟩
def WT (k : Int) (ins : List Ty) (m : Nat) : List Ty := (List.range m).map fun i => JO k 0 ins i
theorem Jcm : ∀ a b : List Ty, QZ (a ++ b) = QZ a + QZ b
 | [], b => by rw [List.nil_append, QZ, Int.zero_add]
 | x :: xs, b => by rw [List.cons_append, QZ, QZ, Jcm xs b, Int.add_assoc]
theorem Jj0 (k : Int) (ins : List Ty) (i : Nat) : QZ (WT k ins (i + 1)) = QZ (WT k ins i) + wI (JO k 0 ins i) := by
 unfold WT
 rw [List.range_succ, List.map_append, Jcm, List.map_cons, List.map_nil, QZ, QZ, Int.add_zero]
theorem Jhk (x : Ty) : 1 ≤ wI x ∧ wI x ≤ 2251799813685248 := by
 unfold wI
 split
 ·rename_i h
  obtain ⟨h1, h2⟩ := XN.1 h
  have h3 := Jd3 x 0 (Int.le_refl _) h1 h2
  have h4 := Jl5 (show (5 - (0 : Int)).toNat ≤ 5 by decide)
  omega
 ·omega
theorem xq : ∀ l : List Ty, 0 ≤ QZ l ∧ QZ l ≤ 2251799813685248 * l.length
 | [] => by rw [QZ]; simp
 | x :: xs => by
  have h1 := Jhk x
  have h2 := xq xs
  rw [QZ, List.length_cons]; omega
theorem Jcn (k : Int) (ins : List Ty) (m : Nat) : (WT k ins m).length = m := by unfold WT; rw [List.length_map, List.length_range]
def qA (r : Nat) (m : Int) : Nat × Obj := (r, .cells #[.int .i64 m] 3 (0, 0))
theorem Jhl (t : Ty) (m : Int) : PureE (α := Nat × Nat) Tryz.prog 366 [t.val, .int .i64 m].toArray (fun p => .func (.func 379) #[] #[X8 p.2, X8 p.1]) (fun p => [qA p.2 m, Wp p.1 t]) := by
 obtain ⟨k, n, p, ins⟩ := t
 refine JX Tryz.func366 rfl rfl fun w => ?_; refine JB ?_; refine Jq 2 rfl ?_; refine LN rfl fun r1 => ?_; refine LN rfl fun r2 => ?_; refine JG 5 rfl ?_; refine LR rfl (JD rfl rfl) ?_; refine Jy 4 rfl ?_; refine pT rfl rfl rfl fun w1 hs1 => ?_; exact ⟨(r1, r2), rfl, hs1⟩
def itV (k : Int) (ins : List Ty) (i : Nat) : List Value := [.int .i64 (i : Int), (JO k 0 ins i).val]
theorem Jhm {R : Ji} {k n : Int} {p : Pl} {ins : List Ty} {m : Nat} (ht : Ty.In R (.mk k n p ins)) (hm : m ≤ 1000000) (hx : ∀ i, i < m → Xn k 0 i < ins.length) (rt ri : Nat) :
    ZL Tryz.prog 379 [X8 ri, X8 rt] (qA ri m :: Wp rt (.mk k n p ins) :: R) 0 (nxN (itV k ins) m) (wD m) := by
  refine QT Tryz.func379 rfl rfl fun q xids w2 XI XF hY => ?_; refine JB ?_; refine Jq 2 rfl ?_; refine LR rfl (Jd (v := .int .i64 (m : Int)) rfl (Jx (k := 0) rfl) rfl rfl) ?_; refine JM 4 rfl ?_; refine Jz (σ := Nat) (fun i => i ≤ m) (fun i => [(0, .func (.yield q) #[] #[]), (1, X8 ri), (2, X8 rt), (5, .int .i64 (m : Int)), (6, .int .i64 (i : Int))]) (fun _ => []) (fun i => XI i) (fun i => m - i) 0 (Nat.zero_le _) (lK rfl) (List.Sublist.refl _) (fun _ _ h => h) ?_; intro i hi; refine JP 6 rfl ?_; refine cD (fun g => ?_) fun g => ?_
  · refine JP 11 rfl ?_
    have hil : i < m := by omega
    refine Jq 3 rfl ?_; refine LR rfl (Jf (xs := Ty.cells (.mk k n p ins)) (n := 3) rfl (Jx (k := 1) rfl) rfl rfl (Ty.len _)) ?_; refine QI rfl (Je rfl rfl rfl (enters_of Tryz.func380 (by kernel_rfl) rfl) (Jy1 ht (fun _ => Int.le_refl 0) (hx i hil)) (fun q hq => Or.inr (List.mem_cons_of_mem _ (List.mem_cons_of_mem _ hq))) ?_); refine Vk (XT := XI (i + 1)) (XF := XF) rfl rfl rfl rfl (hY i (itV k ins i) (i + 1) ⟨hil, rfl, rfl⟩) ?_ ?_
    all_goals (
     refine Jy 2 rfl (Zr 1 rfl ?_); refine J1 rfl (fun g => ?_) (fun g => ?_)
     · try exact Bool.noConfusion g
       all_goals try simp only [ZZ] at g
       all_goals (
        refine Km 5 rfl ?_; refine Jh rfl rfl .nil (fun w1 hs1 => ?_)
        obtain ⟨xs1, hx1⟩ := hs1.now
        exact ⟨⟨_, rfl⟩, hs1.keep, .inr ⟨_, hx1⟩⟩
        skip)
     · try exact Bool.noConfusion g
       all_goals try simp only [ZZ] at g
       all_goals (
        refine Jq 5 rfl ?_; refine J3 (show _ = Value.int .i64 ((i + 1 : Nat) : Int) from by rw [wrap_i64 (by omega) (by omega)]; congr 1 <;> omega) ?_; refine Jy 2 rfl ?_; refine Jw ?_; exact Jt (i + 1) (by omega) (by omega) (lK rfl) (List.Sublist.refl _) (fun _ _ h => h)
        skip)
     skip)
  · refine Km 4 rfl ?_; refine Kj rfl rfl .nil (fun w1 hs1 => ?_)
    obtain ⟨xs1, hx1⟩ := hs1.now
    exact ⟨⟨_, rfl⟩, hs1.keep, .inl ⟨i, _, (by show i = m; omega), hx1⟩⟩
theorem Jn1 {R : Ji} {k n : Int} {p : Pl} {ins : List Ty} {m : Nat} (ht : Ty.In R (.mk k n p ins)) (hm : m ≤ 600) (hx : ∀ i, i < m → Xn k 0 i < ins.length) : PureR Tryz.prog 365 [Ty.val (.mk k n p ins), .int .i64 (m : Int)].toArray (.int .i64 (QZ (WT k ins m))) R := by
 have hti := fun i h => ht.sub _ (QD (hx i h)).2
 refine Ja Tryz.func365 rfl rfl fun w => ?_; refine JB ?_; refine Jq 2 rfl ?_; refine LN rfl fun r1 => ?_; refine JG 5 rfl ?_; refine LN rfl fun r2 => ?_
 refine LT 0 rfl rfl ?_; refine XB 7 [1] rfl rfl ?_; refine JR rfl rfl rfl (enters_of Tryz.func366 (by kernel_rfl) rfl) (Jhl (.mk k n p ins) (m : Int)) fun pp => ?_
 obtain ⟨ra, rb⟩ := pp
 change HL _ _ _ (qA rb m :: Wp ra (.mk k n p ins) :: _) _ _ _ _; refine JM 3 rfl ?_; refine Wl [2, 0, 1, 3] (L' := [_, _, _, _]) (by decide) rfl ?_
 refine VH (τ := Unit) (fun i (s : Nat) => i ≤ m ∧ i = s) (fun s => [(r2, .cells #[.int .i64 (QZ (WT k ins s))] 3 (0, 0))]) (fun _ _ => False) (fun _ => []) [qA rb m, Wp ra (.mk k n p ins), _] 0 rfl rfl (enters_of Tryz.func379 (by kernel_rfl) rfl) (Jhm ht (by omega) hx ra rb) (by rintro _ _ _ ⟨_, rfl, _⟩; rfl) rfl (fun q hq => by rcases List.mem_cons.1 hq with rfl | hq; exact .inl (by simp); rcases List.mem_cons.1 hq with rfl | hq; exact .inl (by simp); exact .inr hq) rfl ⟨Nat.zero_le _, rfl⟩ ?_ ?_ ?_
 rintro q Xr Xb w3 i _ _ s ⟨hii, rfl, rfl⟩ ⟨him, rfl⟩ Kr hKr; refine inR ?_
 have hti1 := hti i hii
 have hb1 := Jhk (JO k 0 ins i)
 have hb2 := xq (WT k ins i)
 rw [Jcn] at hb2
 unfold itV
 refine Jq 1 rfl ?_; refine LN rfl fun r3 => ?_; refine Jk (k := 0) (n := 3) (ys := (JO k 0 ins i).cells) rfl rfl rfl rfl rfl (JO k 0 ins i).len rfl (JO k 0 ins i).one rfl ?_; refine Jy 1 rfl ?_; refine hKr _ _ ?_; refine JB ?_; clear hKr; refine Jq 3 rfl ?_; refine LR rfl (Jf (xs := (JO k 0 ins i).cells) (n := 3) rfl (kn 0 rfl) rfl rfl (JO k 0 ins i).len) ?_; refine Je rfl rfl rfl (enters_of Tryz.func367 (by kernel_rfl) rfl) (Jhj hti1) (fun q hq => Or.inr (List.mem_append_right _ hq)) ?_; refine JG 8 rfl ?_; refine LR rfl (Jd (v := .int .i64 (QZ (WT k ins i))) rfl (kn 1 rfl) rfl rfl) ?_; refine LS 2 [] rfl rfl ?_; refine J3 (show _ = Value.int .i64 (QZ (WT k ins (i + 1))) from by rw [Jj0]; exact congrArg (Value.int .i64) (wrap_i64 (by omega) (by omega))) ?_; refine Kx (k := 1) (cs' := #[.int .i64 (QZ (WT k ins (i + 1)))]) rfl rfl rfl rfl rfl rfl rfl rfl rfl rfl ?_; refine Jy 2 rfl ?_; refine Qm [1] (L' := [_]) (by decide) rfl ?_; refine Kt (i + 1) ⟨by omega, rfl⟩ rfl
 rintro D i s hfi ⟨him, rfl⟩
 obtain rfl : m = i := Eq.symm hfi
 refine gqo 4 rfl ?_; refine LR rfl (Jd (v := .int .i64 (QZ (WT k ins m))) rfl (kn 1 rfl) rfl rfl) ?_; refine Jy 4 rfl ?_; refine KM (k := 0) rfl rfl ?_; refine pT rfl rfl rfl fun w1 hs1 => ?_; exact ⟨rfl, hs1.keep⟩
 ·exact fun _ _ _ h => h.elim
theorem Jn2 {s : BS} (hl : s.length ≤ 1000000) : Pure Tryz.prog 340 [J6 s].toArray (J6 s.reverse) := by
 refine Jl Tryz.func340 rfl rfl fun w => ?_; refine JB ?_; refine Jq 8 rfl ?_; refine Xj rfl rfl rfl rfl rfl rfl fun rb kb => ?_
 obtain ⟨sp, hsp⟩ : ∃ sp, sp = List.replicate kb (Value.int .u8 0) := ⟨_, rfl⟩
 rw [← hsp]
 obtain ⟨fr, hfr⟩ : ∃ fr : Nat × Nat, fr = (s.length + kb, s.length + kb + 1) := ⟨_, rfl⟩
 rw [← hfr]
 have hfz : ∀ q, q < s.length → frB fr q = false := fun q hq => by rw [hfr]; simp [frB, Nat.blt, Nat.ble]; omega
 refine JG 7 rfl ?_; refine LR rfl (JQ rfl rfl) ?_; refine Wi rfl (J3 (show _ = Value.int .i64 ((s.length : Int) - 1) from congrArg (Value.int .i64) (wrap_i64 (by omega) (by omega))) (JM 5 rfl ?_)); refine Jz (σ := Nat) (fun i => 2 * i ≤ s.length + 1 ∧ 2 * i ≤ s.length) (fun i => [(3, .slice (some ⟨rb, 0, none⟩) s.length (s.length + kb)), (4, .int .i64 (i : Int)), (5, .int .i64 ((s.length : Int) - 1 - (i : Int)))]) (fun i => [(rb, .cells ((Yk s i).map bV ++ sp).toArray 5 fr)]) (fun _ _ _ => True) (fun i => s.length - i) 0 ⟨by omega, by omega⟩ (.cons rfl (.cons rfl (.cons (by rw [show ((0 : Nat) : Int) = 0 from rfl, Int.sub_zero]; rfl) .nil))) (List.Sublist.refl _) (fun _ _ h => h) ?_; rintro i ⟨hi1, hi2⟩; refine JP 8 rfl ?_; refine cD (fun g => ?_) fun g => ?_
 ·refine JP 4 rfl ?_
  have hii : i + 1 ≤ s.length - i := by omega
  obtain ⟨Y, hY⟩ : ∃ Y, Y = Yk s i := ⟨_, rfl⟩
  have hYl : Y.length = s.length := by rw [hY]; exact XQ s i
  rw [← hY]
  refine JN [] [(0, .pure), (1, .pure), (2, .pure), (3, .pure), (4, .pure), (5, .pure), (6, .pure), (8, .pure), (9, .pure), (10, .pure), (12, .pure), (13, .turn), (14, .pure), (15, .turn)] 16 [0, 1, 2, 3, 4, 5, 6, 7, 8, 9, 10, 11, 12, 13, 14, 15] (by kernel_rfl) (by kernel_rfl) (by first | exact (fun _ h => absurd h List.not_mem_nil) | simp [SubS] | (intro p hp; simp [hp])) ?_; refine Jm (k := 0) rfl rfl rfl rfl rfl (fun _ hS => (Jg rfl)) ?_; refine Jm (k := 1) rfl rfl rfl rfl rfl (fun _ hS => (Jg rfl)) ?_; refine Jm (k := 2) rfl rfl rfl rfl rfl (fun _ hS => (Jg rfl)) ?_; refine Jm (k := 3) rfl rfl rfl rfl rfl (fun _ hS => (Jg rfl)) ?_; refine Jm (k := 4) rfl rfl rfl rfl rfl (fun _ hS => (Jg rfl)) ?_; refine Jm (k := 5) rfl rfl rfl rfl rfl (fun _ hS => (Jg rfl)) ?_; refine Jm (k := 6) rfl rfl rfl rfl rfl (fun _ _ => JF (j := (s.length - 1 - i)) (m := 1) (off' := (s.length - 1 - i)) rfl rfl rfl rfl (by omega) (by omega) (by omega)) ?_; refine KD (k := 7) rfl rfl rfl rfl rfl (Jd rfl (kn 0 rfl) rfl (ZN (xs := Y.map bV) (v := bV (Y.getD (s.length - 1 - i) 0)) (XO (by omega)))) ?_; refine Jm (k := 8) rfl rfl rfl rfl rfl (fun _ hS => (Jg rfl)) ?_; refine Jm (k := 9) rfl rfl rfl rfl rfl (fun _ hS => (Jg rfl)) ?_; refine Jm (k := 10) rfl rfl rfl rfl rfl (fun _ _ => JF (j := i) (m := 1) (off' := i) rfl rfl rfl rfl (by omega) (by omega) (by omega)) ?_; refine KD (k := 11) rfl rfl rfl rfl rfl (Jd rfl (kn 0 rfl) rfl (ZN (xs := Y.map bV) (v := bV (Y.getD (i) 0)) (XO (by omega)))) ?_; refine Jm (k := 12) rfl rfl rfl rfl rfl (fun _ _ => JF (j := i) (m := 1) (off' := i) rfl rfl rfl rfl (by omega) (by omega) (by omega)) ?_; refine YZ (k := 13) (q := 0) (cs' := ((Y.set i (Y.getD (s.length - 1 - i) 0)).map bV ++ sp).toArray) rfl rfl rfl rfl rfl rfl rfl rfl (hfz _ (by omega)) (by simp; omega) (jo (by omega)) rfl (fun _ h => nomatch h) ?_; refine Jm (k := 14) rfl rfl rfl rfl rfl (fun _ _ => JF (j := (s.length - 1 - i)) (m := 1) (off' := (s.length - 1 - i)) rfl rfl rfl rfl (by omega) (by omega) (by omega)) ?_; refine YZ (k := 15) (q := 0) (cs' := ((Yk s (i + 1)).map bV ++ sp).toArray) rfl rfl rfl rfl rfl rfl rfl rfl (hfz _ (by omega)) (by simp; omega) (by rw [jo (by rw [List.length_set]; omega), Yk, ← hY]) rfl (fun _ h => nomatch h) ?_; refine Kv ?_; refine JG 6 rfl ?_; refine Jc (by omega) (by omega) ?_; refine JG 2 rfl ?_; refine J3 (show _ = Value.int .i64 ((s.length : Int) - 1 - ((i + 1 : Nat) : Int)) from by rw [wrap_i64 (by omega) (by omega)]; congr 1 <;> omega) ?_; refine Jy 3 rfl ?_; refine Jw ?_; exact Jt (i + 1) ⟨by omega, by omega⟩ (by omega) (lK rfl) (List.Sublist.refl _) (fun _ _ h => h)
 ·refine JP 6 rfl ?_; rw [Jcj (xs := s) (i := i) (by omega) (by omega)]; refine Jq 2 rfl ?_; refine LR rfl (qo (b := s.reverse) rfl (kn 0 rfl) (by rw [List.length_reverse]) (by simp only [List.toList_toArray]; rw [List.take_left' (by rw [List.length_map])]) rfl rfl rfl) ?_; refine Jy 4 rfl ?_; refine pT rfl rfl rfl fun w1 hs1 => ?_; exact ⟨rfl, hs1.keep⟩
theorem yG {Y : BS} {i : Nat} {b : UInt8} : (Y.map bV).toArray.setIfInBounds i (bV b) = ((Y.set i b).map bV).toArray := by
 rw [List.setIfInBounds_toArray, List.map_set]
theorem Jhn (x : UInt8) {m : Nat} (hm : m < 8) : Value.int .u8 ((x.toNat ||| 2 ^ m : Nat) : Int) = bV (UInt8.ofNat (x.toNat ||| 2 ^ m)) := Jf4 (Jyn (Yz x) hm)
theorem Jn3 {m : Nat} (hm : m < 8) : IntKind.u8.wrap (1 * ((2 ^ m : Nat) : Int)) = ((2 ^ m : Nat) : Int) := by
 have h : 2 ^ m ≤ 128 := Nat.pow_le_pow_right (n := 2) (i := m) (j := 7) (by decide) (by omega)
 generalize 2 ^ m = q at h ⊢
 rw [Int.one_mul]; exact qF (by omega) (by omega)
theorem Jn4 {R : Ji} {l : List Bool} {g : FuncId} {caps : List Value} (hl : l.length ≤ 1000000) (eg : Enters Tryz.prog g) (hg : ∀ i, i < l.length → PureR Tryz.prog g (Value.int .i64 (i : Int) :: caps).toArray (.bool (l.getD i false)) R) :
  PureR Tryz.prog 341 [.int .i64 (l.length : Int), .func (.func g) #[] caps.toArray].toArray (J6 (Wt l)) R := by
 obtain ⟨N, hN⟩ : ∃ N, N = (l.length + 7) / 8 := ⟨_, rfl⟩
 have hpB : Wt l = KK l N l.length := by rw [hN]; rfl
 refine Ja Tryz.func341 rfl rfl fun w => ?_; refine JB ?_; refine Jq 9 rfl ?_; refine J3 (show _ = Value.int .i64 ((l.length + 8 : Nat) : Int) from by rw [wrap_i64 (by omega) (by omega)]; congr 1 <;> omega) ?_
 refine Wi rfl ?_; refine J3 (show _ = Value.int .i64 ((l.length + 7 : Nat) : Int) from by rw [wrap_i64 (by omega) (by omega)]; congr 1 <;> omega) ?_; refine Wi rfl ?_; refine J3 (show _ = Value.int .i64 ((N : Nat) : Int) from congrArg (Value.int .i64) (by rw [QJ (by omega) (by decide) (by omega), hN]; rfl)) ?_; refine Wz (n := N) (b := 1) rfl rfl rfl rfl rfl rfl rfl rfl rfl (by omega) (by omega) fun rm => ?_; rw [show List.replicate N (Value.int .u8 0) = (KK l N 0).map bV from by rw [KK, List.map_replicate]; rfl]; refine JM 11 rfl ?_; refine Jz (σ := Nat) (fun i => i ≤ l.length) (fun i => [(1, .func (.func g) #[] caps.toArray), (5, .slice (some ⟨rm, 0, none⟩) N N), (12, .int .i64 (l.length : Int)), (13, .int .i64 (i : Int))]) (fun i => [(rm, .cells ((KK l N i).map bV).toArray 5 (0, 0))]) (fun _ _ _ => True) (fun i => l.length - i) 0 (Nat.zero_le _) (lK rfl) (List.Sublist.refl _) (fun _ _ h => h) ?_; intro i hi1; refine JP 6 rfl ?_; refine cD (fun h7 => ?_) fun h7 => ?_
 ·refine JP 5 rfl ?_
  have hil : i < l.length := by omega
  have hi8 : i / 8 < N := by omega
  refine Jq 9 rfl ?_; refine Je rfl rfl rfl eg (hg i hil) oR ?_; refine JM 2 rfl ?_; refine cD (fun h11 => ?_) fun h11 => ?_
  ·have hbt : l.getD i false = true := by assumption
   have hst1 : KK l N (i + 1) = (KK l N i).set (i / 8) (UInt8.ofNat (((KK l N i).getD (i / 8) 0).toNat ||| 2 ^ (i % 8))) := by rw [KK, if_pos hbt]
   obtain ⟨Y, hY⟩ : ∃ Y, Y = KK l N i := ⟨_, rfl⟩
   have hYl : Y.length = N := by rw [hY]; exact Ve l N i
   rw [← hY] at hst1 ⊢
   refine JN [] [(0, .pure), (1, .pure), (2, .pure), (3, .pure), (5, .pure), (6, .pure), (7, .pure), (8, .pure), (9, .pure), (10, .turn)] 11 [0, 1, 2, 3, 4, 5, 6, 7, 8, 9, 10] (by kernel_rfl) (by kernel_rfl) (by first | exact (fun _ h => absurd h List.not_mem_nil) | simp [SubS] | (intro p hp; simp [hp])) ?_; refine Jm (k := 0) rfl rfl rfl rfl rfl (fun _ hS => (Jg rfl)) ?_; refine Jm (k := 1) rfl rfl rfl rfl rfl (fun _ hS => (Jg rfl)) ?_
   refine Jm (k := 2) rfl rfl rfl rfl rfl (fun _ _ => (Jv rfl rfl rfl)) ?_; refine Wa (show _ = Value.int .i64 ((i / 8 : Nat) : Int) from congrArg (Value.int .i64) (by first | exact W0 _ _ | exact QJ (by omega) (by decide) (by omega))) ?_; refine Jm (k := 3) rfl rfl rfl rfl rfl (fun _ _ => JF (j := (i / 8)) (m := 1) (off' := (i / 8)) rfl rfl rfl rfl (by omega) (by omega) (by omega)) ?_; refine KD (k := 4) rfl rfl rfl rfl rfl (Jd rfl (kn 0 rfl) rfl (by rw [Wk]; exact XO (by omega))) ?_; refine Jm (k := 5) rfl rfl rfl rfl rfl (fun _ hS => (Jg rfl)) ?_
   refine Jm (k := 6) rfl rfl rfl rfl rfl (fun _ _ => (Jv rfl rfl rfl)) ?_; refine Wa (show _ = Value.int .i64 ((i % 8 : Nat) : Int) from congrArg (Value.int .i64) (by first | exact W0 _ _ | exact QJ (by omega) (by decide) (by omega))) ?_; refine Jm (k := 7) rfl rfl rfl rfl rfl (fun _ _ => Jf2 (n := i % 8) (b := ((2 ^ (i % 8) : Nat) : Int)) rfl rfl rfl (show _ ≤ 8 from by omega) (Jn3 (by omega))) ?_; refine Jm (k := 8) rfl rfl rfl rfl rfl (fun _ _ => zA (op := .or) (m := (Y.getD (i / 8) 0).toNat) (n := 2 ^ (i % 8)) rfl rfl rfl (Yz _) (Nat.pow_lt_pow_right (by decide) (by omega) : 2 ^ (i % 8) < 2 ^ 8) rfl) ?_; refine Wa (Jhn _ (by omega)) ?_; refine Jm (k := 9) rfl rfl rfl rfl rfl (fun _ _ => JF (j := (i / 8)) (m := 1) (off' := (i / 8)) rfl rfl rfl rfl (by omega) (by omega) (by omega)) ?_; refine XG (k := 10) (q := 0) (cs' := ((KK l N (i + 1)).map bV).toArray) rfl rfl rfl rfl rfl rfl rfl rfl (by simp; omega) (by rw [yG, hst1]) rfl (fun _ h => nomatch h) ?_; refine Kv ?_; refine JG 5 rfl ?_; refine J3 (show _ = Value.int .i64 ((i + 1 : Nat) : Int) from by rw [wrap_i64 (by omega) (by omega)]; congr 1 <;> omega) ?_; refine Jy 2 rfl ?_; refine Jw ?_; exact Jt (i + 1) (by omega) (by omega) (lK rfl) (List.Sublist.refl _) (fun _ _ h => h)
  ·refine Jq 5 rfl ?_; refine J3 (show _ = Value.int .i64 ((i + 1 : Nat) : Int) from by rw [wrap_i64 (by omega) (by omega)]; congr 1 <;> omega) ?_; refine Jy 2 rfl ?_; refine Jw ?_
   (have hst0 : KK l N (i + 1) = KK l N i := by rw [KK, if_neg (by simp_all)]
    exact Jt (i + 1) (by omega) (by omega) (lK rfl) (by rw [hst0]; exact List.Sublist.refl _) (fun _ _ h => h))
 ·refine JP 6 rfl ?_
  obtain rfl : i = l.length := by omega
  refine Jq 2 rfl ?_; refine LR rfl (Qs (b := KK l N l.length) (row := some (rm, N, [])) (e := 5) (show _ = some (J9 (KK l N l.length).length _) from by rw [Ve]; rfl) ⟨by rw [List.length_map]; omega, by rw [Ve]; simp⟩ (fun p hp => .inl (by rw [List.mem_singleton.1 hp, List.append_nil]; exact List.mem_cons_self)) rfl rfl rfl) ?_; refine Jy 4 rfl ?_; refine pT rfl rfl rfl fun w1 hs1 => ?_; refine ⟨?_, hs1.keep⟩; rw [hpB]; rfl
theorem J0j {R : Ji} {a b c d : Nat} {bits : List Bool} {pb : Pl} {items : List Vl} {pi : Pl} {pick : Int} (hsb : Seg R bits.length (ZS bits) pb) (hl : bits.length ≤ 9223372036854775807) (rv : Nat) {i : Nat} (hi : i < bits.length) :
  PureR Tryz.prog 342 [.int .i64 (i : Int), X8 rv].toArray (.bool (bits.getD i false)) (Xd rv (.mk a b c d bits pb items pi pick) :: R) := by
 have hsb := hsb.mono (R' := Xd rv (.mk a b c d bits pb items pi pick) :: R) fun q hq => List.mem_cons_of_mem _ hq
 have hy : bits[i]? = some (bits.getD i false) := by rw [List.getD_eq_getElem?_getD, List.getElem?_eq_getElem hi]; rfl
 generalize bits.getD i false = y at hy ⊢
 refine Ja Tryz.func342 rfl rfl fun w => ?_; refine JB ?_; refine Jq 8 rfl ?_; refine LR rfl (Jd rfl (Jx (k := 0) rfl) rfl rfl) ?_; refine QI rfl ?_
 refine LR rfl (Jr (j := i) rfl hsb rfl rfl rfl (by first | rfl | omega) (by omega)) ?_; refine LR rfl (XE oR rfl hsb hy rfl) ?_; refine Jy 4 rfl ?_; refine pT rfl rfl rfl fun w1 hs1 => ?_; exact ⟨rfl, hs1.keep⟩
theorem J0k {R : Ji} {a b c d : Nat} {bits : List Bool} {pb : Pl} {items : List Vl} {pi : Pl} {pick : Int} (hsb : Seg R bits.length (ZS bits) pb) (hl : bits.length ≤ 9223372036854775807) (rn rv : Nat) {i : Nat} (hi : i < (bits ++ [true]).length) :
  PureR Tryz.prog 343 [.int .i64 (i : Int), X8 rn, X8 rv].toArray (.bool ((bits ++ [true]).getD i false)) (qA rn bits.length :: Xd rv (.mk a b c d bits pb items pi pick) :: R) := by
 have hsb := hsb.mono (R' := qA rn bits.length :: Xd rv (.mk a b c d bits pb items pi pick) :: R) fun q hq => List.mem_cons_of_mem _ (List.mem_cons_of_mem _ hq)
 rw [List.length_append] at hi; simp only [List.length_cons, List.length_nil] at hi
 by_cases he : i = bits.length
 have hv : (bits ++ [true]).getD i false = true := by rw [List.getD_eq_getElem?_getD, List.getElem?_append_right (by omega), he, Nat.sub_self]; rfl
 rw [hv]; refine Ja Tryz.func343 rfl rfl fun w => ?_; refine JB ?_; refine Jq 8 rfl ?_; refine LR rfl (Jd (v := .int .i64 (bits.length : Int)) rfl (Jx (k := 0) rfl) rfl rfl) ?_; refine Wi rfl (J3 (show _ = Value.bool true from XR (Jyk (by rw [he]))) (Jy 11 rfl ?_)); refine pT rfl rfl rfl fun w1 hs1 => ?_; exact ⟨rfl, hs1.keep⟩
 ·have hy : bits[i]? = some (bits.getD i false) := by rw [List.getD_eq_getElem?_getD, List.getElem?_eq_getElem (by omega)]; rfl
  have hv : (bits ++ [true]).getD i false = bits.getD i false := by rw [List.getD_eq_getElem?_getD, List.getElem?_append_left (by omega), List.getD_eq_getElem?_getD]
  rw [hv]
  generalize bits.getD i false = y at hy ⊢
  have hne : ((i : Int) == (bits.length : Int)) = false := by simp; omega
  refine Ja Tryz.func343 rfl rfl fun w => ?_; refine JB ?_; refine Jq 8 rfl ?_; refine LR rfl (Jd (v := .int .i64 (bits.length : Int)) rfl (Jx (k := 0) rfl) rfl rfl) ?_; refine Wi rfl (J3 (show _ = Value.bool false from XR (hne)) (JG 2 rfl ?_)); refine LR rfl (Jd rfl (Jx (k := 1) rfl) rfl rfl) ?_; refine QI rfl ?_
  refine LR rfl (Jr (j := i) rfl hsb rfl rfl rfl (by first | rfl | omega) (by omega)) ?_; refine LR rfl (XE oR rfl hsb hy rfl) ?_; refine Jy 5 rfl ?_; refine pT rfl rfl rfl fun w1 hs1 => ?_; exact ⟨rfl, hs1.keep⟩
theorem qT {k : Int} (h8 : k ≠ 8) (pick : Int) (ins : List Ty) (i : Nat) : JO k pick ins i = JO k 0 ins i := by
 unfold JO Xn; split
 ·rfl
 ·simp [h8]
theorem Jho {k : Int} (h8 : k ≠ 8) (pick : Int) (ins : List Ty) : ∀ (l : List Vl) (i : Nat), KW l k pick ins i = KW l k 0 ins i
 | [], i => by rw [KW, KW]
 | x :: xs, i => by rw [KW, KW, Jho h8 pick ins xs (i + 1), qT h8]
theorem Jco {k : Int} (ins : List Ty) : ∀ (l : List Vl) (i : Nat), (KW l k 0 ins i).map Prod.fst = (List.range' i l.length).map fun j => JO k 0 ins j
 | [], i => by rw [KW]; rfl
 | x :: xs, i => by
  rw [KW, List.map_cons, Jco ins xs (i + 1), List.length_cons, List.range'_succ, List.map_cons]
theorem Jn5 (k : Int) (ins : List Ty) (l : List Vl) : (KW l k 0 ins 0).map Prod.fst = WT k ins l.length := by
 rw [Jco]; unfold WT; rw [List.range_eq_range']
theorem Jtb {α : Type} (A : List α) (x : α) (B : List α) : (A ++ x :: B).Perm (B ++ (A ++ [x])) := by
 rw [show A ++ x :: B = (A ++ [x]) ++ B by simp]; exact List.perm_append_comm
def yH (l : List (Ty × BS)) : Nat := (l.map fun p => p.2.length + 4).sum
theorem vT (p : Ty × BS) (l : List (Ty × BS)) : yH (p :: l) = p.2.length + 4 + yH l := by unfold yH; rw [List.map_cons, List.sum_cons]
theorem xr : bOk [] none := ⟨⟨rfl, rfl⟩, fun _ => rfl⟩
set_option maxHeartbeats 1000000 in
theorem Jwr {R : Ji} {k n : Int} {p : Pl} {ins : List Ty} {items : List Vl} {pi : Pl} {B : Nat} (ht : Ty.In R (.mk k n p ins)) (hs : Seg R items.length (Qu items) pi) (hl : items.length ≤ 600) (hx : ∀ i, i < items.length → Xn k 0 i < ins.length)
  (hb : ∀ (i : Nat) x, items[i]? = some x → PureR Tryz.prog 302 [(JO k 0 ins i).val, x.val].toArray (J6 (Vf x (JO k 0 ins i))) R) (hB : yH (KW items k 0 ins 0) ≤ B) (hB2 : B ≤ 900000) :
  PureR Tryz.prog 344 [Ty.val (.mk k n p ins), Kz items.length pi].toArray (J6 (Zj (QZ (WT k ins items.length)).toNat (KW items k 0 ins 0) [] [])) R := by
 have hti := fun i h => ht.sub _ (QD (hx i h)).2
 have hbg := Jn1 ht hl hx
 have hbl := xq (WT k ins items.length)
 rw [Jcn] at hbl
 obtain ⟨H, hH⟩ : ∃ H, H = (QZ (WT k ins items.length)).toNat := ⟨_, rfl⟩
 have hHi : QZ (WT k ins items.length) = (H : Int) := by omega
 have hHb : H ≤ 1351079888211148800 := by omega
 rw [hHi] at hbg; rw [← hH]
 obtain ⟨TOT, hTOT⟩ : ∃ T, T = Zj H (KW items k 0 ins 0) [] [] := ⟨_, rfl⟩
 rw [← hTOT]; refine Ja Tryz.func344 rfl rfl fun w => ?_; refine JB ?_; refine Jq 2 rfl ?_; refine LN rfl fun r1 => ?_; refine LN rfl fun r2 => ?_; refine JG 5 rfl ?_; refine LN rfl fun r3 => ?_; refine LN rfl fun r4 => ?_; refine XB 6 [3, 2] rfl rfl ?_; refine LR rfl (J0 rfl hs rfl) ?_; refine Je rfl rfl rfl (enters_of Tryz.func365 (by kernel_rfl) rfl) hbg oR ?_; refine LN rfl fun r5 => ?_
 refine LT 0 rfl rfl ?_; refine XB 7 [4, 3] rfl rfl ?_; refine LR rfl (J0 rfl hs rfl) ?_; refine JR rfl rfl rfl (enters_of Tryz.func366 (by kernel_rfl) rfl) (Jhl (.mk k n p ins) (items.length : Int)) fun pp => ?_
 obtain ⟨ra, rb⟩ := pp
 change HL _ _ _ (qA rb items.length :: Wp ra (.mk k n p ins) :: _) _ _ _ _; refine JM 3 rfl ?_; refine Wl [4, 3, 0, 1, 2, 5, 6] (L' := [wJ r3 [] none false, wJ r4 [] none false, qA rb items.length, Wp ra (.mk k n p ins), _, _, _]) (by decide) rfl ?_
 refine VH (τ := Unit) (fun i (s : BS × BS × QK × QK × Bool × Bool) => i ≤ items.length ∧ Zj H (KW (items.drop i) k 0 ins i) s.1 s.2.1 = TOT ∧ bOk s.1 s.2.2.1 ∧ bOk s.2.1 s.2.2.2.1 ∧ s.1.length + s.2.1.length + yH (KW (items.drop i) k 0 ins i) ≤ B) (fun s => Wq r3 s.1 s.2.2.1 s.2.2.2.2.1 ++ Wq r4 s.2.1 s.2.2.2.1 s.2.2.2.2.2) (fun _ _ => False) (fun _ => []) [qA rb items.length, Wp ra (.mk k n p ins), _, _, _] ([], [], none, none, false, false) rfl rfl (enters_of Tryz.func379 (by kernel_rfl) rfl) (Jhm ht (by omega) hx ra rb) (by rintro _ _ _ ⟨_, rfl, _⟩; rfl) rfl (fun q hq => by rcases List.mem_cons.1 hq with rfl | hq; exact .inl (by simp); rcases List.mem_cons.1 hq with rfl | hq; exact .inl (by simp); exact .inr hq) rfl ⟨Nat.zero_le _, hTOT.symm, xr, xr, by simpa using hB⟩ ?_ ?_ ?_
 ·rintro q Xr Xb w3 i _ _ ⟨f, th, row1, row2, own1, own2⟩ ⟨hii, rfl, rfl⟩ ⟨him, hinv, hb1, hb2, hlen⟩ Kr hKr; refine inR ?_
  simp only at hinv hb1 hb2 hlen
  have hti1 := hti i hii
  have hix := Xs hii
  have hbi := hb i _ hix.1
  rw [Zk hix.1, KW, Zj] at hinv; rw [Zk hix.1, KW, vT] at hlen
  obtain ⟨S, hS⟩ : ∃ S, S = Vf (Xq items i) (JO k 0 ins i) := ⟨_, rfl⟩
  simp only [← hS] at hinv hlen; rw [← hS] at hbi
  have hle4 := Jce (H + th.length)
  unfold itV
  refine Jq 6 rfl ?_; refine Qi (cs := #[.int .i64 0, .int .i64 0, .slice none 0 0]) rfl rfl rfl rfl fun r9 => ?_; refine Jk (k := 0) (n := 3) (ys := (JO k 0 ins i).cells) rfl rfl rfl rfl rfl (JO k 0 ins i).len rfl (JO k 0 ins i).one rfl ?_; refine Jy 1 rfl ?_; refine hKr _ _ ?_; refine JB ?_; clear hKr; refine JP 2 rfl ?_; refine JJ 7 (by kernel_rfl) (by kernel_rfl) ?_; refine Jb rfl rfl rfl (Jf (xs := (JO k 0 ins i).cells) (n := 3) rfl (kn 0 rfl) rfl rfl (JO k 0 ins i).len) ?_; refine Jb rfl rfl rfl (Jd (v := Kz items.length pi) rfl (Jx (k := 3) rfl) rfl rfl) ?_; refine Jb rfl rfl rfl (Jg rfl) ?_
  refine Jb rfl rfl rfl (Jr (j := i) rfl hs rfl rfl rfl (by first | rfl | omega) (by omega)) ?_; refine Jb rfl rfl rfl (VZ (fun q hq => Or.inr (List.mem_append_right _ hq)) rfl hs hix.1 rfl rfl) ?_; refine V7 rfl rfl rfl Jnf hbi (fun q hq => Or.inr (List.mem_append_right _ hq)) ?_; refine Jb rfl rfl rfl (JA rfl) ?_; refine JW ?_; refine JG 5 rfl ?_; refine LR rfl (Jf (xs := (JO k 0 ins i).cells) (n := 3) rfl (kn 0 rfl) rfl rfl (JO k 0 ins i).len) ?_; refine Je rfl rfl rfl (enters_of Tryz.func367 (by kernel_rfl) rfl) (Jhj hti1) (fun q hq => Or.inr (List.mem_append_right _ hq)) ?_; refine JM 12 rfl ?_; refine cD (fun g => ?_) fun g => ?_
  refine Jq 3 rfl ?_; refine Qk (T := Wq r3 f row1 own1) (L0 := (r9, .cells (JO k 0 ins i).cells.toArray 84 (0, 0)) :: Wq r4 th row2 own2) (Rl := []) List.perm_middle.symm rfl rfl rfl Jg3 (qS hb1 (s2 := S) (by omega)) oN fun x => ?_
  obtain ⟨row1x, hb1x⟩ := x
  refine Jy 5 rfl ?_
  (rw [if_pos (by assumption)] at hinv
   refine qP (L' := Wq r3 (f ++ S) row1x true ++ Wq r4 th row2 own2) ((List.Sublist.refl _).append (.cons _ (List.Sublist.refl _))) ?_
   exact Kt (f ++ S, th, row1x, row2, true, own2) ⟨by omega, hinv, hb1x, hb2, by simp only [List.length_append]; omega⟩ rfl)
  ·refine JP 3 rfl ?_; refine JJ 10 (by kernel_rfl) (by kernel_rfl) ?_; refine Jb rfl rfl rfl (Jd (v := .int .i64 (H : Int)) rfl (Jx (k := 2) rfl) rfl rfl) ?_; refine V7 rfl rfl rfl (enters_of Tryz.func246 (by kernel_rfl) rfl) (Jwq r4 own2 hb2) (fun q hq => Or.inl (by rw [List.mem_singleton.1 hq]; exact List.mem_cons_of_mem _ (List.mem_append_right _ List.mem_cons_self))) ?_
   refine Jb rfl rfl rfl (Jv rfl rfl rfl) ?_; refine Qa (show _ = Value.int .i64 ((H + th.length : Nat) : Int) from by rw [wrap_i64 (by omega) (by omega)]; congr 1 <;> omega) ?_; refine Jb rfl rfl rfl (Jv rfl rfl rfl) ?_; refine Qa (show _ = uV (H + th.length) from congrArg (Value.int .u64) (wrap_u64 (by omega) (by omega))) ?_; refine Ky rfl rfl rfl Jsi (jl (n := H + th.length) (by omega) 4) ?_; refine Jb rfl rfl rfl (Jg rfl) ?_; refine Jb rfl rfl rfl (Kg rfl rfl) ?_; refine Jb rfl rfl rfl (Kg rfl rfl) ?_; refine Jb rfl rfl rfl (JA rfl) ?_; refine Jb rfl rfl rfl (JA rfl) ?_; refine JW ?_; refine JG 5 rfl ?_; refine Qk (T := Wq r3 f row1 own1) (L0 := (r9, .cells (JO k 0 ins i).cells.toArray 84 (0, 0)) :: Wq r4 th row2 own2) (Rl := []) List.perm_middle.symm rfl rfl rfl Jg3 (qS hb1 (s2 := (wH (H + th.length) 4).1) (by omega)) oN fun x => ?_
   obtain ⟨row1x, hb1x⟩ := x
   refine JG 4 rfl ?_; refine Qk (T := Wq r4 th row2 own2) (L0 := Wq r3 (f ++ (wH (H + th.length) 4).1) row1x true ++ [(r9, .cells (JO k 0 ins i).cells.toArray 84 (0, 0))]) (Rl := []) (Jtb _ _ _) rfl rfl rfl Jg3 (qS hb2 (s2 := S) (by omega)) oN fun x => ?_
   obtain ⟨row2x, hb2x⟩ := x
   refine Jy 2 rfl ?_
   (rw [if_neg (by rw [Bool.not_eq_true]; assumption)] at hinv
    refine zm List.perm_append_comm ?_; refine qP (L' := Wq r3 (f ++ (wH (H + th.length) 4).1) row1x true ++ Wq r4 (th ++ S) row2x true) ((List.sublist_append_left _ _).append (List.Sublist.refl _)) ?_
    exact Kt (f ++ (wH (H + th.length) 4).1, th ++ S, row1x, row2x, true, true) ⟨by omega, hinv, hb1x, hb2x, by simp only [List.length_append]; omega⟩ rfl)
 rintro D i ⟨f, th, row1, row2, own1, own2⟩ hfi ⟨him, hinv, hb1, hb2, hlen⟩
 simp only at hinv hb1 hb2 hlen
 have hin : i = items.length := hfi
 rw [hin, List.drop_length, KW, Zj] at hinv; refine gqo 4 rfl ?_; refine Qk (T := Wq r3 f row1 own1) (L0 := _ :: (Wq r4 th row2 own2 ++ [qA rb items.length, Wp ra (.mk k n p ins), _, _, _])) (Rl := []) (by rw [List.append_assoc]; exact List.perm_middle.symm) rfl rfl rfl Jm9 (Je3 hb1 (by omega)) oN fun u1 => ?_; refine Qk (T := Wq r4 th row2 own2) (L0 := _ :: [qA rb items.length, Wp ra (.mk k n p ins), _, _, _]) (Rl := []) List.perm_middle.symm rfl rfl rfl Jm9 (Je3 hb2 (by omega)) oN fun u2 => ?_; refine LR rfl (Q0 (a := f) (b := th) rfl rfl (by omega)) ?_; refine Jy 4 rfl ?_; refine KM (k := 0) rfl rfl ?_; refine pT rfl rfl rfl fun w1 hs1 => ?_; exact ⟨by rw [← hinv]; rfl, hs1.keep⟩
 ·exact fun _ _ _ h => h.elim
theorem WB {a b c d : Nat} {bits : List Bool} {pb : Pl} {items : List Vl} {pi : Pl} {pick k n : Int} {p : Pl} {ins : List Ty} (h : KE (.mk a b c d bits pb items pi pick) (.mk k n p ins) = 0) :
  ¬ ((k = 4 ∧ n < items.length) ∨ (k = 6 ∧ n < bits.length)) ∧ zV k n ins.length (.mk a b c d bits pb items pi pick) = true ∧ Q2 items k pick ins 0 = 0 := by
 rw [KE] at h
 split at h
 ·cases h
 ·rename_i h1
  split at h
  ·cases h
  ·rename_i h2
   exact ⟨h1, by simpa using h2, h⟩
theorem WU : ∀ {l : List Vl} {k pick : Int} {ins : List Ty} {i j : Nat} {x : Vl}, Q2 l k pick ins i = 0 → l[j]? = some x → KE x (JO k pick ins (i + j)) = 0
 | [], _, _, _, _, _, _, _, h => by simp at h
 | y :: ys, k, pick, ins, i, j, x, h0, h => by
  rw [Q2] at h0
  split at h0
  ·rename_i h1
   cases j with
   | zero => simp at h; subst h; exact h1
   | succ j =>
    rw [List.getElem?_cons_succ] at h
    have := WU h0 h
    rwa [show i + 1 + j = i + (j + 1) by omega] at this
  ·rename_i h1; exact absurd h0 h1
theorem Jn6 : ∀ {l : List Vl} {x : Vl}, x ∈ l → Yu x ≤ wL l
 | y :: ys, x, h => by
  rw [wL]
  rcases List.mem_cons.1 h with rfl | h
  ·omega
  ·have := Jn6 h; omega
theorem Je4 {a b c d : Nat} {bits : List Bool} {pb : Pl} {items : List Vl} {pi : Pl} {pick : Int} {x : Vl} (h : x ∈ items) : Yu x ≤ Yu (.mk a b c d bits pb items pi pick) := by
 have := Jn6 h
 rw [Yu]; omega
theorem Jcp (items : List Vl) (k pick : Int) (ins : List Ty) : ∀ (l : List Vl) (i : Nat), yH (KW l k pick ins i) ≤ 40 * wL l
 | [], i => by rw [KW, wL]; exact Nat.zero_le _
 | x :: xs, i => by
  rw [KW, wL, vT]
  have h1 := vO x (JO k pick ins i)
  have h2 := Jcp items k pick ins xs (i + 1)
  simp only
  omega
theorem Jj1 {z : Int} (h1 : 0 ≤ z) (h2 : z < 256) : Value.int .u8 (IntKind.u8.wrap z) = bV (UInt8.ofNat z.toNat) := by
 rw [qF h1 (by omega), ← Jf4 (by omega), Int.toNat_of_nonneg h1]
theorem Jtc {l : List Vl} {k pick : Int} {ins : List Ty} (h : l.length = 1) : ((KW l k pick ins 0).headD (default, [])).2 = Vf (Xq l 0) (JO k pick ins 0) := by
 match l, h with
 | [x], _ => rw [KW]; rfl
theorem Jcq {a b c d : Nat} {bits : List Bool} {pb : Pl} {items : List Vl} {pi : Pl} {pick k n dp : Int} {p : Pl} {ins : List Ty} (hc : chk (.mk k n p ins) dp = 0) (h : KE (.mk a b c d bits pb items pi pick) (.mk k n p ins) = 0) :
  items.length ≤ 512 ∧ bits.length ≤ 512 ∧ (k = 1 → 1 ≤ n ∧ n ≤ 32) ∧ (k = 8 → items.length = 1 ∧ 0 ≤ pick ∧ pick < ins.length ∧ ins.length ≤ 8) := by
 obtain ⟨h1, h2, _⟩ := WB h
 obtain ⟨hk, hf, _, _⟩ := QU hc
 rw [Vi k n ins.length a b c d bits pb items pi pick _ rfl] at h2; simp only [QY] at h2
 unfold KQ at hf
 have h9 : k = 1 ∨ k = 2 ∨ k = 3 ∨ k = 4 ∨ k = 5 ∨ k = 6 ∨ k = 7 ∨ k = 8 := by omega
 rcases h9 with rfl | rfl | rfl | rfl | rfl | rfl | rfl | rfl
 all_goals generalize items.length = I at *
 all_goals generalize bits.length = J at *
 all_goals generalize ins.length = K at *
 all_goals simp at h1 h2 hf ⊢
 all_goals omega
section
variable {c : Cx} {l : Kk} {L E : Ji} {X : XP} {Q : Exit → Act → World → Prop} {d : List Deferred}
variable {ops : Array Oper} {rest : List Nat} {i k : Nat} {v : Value} {o : Oper} {tb : Zy} {S : Ji} {T : Ji → Act → Prop}
theorem VU {t ty : TypeId} {ps : String} {af : Array Edge} {gd : Option (Nat × Bool)} {n e sz : Nat} {pa : List (Nat × Operand)} {vs : Kk} {r zs : List Value} {z : Value} (hk : W9 ops.toList k = some ⟨some i, .buildSlice t n pa.toArray, ty, ps, af, gd⟩) (hg : JV l ops ⟨some i, .buildSlice t n pa.toArray, ty, ps, af, gd⟩ = some true) (hi : Nat.ble (i + 1) c.n = true)
  (hA : tb k = .grow (Wb (slV n) (.cells r.toArray e (0, 0))))
  (hp : Wx l pa = some vs) (ht : Ka c.P t = some e) (hz : Ql c.P e = some z) (hs : KC c.P e = some sz) (hzs : z.cells.size = sz) (hb : Nat.ble (n * sz) 16777216 = true) (h0 : Nat.ble 1 (n * sz) = true)
  (hmk : (madeCells z.cells (n * sz)).toList = zs) (hf : Yv (fun i => some (i * sz, sz)) zs (Qp vs) = some r)
  (h : ∀ q, HB c d ((i, .slice (some ⟨q, 0, none⟩) n n) :: l) ((q, .cells r.toArray e (0, 0)) :: E) X S ops tb rest T) : HB c d l E X S ops tb (k :: rest) T :=
 Jma (V := slV n) hk hg rfl hi hA (fun a w hfr => by
  have h1 := Vc hfr hp
  have h2 : (pa.toArray.map fun (p : Nat × Operand) => (p.1, a.eval p.2)) = vs.toArray := by
   apply Array.toList_inj.1; rw [Array.toList_map]; simpa using h1
  rw [Qn] at hf; subst hmk
  have h3 := V5 ht hz hs hzs (Nat.le_of_ble_eq_true hb) (Nat.le_of_ble_eq_true h0) hf w
  rw [← h2] at h3; simp only [execOp, Sem.run_bind]
  have h4 : (Instr.buildSlice t n (pa.toArray.map fun (i, x) => (i, a.eval x))).run c.P w = .ok (.slice (some ⟨w.heap.size, 0, none⟩) n n) (w.alloc (.cells r.toArray e)) := h3
  rw [h4]; rfl) h
end
section
variable {a b c d : Nat} {bits : List Bool} {pb : Pl} {items : List Vl} {pi : Pl} {pick k n : Int} {p : Pl} {ins : List Ty}
theorem VV : Vf (.mk a b c d bits pb items pi pick) (.mk k n p ins) = if k = 1 then leW [a, b, c, d] n.toNat else if k = 2 then leW [a, b, c, d] 1 else if k = 5 then Wt bits else if k = 6 then Wt (bits ++ [true])
  else if k = 8 then UInt8.ofNat pick.toNat :: ((KW items k pick ins 0).headD (default, [])).2 else Zj (QZ ((KW items k pick ins 0).map Prod.fst)).toNat (KW items k pick ins 0) [] [] := by rw [Vf]; rfl
end
set_option maxHeartbeats 1000000 in
theorem Jtd {R : Ji} {v : Vl} (hv : v.In R) : ∀ (t : Ty) (dp : Int), t.In R → chk t dp = 0 → KE v t = 0 → Yu v ≤ 20000 → PureR Tryz.prog 302 [t.val, v.val].toArray (J6 (Vf v t)) R := by
 induction hv with
 | @mk a b c d bits pb items pi pick ha hb hc hd hlb hsb hl hs hp hi ih =>
 intro t dp ht hck hfit hw
 have ht0 := ht
 cases ht with
 | @mk k n p ins hk hn hlt hst hit =>
 obtain ⟨hk8, ho, h6, hci⟩ := QU hck
 obtain ⟨hf1, hf2, hf3⟩ := WB hfit
 obtain ⟨m1, m2, m3, m4⟩ := Jcq hck hfit
 have hxl : ∀ i, i < items.length → Xn k pick i < ins.length := fun i hi => jK (v := .mk a b c d bits pb items pi pick) hck hf2 hi
 have hwd : WOk [a, b, c, d] := ⟨rfl, fun x hx => by simp at hx; rcases hx with rfl | rfl | rfl | rfl <;> assumption⟩
 have hfx := QA hwd
 have hlen32 : (YL [a, b, c, d] 32).reverse.length = 32 := by rw [List.length_reverse, Vs]
 have hpt := Jn2 (s := YL [a, b, c, d] 32) (by rw [Vs]; decide)
 have hle : ∀ m, leW [a, b, c, d] m = ((YL [a, b, c, d] 32).reverse.take m).drop 0 := fun m => by rw [List.drop_zero]; rfl
 have hrow : ¬ k = 1 → ¬ k = 2 → ¬ k = 5 → ¬ k = 6 → ¬ k = 8 → PureR Tryz.prog 344 [Ty.val (.mk k n p ins), Kz items.length pi].toArray (J6 (Vf (.mk a b c d bits pb items pi pick) (.mk k n p ins))) R := fun h1 h2 h5 h6 h8 => by
  have hx0 : ∀ i, i < items.length → Xn k 0 i < ins.length := fun i hi => by have := hxl i hi; unfold Xn at this ⊢; rw [if_neg h8] at this ⊢; exact this
  have hwl : wL items ≤ Yu (.mk a b c d bits pb items pi pick) := by rw [Yu]; omega
  have := Jwr (B := 800000) ht0 hs (by omega) hx0 (fun i x hxi => by
   have hm := List.mem_of_getElem? hxi
   have hlt3 := (List.getElem?_eq_some_iff.1 hxi).1
   have hty := (QD (hx0 i hlt3)).2
   have hg := WU hf3 hxi
   rw [Nat.zero_add, qT h8] at hg
   exact ih x hm _ (dp + 1) (hit _ hty) (hci _ hty) hg (Nat.le_trans (Je4 hm) hw)) (by have := Jcp items k 0 ins items 0; omega) (by decide)
  rw [VV, if_neg h1, if_neg h2, if_neg h5, if_neg h6, if_neg h8, Jho h8, Jn5]; exact this
 refine Ja Tryz.func302 rfl rfl fun w => ?_; refine JB ?_; refine Jq 2 rfl ?_; refine LN rfl fun r1 => ?_; refine LN rfl fun r2 => ?_; refine XB 7 [0] rfl rfl ?_; refine LR rfl (J0 rfl hsb rfl) ?_; refine LN rfl fun r3 => ?_
 refine LT 0 rfl rfl ?_; refine Goc 16 [2] rfl rfl ?_; refine cD (fun h6 => ?_) fun h6 => ?_
 refine JP 1 rfl ?_
 have hn1 := m3 (by assumption)
 refine JJ 8 (by kernel_rfl) (by kernel_rfl) ?_
 refine Jb rfl rfl rfl (JE rfl rfl rfl) ?_; refine Jb rfl rfl rfl (Jp (vs := [_, _, _, _]) rfl (kn 1 rfl) rfl rfl rfl rfl) ?_; refine Ky rfl rfl rfl Jb2 hfx ?_; refine Ky rfl rfl rfl (enters_of Tryz.func340 (by kernel_rfl) rfl) hpt ?_
 refine Jb rfl rfl rfl (JE rfl rfl rfl) ?_; refine Jb rfl rfl rfl (Jd rfl (kn 2 rfl) rfl rfl) ?_; refine Jb rfl rfl rfl (j5 (kl := none) (kh := some (.i64, n)) (m := 0) (n := n.toNat) rfl rfl rfl rfl rfl (by show n = ((n.toNat : Nat) : Int); omega) (Nat.zero_le _) (by rw [hlen32]; omega) rfl) ?_; rw [← hle]; refine Jb rfl rfl rfl (JA rfl) ?_; refine JW ?_; refine Jy 5 rfl ?_; refine pT rfl rfl rfl fun w1 hs1 => ?_; refine ⟨?_, hs1.keep⟩; rw [VV, if_pos (by assumption)]; rfl
 ·refine JP 6 rfl ?_; refine cD (fun g => ?_) fun g => ?_
  refine XA 4 [1] rfl rfl ?_; refine Jo rfl rfl rfl Jb2 hfx ?_; refine Jo rfl rfl rfl (enters_of Tryz.func340 (by kernel_rfl) rfl) hpt ?_; refine LR rfl (j5 (kl := none) (kh := some (.i64, 1)) (m := 0) (n := 1) rfl rfl rfl rfl rfl (by show (1 : Int) = ((1 : Nat) : Int); omega) (Nat.zero_le _) (by rw [hlen32]; omega) rfl) ?_; rw [← hle]; refine Jy 6 rfl ?_; refine pT rfl rfl rfl fun w1 hs1 => ?_; refine ⟨?_, hs1.keep⟩; rw [VV, if_neg (by assumption), if_pos (by assumption)]; rfl
  ·refine JP 6 rfl ?_; refine cD (fun g => ?_) fun g => ?_
   refine Jq 2 rfl ?_; refine LR rfl (Jd rfl (kn 0 rfl) rfl rfl) ?_; refine LR rfl (JD rfl rfl) ?_; refine Je (Rl := Xd r2 (.mk a b c d bits pb items pi pick) :: R) rfl rfl rfl (enters_of Tryz.func341 (by kernel_rfl) rfl) (Jn4 (caps := [X8 r2]) (by omega) (enters_of Tryz.func342 (by kernel_rfl) rfl) (fun i hi => J0j hsb (by omega) r2 hi)) (fun q hq => (List.mem_cons.1 hq).elim (fun h => .inl (by rw [h]; exact List.mem_cons_of_mem _ List.mem_cons_self)) .inr) ?_; refine Jy 6 rfl ?_; refine pT rfl rfl rfl fun w1 hs1 => ?_; refine ⟨?_, hs1.keep⟩; rw [VV, if_neg (by assumption), if_neg (by assumption), if_pos (by assumption)]; rfl
   ·refine JP 6 rfl ?_; refine cD (fun g => ?_) fun g => ?_
    refine XA 4 [0] rfl rfl ?_; refine J3 (show _ = Value.int .i64 (((bits ++ [true]).length : Nat) : Int) from by rw [wrap_i64 (by omega) (by omega)]; congr 1; rw [List.length_append]; rfl) ?_; refine LR rfl (JD rfl rfl) ?_
    refine Je (Rl := qA r3 bits.length :: Xd r2 (.mk a b c d bits pb items pi pick) :: R) rfl rfl rfl (enters_of Tryz.func341 (by kernel_rfl) rfl) (Jn4 (caps := [X8 r3, X8 r2]) (by rw [List.length_append]; simp; omega) (enters_of Tryz.func343 (by kernel_rfl) rfl) (fun i hi => J0k hsb (by omega) r3 r2 hi)) (fun q hq => by rcases List.mem_cons.1 hq with rfl | hq; exact .inl List.mem_cons_self; rcases List.mem_cons.1 hq with rfl | hq; exact .inl (List.mem_cons_of_mem _ List.mem_cons_self); exact .inr hq) ?_; refine Jy 6 rfl ?_; refine pT rfl rfl rfl fun w1 hs1 => ?_; refine ⟨?_, hs1.keep⟩; rw [VV, if_neg (by assumption), if_neg (by assumption), if_neg (by assumption), if_pos (by assumption)]; rfl
    ·refine JP 6 rfl ?_; refine cD (fun g => ?_) fun g => ?_
     refine JP 1 rfl ?_
     have hk0 : k = 8 := by assumption
     have h81 := (m4 hk0).1
     have hx8 := Xs (l := items) (i := 0) (by omega)
     have hty8 := QD (hxl 0 (by omega))
     have hix8 : Xn k pick 0 = pick.toNat := by unfold Xn; rw [if_neg (by omega), if_pos hk0]
     rw [hix8] at hty8
     have hg8 := WU hf3 hx8.1
     have hw8 := Nat.le_trans (Je4 (a := a) (b := b) (c := c) (d := d) (bits := bits) (pb := pb) (pi := pi) (pick := pick) hx8.2) hw
     have hrec := ih _ hx8.2 (JO k pick ins 0) (dp + 1) (hit _ hty8.2) (hci _ hty8.2) hg8 hw8
     have hpl8 := vO (Xq items 0) (JO k pick ins 0)
     refine JN [] [(0, .pure), (2, .pure), (3, .grow (Wb (slV 1) (.cells #[bV (UInt8.ofNat pick.toNat)] 5 (0, 0)))), (5, .pure), (7, .pure), (9, .pure), (11, .pure), (13, .pure), (16, .pure), (17, .pure)] 18 [0, 1, 2, 5, 6, 7, 8, 9, 10, 11, 12, 13, 14, 15, 3, 4, 16, 17] (by kernel_rfl) (by kernel_rfl) (by first | exact (fun _ h => absurd h List.not_mem_nil) | simp [SubS] | (intro p hp; simp [hp])) ?_
     refine Jm (k := 0) rfl rfl rfl rfl rfl (fun _ hS => (JE rfl rfl rfl)) ?_; refine KD (k := 1) rfl rfl rfl rfl rfl (Jd rfl (kn 1 rfl) rfl rfl) ?_; refine Jm (k := 2) rfl rfl rfl rfl rfl (fun _ hS => (Jv rfl rfl rfl)) ?_; refine Wa (show _ = bV (UInt8.ofNat pick.toNat) from Jj1 (m4 (by assumption)).2.1 (by have := m4 (by assumption); omega)) ?_
     refine Jm (k := 5) rfl rfl rfl rfl rfl (fun _ hS => (JE rfl rfl rfl)) ?_; refine KD (k := 6) rfl rfl rfl rfl rfl (Jd rfl (kn 2 rfl) rfl rfl) ?_
     refine Jm (k := 7) rfl rfl rfl rfl rfl (fun _ hS => (JE rfl rfl rfl)) ?_; refine KD (k := 8) rfl rfl rfl rfl rfl (Jd rfl (kn 1 rfl) rfl rfl) ?_; refine Jm (k := 9) rfl rfl rfl rfl rfl (fun _ hS => (Jr (j := pick.toNat) rfl hst rfl rfl rfl (by have := m4 (by assumption); omega) (by have := m4 (by assumption); omega))) ?_; refine KD (k := 10) rfl rfl rfl rfl rfl (Qd oR rfl hst hty8.1 rfl rfl) ?_
     refine Jm (k := 11) rfl rfl rfl rfl rfl (fun _ hS => (JE rfl rfl rfl)) ?_; refine KD (k := 12) rfl rfl rfl rfl rfl (Jd rfl (kn 1 rfl) rfl rfl) ?_
     refine Jm (k := 13) rfl rfl rfl rfl rfl (fun _ hS => (Jr (j := 0) rfl hs rfl rfl rfl (by first | rfl | omega) (by omega))) ?_; refine KD (k := 14) rfl rfl rfl rfl rfl (VZ oR rfl hs hx8.1 rfl rfl) ?_; refine KT (k := 15) rfl rfl rfl rfl rfl Jnf hrec oR ?_; refine VU (k := 3) (n := 1) (sz := 1) (vs := [_]) (zs := [_]) (r := [bV (UInt8.ofNat pick.toNat)]) rfl rfl rfl rfl rfl rfl rfl rfl rfl rfl rfl (by show (madeCells #[_] _).toList = _; rw [QR]; exact rfl) rfl fun rv => ?_; refine KD (k := 4) rfl rfl rfl rfl rfl (Qs (b := [UInt8.ofNat pick.toNat]) (row := some (rv, 1, [])) (e := 5) rfl ⟨rfl, rfl⟩ (fun p hp => .inl (by rw [List.mem_singleton.1 hp]; exact List.mem_cons_self)) rfl rfl rfl) ?_; refine Jm (k := 16) rfl rfl rfl rfl rfl (fun _ hS => (Q0 (a := [UInt8.ofNat pick.toNat]) (b := Vf (Xq items 0) (JO k pick ins 0)) rfl rfl (by simp only [List.length_cons, List.length_nil]; omega))) ?_; refine Jm (k := 17) rfl rfl rfl rfl rfl (fun _ hS => (JA rfl)) ?_; refine Kv ?_; refine Jy 5 rfl ?_; refine pT rfl rfl rfl fun w1 hs1 => ?_; refine ⟨?_, hs1.keep⟩; rw [VV, if_neg (by assumption), if_neg (by assumption), if_neg (by assumption), if_neg (by assumption), if_pos (by assumption), Jtc h81]; rfl
     ·refine Jq 5 rfl ?_; refine LR rfl (Jp (vs := [_, _, _]) rfl (kn 2 rfl) rfl rfl rfl rfl) ?_
      refine LS 2 [1] rfl rfl ?_; refine Je rfl rfl rfl (enters_of Tryz.func344 (by kernel_rfl) rfl) (hrow (by assumption) (by assumption) (by assumption) (by assumption) (by assumption)) oR ?_; refine Jy 4 rfl ?_; refine pT rfl rfl rfl fun w1 hs1 => ?_; refine ⟨?_, hs1.keep⟩
      rfl
theorem Yl {t : Ty} {v : Vl} (h : Vp t v = 0) : chk t 0 = 0 ∧ KE v t = 0 := by
 unfold Vp at h
 split at h
 ·rename_i h1; exact ⟨h1, h⟩
 ·rename_i h1; exact absurd h h1
theorem Jte {v : Vl} (t : Ty) (h : Yu v ≤ 20000) : (Vf v t).length ≤ 800000 := by have := vO v t; omega
theorem Jws {R : Ji} {t : Ty} {v : Vl} (ht : t.In R) (hv : v.In R) (hw : Yu v ≤ 20000) : PureR Tryz.prog 216 [t.val, v.val].toArray (Yt (Js1 t v)) R := by
 have h1 := Jnr ht hv
 have h2 := fun h => Jtd hv t 0 ht (Yl (t := t) (v := v) h).1 (Yl h).2 hw
 have hlb := Jte t hw
 unfold Js1
 generalize Vp t v = e at h1 h2 ⊢
 generalize Vf v t = s at h2 hlb ⊢
 obtain ⟨k, n, p, ins⟩ := t
 obtain ⟨a, b, c, d, bits, pb, items, pi, pick⟩ := v
 refine Ja Tryz.func216 rfl rfl fun w => ?_; refine JB ?_; refine Jq 2 rfl ?_; refine LN rfl fun r1 => ?_; refine LN rfl fun r2 => ?_; refine XB 9 [1, 0] rfl rfl ?_; refine Je rfl rfl rfl (enters_of Tryz.func99 (by kernel_rfl) rfl) h1 oR ?_; refine JM 9 rfl ?_; refine cD (fun g => ?_) fun g => ?_
 refine Km 9 rfl ?_; refine Jh rfl rfl (.cons (Jj rfl) (.cons (Jj rfl) .nil)) (fun w1 hs1 => ?_); refine ⟨?_, hs1.keep⟩; rw [if_pos (by omega)]; rfl
 ·refine XA 6 [1, 0] rfl rfl ?_; refine Je rfl rfl rfl Jnf (h2 (by omega)) oR ?_; refine JG 7 rfl ?_; refine LR rfl (Qg rfl rfl) ?_; refine JM 3 rfl ?_; refine cD (fun g => ?_) fun g => ?_
  refine Km 8 rfl ?_; refine Jh rfl rfl (.cons (Jj rfl) (.cons (Jj rfl) .nil)) (fun w1 hs1 => ?_); refine ⟨?_, hs1.keep⟩; rw [if_neg (by omega), if_pos (by omega)]; rfl
  ·refine Km 10 rfl ?_; refine Jh rfl rfl (.cons (Jj rfl) (.cons (Jj rfl) .nil)) (fun w1 hs1 => ?_); refine ⟨?_, hs1.keep⟩; rw [if_neg (by omega), if_neg (by omega)]; rfl
section
variable {c : Cx} {l : Kk} {L : Ji} {X : XP} {d : List Deferred} {i : Nat} {ps : String} {af : Array Edge} {gd : Option (Nat × Bool)} {ty : TypeId}
theorem Jcr {x : Operand} {b : List UInt8} {r off n cap : Nat} {cs : Array Value} {e src dst : TypeId} {fr : Nat × Nat} (hx : JT l x = some (.slice (some ⟨r, off, none⟩) n cap)) (hk : known c L r (.cells cs e fr)) (hn : n = b.length) (ht : (cs.toList.drop off).take b.length = b.map bV)
  (hs : Ka c.P src = some e) (he : c.P.underlying e = some (.int .u8)) (hd : vf c.P dst = true) :
  J4 c d l L X ⟨some i, .convert src dst x, ty, ps, af, gd⟩ (.string (bs b)) := fun a' w hf hst => by
 subst hn; simp only [execOp]; rw [hf.eval hx]
 have hget := hst.known hk
 have hl : (loadCells ⟨r, off, none⟩ (b.map bV).length).run c.P w = .ok (b.map bV).toArray w := run_loadCells_list w ⟨r, off, none⟩ (b.map bV) fun j v hj => by
  have hlt := (List.getElem?_eq_some_iff.1 hj).1
  rw [List.length_map] at hlt
  have hj2 : cs[off + j]? = some v := by
   rw [← ht, List.getElem?_take, if_pos hlt, List.getElem?_drop] at hj
   simpa using hj
  rw [ZK, Vb hget]; exact hj2
 rw [List.length_map] at hl; simp only [Sem.run_bind]; rw [run_convert_bytes_string w src dst e _ _ _ (JS hs) he (Q8 hd)]; rw [run_bytesToString w _ _ _ (b.map fun x => ((x.toNat : Nat) : Int)) (by rw [hl]; simp [bV, Function.comp_def])]
 have := YK b []
 rw [show (bs [] : ByteArray) = ByteArray.empty from rfl] at this; rw [this]
 rfl
end
def WV (s : BS) (i : Nat) : BS := (s.drop (32 * i)).take 32
def xt (s : BS) : Nat := (s.length + 31) / 32
def vU (s : BS) (m : Nat) : List BS := (List.range m).map fun i => wG (WV s i)
def Ym (s : BS) : List BS := vU s (xt s)
theorem Jn7 (s : BS) (m : Nat) : (vU s m).length = m := by unfold vU; rw [List.length_map, List.length_range]
theorem YF (s : BS) : (Ym s).length = xt s := Jn7 _ _
theorem Yn (s : BS) (i : Nat) : (WV s i).length = min 32 (s.length - 32 * i) := by unfold WV; rw [List.length_take, List.length_drop]
theorem Jj2 (s : BS) (i : Nat) : VT (vU s (i + 1)) = VT (vU s i) ++ [J6 (wG (WV s i))] := by
 unfold vU
 rw [List.range_succ, List.map_append, List.map_cons, List.map_nil, YE]
theorem Za (s : BS) : ∀ x ∈ Ym s, x.length = 32 := by
 intro x hx
 unfold Ym vU at hx
 obtain ⟨i, _, rfl⟩ := List.mem_map.1 hx
 exact vt (by rw [Yn]; omega)
theorem Jn8 (s : BS) (i : Nat) (sp : List Value) : ((s.map bV ++ sp).toArray.toList.drop (32 * i)).take (WV s i).length = (WV s i).map bV := by
 simp only [List.toList_toArray]; rw [Yn]
 by_cases h : 32 * i ≤ s.length
 ·rw [List.drop_append_of_le_length (by rw [List.length_map]; exact h), List.take_append_of_le_length (by rw [List.length_drop, List.length_map]; omega)]
  unfold WV
  rw [List.map_take, List.map_drop]
  rcases Nat.le_total 32 (s.length - 32 * i) with h2 | h2
  ·rw [Nat.min_eq_left h2]
  ·rw [Nat.min_eq_right h2, List.take_of_length_le (by rw [List.length_drop, List.length_map]; omega), List.take_of_length_le (by rw [List.length_drop, List.length_map]; omega)]
 ·unfold WV
  rw [show s.length - 32 * i = 0 by omega, Nat.min_zero, List.take_zero, List.drop_of_length_le (by omega)]; rfl
def chM (rb n cap : Nat) (p : Nat × Nat) : Ji := [(p.2, .cells #[.int .i64 32] 3 (0, 0)), (p.1, .cells #[.slice (some ⟨rb, 0, none⟩) n cap] 66 (0, 0))]
theorem Jn9 (rb n cap : Nat) : PureE (α := Nat × Nat) Tryz.prog 108 [.slice (some ⟨rb, 0, none⟩) n cap, .int .i64 32].toArray (fun p => .func (.func 175) #[] #[X8 p.1, X8 p.2]) (chM rb n cap) := by
 refine JX Tryz.func108 rfl rfl fun w => ?_; refine JB ?_; refine Jq 2 rfl ?_; refine LN rfl fun r1 => ?_; refine LN rfl fun r2 => ?_; refine Goc 10 [0] rfl rfl ?_; refine J1 rfl (fun h4 => ?_) (fun h4 => ?_)
 exact absurd h4 (by decide)
 ·try simp only [ZZ] at h4
  refine Jq 4 rfl ?_; refine LR rfl (JD rfl rfl) ?_; refine Jy 4 rfl ?_; refine pT rfl rfl rfl fun w1 hs1 => ?_; exact ⟨(r1, r2), rfl, hs1⟩
def Je5 (rb n j : Nat) : List Value := [.slice (some ⟨rb, 32 * j, none⟩) (min 32 (n - 32 * j)) (min 32 (n - 32 * j))]
theorem Joa {rb n cap N : Nat} (hn : N = (n + 31) / 32) (hcap : n ≤ cap) (hlim : n ≤ 1000000) (p1 p2 : Nat) : ZL Tryz.prog 175 [X8 p1, X8 p2] (chM rb n cap (p1, p2)) 0 (nxN (Je5 rb n) N) (wD N) := by
  refine QT Tryz.func175 rfl rfl fun q xids w2 XI XF hY => ?_; refine JB ?_; refine JP 6 rfl ?_; refine Jz (σ := Nat) (fun i => i ≤ N) (fun i => [(0, .func (.yield q) #[] #[]), (1, X8 p1), (2, X8 p2), (4, .int .i64 ((32 * i : Nat) : Int))]) (fun _ => []) (fun i => XI i) (fun i => N - i) 0 (Nat.zero_le _) (lK rfl) (List.nil_sublist _) (fun _ _ h => h) ?_; intro i hi; refine Jq 4 rfl ?_; refine LR rfl (Jd rfl (Jx (k := 1) rfl) rfl rfl) ?_; refine LR rfl (JQ rfl rfl) ?_; refine JM 3 rfl ?_; refine cD (fun g => ?_) fun g => ?_
  · refine JP 5 rfl ?_
    obtain ⟨M, hM⟩ : ∃ M, M = min 32 (n - 32 * i) := ⟨_, rfl⟩
    have hM1 : M ≤ 32 := by omega
    have hM2 : 0 < M := by omega
    refine JJ 7 (by kernel_rfl) (by kernel_rfl) ?_; refine Jb rfl rfl rfl (Jd rfl (Jx (k := 0) rfl) rfl rfl) ?_; refine Jb rfl rfl rfl (Jd rfl (Jx (k := 1) rfl) rfl rfl) ?_; refine Jb rfl rfl rfl (Jg rfl) ?_; refine Jb rfl rfl rfl (JL (kl := some (32 * i)) (kh := none) (km := none) (sz := 1) (m := 32 * i) (q := n) (z := cap) rfl rfl rfl ⟨_, rfl⟩ trivial trivial rfl rfl rfl (by omega) hcap (Nat.le_refl _) (fun _ => rfl) rfl) ?_; refine Jb rfl rfl rfl (JQ rfl rfl) ?_
    refine Jb rfl rfl rfl (Jl2 (r := ((M : Nat) : Int)) rfl rfl (by rw [hM]; split <;> omega)) ?_; refine Jb rfl rfl rfl (JA rfl) ?_; refine JW ?_; refine JG 5 rfl ?_; refine LR rfl (Jd rfl (Jx (k := 1) rfl) rfl rfl) ?_; refine JG 4 rfl ?_; refine J3 (show _ = Value.int .i64 ((32 * i + M : Nat) : Int) from by rw [wrap_i64 (by omega) (by omega)]; congr 1 <;> omega) ?_; refine JG 3 rfl ?_; refine J3 (show _ = Value.int .i64 ((32 * i + M : Nat) : Int) from by rw [wrap_i64 (by omega) (by omega)]; congr 1 <;> omega) ?_
    refine LR rfl (JL (kl := some (32 * i)) (kh := some (32 * i + M)) (km := some (32 * i + M)) (sz := 1) (m := 32 * i) (q := 32 * i + M) (z := 32 * i + M) (off' := 32 * i) rfl rfl rfl ⟨_, rfl⟩ ⟨_, rfl⟩ ⟨_, rfl⟩ rfl rfl rfl (by omega) (Nat.le_refl _) (by omega) (fun h => by cases h) (by rw [if_neg (by omega)]; omega)) ?_; refine J3 (show _ = Value.slice (some ⟨rb, 32 * i, none⟩) (min 32 (n - 32 * i)) (min 32 (n - 32 * i)) from by congr 1 <;> omega) ?_; refine Vk (XT := XI (i + 1)) (XF := XF) rfl rfl rfl rfl (hY i (Je5 rb n i) (i + 1) ⟨by omega, rfl, rfl⟩) ?_ ?_
    all_goals (
     refine Jy 2 rfl (Zr 1 rfl ?_); refine J1 rfl (fun g => ?_) (fun g => ?_)
     · try exact Bool.noConfusion g
       all_goals try simp only [ZZ] at g
       all_goals (
        refine Km 5 rfl ?_; refine Jh rfl rfl .nil (fun w1 hs1 => ?_)
        obtain ⟨xs1, hx1⟩ := hs1.now
        exact ⟨⟨_, rfl⟩, hs1.keep, .inr ⟨_, hx1⟩⟩
        skip)
     · try exact Bool.noConfusion g
       all_goals try simp only [ZZ] at g
       all_goals (
        refine Jq 5 rfl ?_; refine LR rfl (Jd rfl (Jx (k := 0) rfl) rfl rfl) ?_
        refine Wi rfl ?_; refine J3 (show _ = Value.int .i64 ((32 * (i + 1) : Nat) : Int) from by rw [wrap_i64 (by omega) (by omega)]; congr 1 <;> omega) ?_; refine Jy 2 rfl ?_; refine Jw ?_; exact Jt (i + 1) (by omega) (by omega) (lK rfl) (List.nil_sublist _) (fun _ _ h => h)
        skip)
     skip)
  · refine Km 4 rfl ?_; refine Kj rfl rfl .nil (fun w1 hs1 => ?_)
    obtain ⟨xs1, hx1⟩ := hs1.now
    exact ⟨⟨_, rfl⟩, hs1.keep, .inl ⟨i, _, (by show i = N; omega), hx1⟩⟩
theorem Jy2 {s : BS} (hl : s.length ≤ 1000000) : PureT (α := { row : QK // rowOk 1 (xt s) (VT (Ym s)) row }) Tryz.prog 218 [J6 s].toArray (fun x => J9 (xt s) x.1) [] (fun x => JH 9 (VT (Ym s)) x.1) [] := by
 obtain ⟨N, hN⟩ : ∃ N, N = xt s := ⟨_, rfl⟩
 have hN2 : N = (s.length + 31) / 32 := hN
 have hC : Ym s = vU s N := by rw [hN]; rfl
 rw [hC, ← hN]; refine Ju Tryz.func218 rfl rfl fun w => ?_; refine JB ?_; refine Jq 7 rfl ?_; refine LN rfl fun r1 => ?_; refine JG 6 rfl ?_; refine Xj rfl rfl rfl rfl rfl rfl fun rb kb => ?_; refine JR rfl rfl rfl (enters_of Tryz.func108 (by kernel_rfl) rfl) (Jn9 rb s.length (s.length + kb)) fun pp => ?_
 obtain ⟨p1, p2⟩ := pp
 change HL _ _ _ [(p2, _), (p1, _), (rb, _), (r1, _)] _ _ _ _; refine JM 3 rfl ?_; refine Wl [3, 0, 1, 2] (L' := [_, _, _, _]) (by decide) rfl ?_
 refine VH (τ := Unit) (fun i (q : Nat × QK) => i ≤ N ∧ i = q.1 ∧ rowOk 1 q.1 (VT (vU s q.1)) q.2) (fun q => (r1, .cells #[J9 q.1 q.2] 184 (0, 0)) :: JH 9 (VT (vU s q.1)) q.2) (fun _ _ => False) (fun _ => []) [(p2, _), (p1, _), (rb, _)] (0, none) rfl rfl (enters_of Tryz.func175 (by kernel_rfl) rfl) (Joa (rb := rb) (cap := s.length + kb) hN2 (by omega) hl p1 p2) (by rintro _ _ _ ⟨_, rfl, _⟩; rfl) rfl (fun q hq => .inl (by rcases List.mem_cons.1 hq with rfl | hq; exact List.mem_cons_self; rw [List.mem_singleton.1 hq]; exact List.mem_cons_of_mem _ List.mem_cons_self)) rfl ⟨Nat.zero_le _, rfl, rfl, rfl⟩ ?_ ?_ ?_
 rintro q Xr Xb w3 i _ _ ⟨i2, row⟩ ⟨hii, rfl, rfl⟩ ⟨him, he, hrow⟩ Kr hKr; refine inR ?_
 simp only at he
 obtain rfl := he
 simp only at hrow
 unfold Je5
 refine Km 3 rfl ?_; refine hKr _ _ ?_; refine JB ?_; clear hKr; refine JP 1 rfl ?_
 have hfull := Je2 (s := WV s i) (by rw [Yn]; omega)
 have hsn := Jj2 s i
 obtain ⟨sv, hsv⟩ : ∃ x, x = wG (WV s i) := ⟨_, rfl⟩
 rw [← hsv] at hfull hsn
 refine JN [] [(1, .pure), (3, .pure), (4, .grow (Wb (slV 1) (.cells #[J6 sv] 9 (0, 0))))] 5 [0, 1, 2, 3, 4] (by kernel_rfl) (by kernel_rfl) (by first | exact (fun _ h => absurd h List.not_mem_nil) | simp [SubS] | (intro p hp; simp [hp])) ?_; refine KD (k := 0) rfl rfl rfl rfl rfl (Jd (v := J9 i row) rfl (kn 0 rfl) rfl rfl) ?_; refine Jm (k := 1) rfl rfl rfl rfl rfl (fun _ hS => (Jg rfl)) ?_; refine KD (k := 2) rfl rfl rfl rfl rfl (Jcr (b := WV s i) rfl (Jx (k := 2) rfl) (Yn s i).symm (Jn8 s i _) rfl rfl rfl) ?_; refine Vn (k := 3) rfl rfl rfl rfl rfl Jna hfull ?_; refine VU (k := 4) (n := 1) (sz := 1) (vs := [_]) (zs := [_]) (r := [J6 sv]) rfl rfl rfl rfl rfl rfl rfl rfl rfl rfl rfl (by show (madeCells #[_] _).toList = _; rw [QR]; exact rfl) rfl fun rv => ?_; refine Kv ?_; refine Kq (L0 := [_, _]) (xs := VT (vU s i)) (row := row) (n := i) (sz := 1) (b := 16) (news := [J6 sv]) (List.perm_append_comm (l₁ := [_, _])) rfl rfl rfl rfl (kn 0 rfl) rfl rfl rfl rfl rfl (by decide) rfl rfl rfl (by decide) hrow (by omega) (by omega) fun ra cap sp hra => ?_; refine Kx (k := 2) (cs' := #[J9 (i + 1) (some (ra, cap, sp))]) rfl rfl rfl rfl rfl rfl rfl rfl rfl rfl ?_; refine Jy 2 rfl ?_; refine Qm [2, 0] (L' := [_, _]) (by decide) rfl ?_; exact Kt (i + 1, some (ra, cap, sp)) ⟨by omega, rfl, by simp only; rw [hsn]; exact hra⟩ (by simp only; rw [hsn]; rfl)
 rintro D i ⟨i2, row⟩ hfi ⟨him, he, hrow⟩
 simp only at he hrow
 obtain rfl : N = i := Eq.symm hfi
 obtain rfl := he
 refine gqo 4 rfl ?_; refine LR rfl (Jd (v := J9 N row) rfl (kn 1 rfl) rfl rfl) ?_; refine Jy 4 rfl ?_; refine KM (k := 0) rfl rfl ?_; refine pT rfl rfl rfl fun w1 hs1 => ?_; exact ⟨⟨row, hrow⟩, rfl, hs1.weakL (.cons _ (.cons _ (List.sublist_append_left _ _)))⟩
 ·exact fun _ _ _ h => h.elim
theorem Job {n : Nat} (hn : n ≤ 4611686018427387904) : Pure Tryz.prog 220 [.int .i64 (n : Int)].toArray (.int .i64 (((n + 31) / 32 : Nat) : Int)) := by
 refine Jl Tryz.func220 rfl rfl fun w => ?_; refine JB ?_; refine Jq 9 rfl ?_; refine J3 (show _ = Value.int .i64 ((n + 32 : Nat) : Int) from by rw [wrap_i64 (by omega) (by omega)]; congr 1 <;> omega) ?_
 refine Wi rfl ?_; refine J3 (show _ = Value.int .i64 ((n + 31 : Nat) : Int) from by rw [wrap_i64 (by omega) (by omega)]; congr 1 <;> omega) ?_; refine Wi rfl (J3 (show _ = Value.int .i64 (((n + 31) / 32 : Nat) : Int) from congrArg (Value.int .i64) (QJ (by omega) (by decide) (by omega))) (Jy 4 rfl ?_)); refine pT rfl rfl rfl fun w1 hs1 => ?_; exact ⟨rfl, hs1.keep⟩
def WW (x : Ty) : Bool := decide (x.k = 1) || decide (x.k = 2)
def W5 (items : List Vl) (x : Ty) : BS := (items.map fun v => Vf v x).flatten
def W6 (k n : Int) (ins : List Ty) (items : List Vl) (rs : List BS) : BS :=
 if k = 7 then QX rs ins.length else if WW (ins.getD 0 default) = true then QX (Ym (W5 items (ins.getD 0 default))) ((n.toNat * (KL (ins.getD 0 default)).toNat + 31) / 32) else QX rs n.toNat
mutual
def KI : Vl → Ty → BS
 | .mk a b c d bits _ items _ pick, t =>
  if t.k = 1 ∨ t.k = 2 then leW [a, b, c, d] 32 else if t.k = 4 then Yj (W6 t.k t.n t.ins items (JU items t.k pick t.ins 0)) items.length
  else if t.k = 5 then QX (Ym (Wt bits)) ((t.n.toNat + 255) / 256) else if t.k = 6 then Yj (QX (Ym (Wt bits)) ((t.n.toNat + 255) / 256)) bits.length
  else if t.k = 8 then Yj ((JU items t.k pick t.ins 0).headD []) pick.toNat else W6 t.k t.n t.ins items (JU items t.k pick t.ins 0)
def JU : List Vl → Int → Int → List Ty → Nat → List BS
 | [], _, _, _, _ => []
 | x :: xs, k, pick, ins, i => KI x (JO k pick ins i) :: JU xs k pick ins (i + 1)
end
section
variable {a b c d : Nat} {bits : List Bool} {pb : Pl} {items : List Vl} {pi : Pl} {pick k n : Int} {p : Pl} {ins : List Ty}
theorem WX : KI (.mk a b c d bits pb items pi pick) (.mk k n p ins) = if k = 1 ∨ k = 2 then leW [a, b, c, d] 32 else if k = 4 then Yj (W6 k n ins items (JU items k pick ins 0)) items.length
  else if k = 5 then QX (Ym (Wt bits)) ((n.toNat + 255) / 256) else if k = 6 then Yj (QX (Ym (Wt bits)) ((n.toNat + 255) / 256)) bits.length
  else if k = 8 then Yj ((JU items k pick ins 0).headD []) pick.toNat else W6 k n ins items (JU items k pick ins 0) := by rw [KI]; rfl
end
theorem VN : ∀ (l : List Vl) (k pick : Int) (ins : List Ty) (i : Nat), (JU l k pick ins i).length = l.length
 | [], _, _, _, _ => by rw [JU]; rfl
 | x :: xs, k, pick, ins, i => by rw [JU, List.length_cons, VN xs, List.length_cons]
theorem vV {k : Int} (h8 : k ≠ 8) (pick : Int) (ins : List Ty) : ∀ (l : List Vl) (i : Nat), JU l k pick ins i = JU l k 0 ins i
 | [], i => by rw [JU, JU]
 | x :: xs, i => by rw [JU, JU, vV h8 pick ins xs (i + 1), qT h8]
theorem XS : ∀ {l : List Vl} {k pick : Int} {ins : List Ty} {i : Nat} {s : BS}, s ∈ JU l k pick ins i → ∃ j x, l[j]? = some x ∧ s = KI x (JO k pick ins (i + j))
 | [], _, _, _, _, _, h => by rw [JU] at h; cases h
 | y :: ys, k, pick, ins, i, s, h => by
  rw [JU] at h
  rcases List.mem_cons.1 h with rfl | h
  ·exact ⟨0, y, rfl, rfl⟩
  ·obtain ⟨j, x, h1, h2⟩ := XS h
   exact ⟨j + 1, x, h1, by rw [h2, show i + 1 + j = i + (j + 1) by omega]⟩
theorem vW (k : Int) (ins : List Ty) : ∀ {l : List Vl} {i j : Nat} {x : Vl}, l[j]? = some x → (JU l k 0 ins i).take (j + 1) = (JU l k 0 ins i).take j ++ [KI x (JO k 0 ins (i + j))]
 | [], _, _, _, h => by simp at h
 | y :: ys, i, 0, x, h => by
  simp at h; subst h; rw [JU]; rfl
 | y :: ys, i, j + 1, x, h => by
  rw [List.getElem?_cons_succ] at h; rw [JU, List.take_succ_cons, List.take_succ_cons, vW k ins h, show i + 1 + j = i + (j + 1) by omega]; rfl
theorem Jtf {k n : Int} {p : Pl} {ins : List Ty} {d : Int} (hk : 1 ≤ k ∧ k ≤ 8) (ho : KQ k n ins.length = true) : chk (.mk k n p ins) d = if 6 ≤ d then 7 else Xy ins (d + 1) := by
 rw [chk, if_neg (by omega), if_neg (by rw [ho]; simp)]
theorem yI : ∀ {ins : List Ty} {d : Int}, (∀ x ∈ ins, chk x d = 0) → Xy ins d = 0
 | [], _, _ => by rw [Xy]
 | x :: xs, d, h => by
  rw [Xy, if_pos (h x List.mem_cons_self)]; exact yI fun y hy => h y (List.mem_cons_of_mem _ hy)
theorem Jj3 (t : Ty) : ∀ d : Int, chk t (d + 1) = 0 → chk t d = 0 := by
 induction t using Ty.ind with
 | h k n p ins ih =>
  intro d h
  obtain ⟨hk, ho, h6, hi⟩ := QU h
  rw [Jtf hk ho, if_neg (by omega)]; exact yI fun x hx => ih x hx (d + 1) (hi x hx)
theorem xu {t : Ty} : ∀ {d : Nat}, chk t (d : Int) = 0 → chk t 0 = 0
 | 0, h => h
 | d + 1, h => xu (d := d) (Jj3 t d (by rw [Int.natCast_add] at h; exact h))
theorem Zb {k n : Int} {p : Pl} {ins : List Ty} (h : chk (.mk k n p ins) 0 = 0) : ∀ x ∈ ins, chk x 0 = 0 := fun x hx => xu (d := 1) ((QU h).2.2.2 x hx)
theorem Zc {x : Ty} (hc : chk x 0 = 0) (hp : WW x = true) : Vm x = true ∧ 1 ≤ KL x ∧ KL x ≤ 32 ∧ ∀ v : Vl, KE v x = 0 → ((Vf v x).length : Int) = KL x := by
 obtain ⟨k, n, p, ins⟩ := x
 obtain ⟨hk, hf, _, _⟩ := QU hc
 have hk2 : k = 1 ∨ k = 2 := by
  unfold WW at hp
  rw [Bool.or_eq_true] at hp; exact hp.imp of_decide_eq_true of_decide_eq_true
 unfold KQ at hf
 have hins : ins.length = 0 := by
  rcases hk2 with rfl | rfl
  all_goals generalize ins.length = m at hf ⊢
  all_goals simp at hf
  all_goals omega
 have hi : ins = [] := List.length_eq_zero_iff.1 hins
 subst hi
 rcases hk2 with rfl | rfl
 ·have hn : 1 ≤ n ∧ n ≤ 32 := by simp at hf; omega
  refine ⟨XN.2 ⟨hc, by rw [WM, jA]; rfl⟩, by rw [KL, if_pos rfl]; exact hn.1, by rw [KL, if_pos rfl]; exact hn.2, fun v _ => ?_⟩
  obtain ⟨a, b, c, d, bits, pb, items, pi, pick⟩ := v
  rw [VV, if_pos rfl, KL, if_pos rfl, zF _ (by omega)]; omega
 ·refine ⟨XN.2 ⟨hc, by rw [WM, jA]; rfl⟩, by rw [KL, if_neg (by decide), if_pos rfl]; decide, by rw [KL, if_neg (by decide), if_pos rfl]; decide, fun v _ => ?_⟩
  obtain ⟨a, b, c, d, bits, pb, items, pi, pick⟩ := v
  rw [VV, if_neg (by decide), if_pos rfl, KL, if_neg (by decide), if_pos rfl, zF _ (by decide)]
  rfl
theorem jp {x : Ty} {z : Nat} : ∀ {items : List Vl}, (∀ v ∈ items, (Vf v x).length = z) → (W5 items x).length = items.length * z
 | [], _ => by unfold W5; simp
 | v :: l, h => by
  have ih := jp (items := l) fun y hy => h y (List.mem_cons_of_mem _ hy)
  unfold W5 at ih ⊢
  rw [List.map_cons, List.flatten_cons, List.length_append, ih, h v List.mem_cons_self, List.length_cons, Nat.succ_mul, Nat.add_comm]
theorem vX {a b c d : Nat} {bits : List Bool} {pb : Pl} {items : List Vl} {pi : Pl} {pick k n dp : Int} {p : Pl} {ins : List Ty} (hc : chk (.mk k n p ins) dp = 0) (h : KE (.mk a b c d bits pb items pi pick) (.mk k n p ins) = 0) :
  (k = 3 ∨ k = 4 → 1 ≤ n ∧ n ≤ 512 ∧ (items.length : Int) ≤ n ∧ ins.length = 1) ∧ (k = 5 ∨ k = 6 → 1 ≤ n ∧ n ≤ 512 ∧ (bits.length : Int) ≤ n) ∧ (k = 7 → items.length = ins.length ∧ 1 ≤ ins.length ∧ ins.length ≤ 16) := by
 obtain ⟨h1, h2, _⟩ := WB h
 obtain ⟨hk, hf, _, _⟩ := QU hc
 rw [Vi k n ins.length a b c d bits pb items pi pick _ rfl] at h2; simp only [QY] at h2
 unfold KQ at hf
 have h9 : k = 1 ∨ k = 2 ∨ k = 3 ∨ k = 4 ∨ k = 5 ∨ k = 6 ∨ k = 7 ∨ k = 8 := by omega
 rcases h9 with rfl | rfl | rfl | rfl | rfl | rfl | rfl | rfl
 all_goals generalize items.length = I at *
 all_goals generalize bits.length = J at *
 all_goals generalize ins.length = K at *
 all_goals simp at h1 h2 hf ⊢
 all_goals omega
theorem jM {bits : List Bool} {n : Int} (h : (bits.length : Int) ≤ n) : (Ym (Wt bits)).length ≤ (n.toNat + 255) / 256 := by
 rw [YF]
 unfold xt
 rw [YN]; omega
theorem WC (v : Vl) : ∀ (t : Ty) (dp : Nat), chk t (dp : Int) = 0 → KE v t = 0 → (KI v t).length = 32 := by
 induction v using Vl.ind with
 | h a b c d bits pb items pi pick ih =>
 intro t dp hck hfit
 obtain ⟨k, n, p, ins⟩ := t
 obtain ⟨hk8, ho, h6, hci⟩ := QU hck
 obtain ⟨hf1, hf2, hf3⟩ := WB hfit
 obtain ⟨q1, q2, q3⟩ := vX hck hfit
 have hxl : ∀ i, i < items.length → Xn k pick i < ins.length := fun i hi => jK (v := .mk a b c d bits pb items pi pick) hck hf2 hi
 have hrs : ∀ s ∈ JU items k pick ins 0, s.length = 32 := fun s hs => by
  obtain ⟨j, x, h1, rfl⟩ := XS hs
  have hlt := (List.getElem?_eq_some_iff.1 h1).1
  rw [Nat.zero_add]
  have hty := QD (hxl j hlt)
  exact ih x (List.mem_of_getElem? h1) _ (dp + 1) (hci _ hty.2) (by have := WU hf3 h1; rwa [Nat.zero_add] at this)
 have hrl := VN items k pick ins 0
 have hrow : k = 3 ∨ k = 4 ∨ k = 7 → (W6 k n ins items (JU items k pick ins 0)).length = 32 := fun hk => by
  unfold W6
  split
  ·rename_i h7
   exact V2 (by have := q3 h7; omega) hrs
  ·rename_i h7
   have := q1 (by omega)
   split
   ·rename_i hp
    have hin0 : ins.getD 0 default ∈ ins := by
     match ins, this.2.2.2 with
     | [x], _ => exact List.mem_cons_self
    have hc0 : chk (ins.getD 0 default) 0 = 0 := Zb (xu hck) _ hin0
    obtain ⟨f1, f2, f3, f4⟩ := Zc hc0 hp
    refine V2 ?_ (Za _); rw [YF]
    unfold xt
    have hz : ∀ v ∈ items, (Vf v (ins.getD 0 default)).length = (KL (ins.getD 0 default)).toNat := fun v hv => by
     obtain ⟨j, hj⟩ := List.getElem?_of_mem hv
     have hg := WU hf3 hj
     rw [Nat.zero_add] at hg
     have he : JO k pick ins j = ins.getD 0 default := by unfold JO Xn; rw [if_neg h7, if_neg (by omega)]
     rw [he] at hg
     have := f4 v hg
     omega
    rw [jp hz]
    have hm : items.length * (KL (ins.getD 0 default)).toNat ≤ n.toNat * (KL (ins.getD 0 default)).toNat := Nat.mul_le_mul_right _ (by omega)
    omega
   ·exact V2 (by omega) hrs
 rw [WX]
 split
 ·exact zF _ (Nat.le_refl _)
 ·split
  ·exact YO _
  ·split
   ·rename_i h5
    exact V2 (jM (q2 (by omega)).2.2) (Za _)
   ·split
    ·exact YO _
    ·split
     ·exact YO _
     ·exact hrow (by omega)
def wK (s : List UInt8) (head : Nat) : List Ty → Nat → Nat → Bool → Option (List Nat)
  | [], _, _, op => if op = false ∧ head ≠ s.length then none else some [s.length]
  | x :: xs, at_, last, op => if Vm x then wK s head xs (at_ + (KL x).toNat) last op else
      if (op = false ∧ leV ((s.drop at_).take 4) ≠ head) ∨ leV ((s.drop at_).take 4) < last ∨ s.length < leV ((s.drop at_).take 4) then none
      else (wK s head xs (at_ + 4) (leV ((s.drop at_).take 4)) true).map fun r => leV ((s.drop at_).take 4) :: r
mutual
def Zl : Vl → Vl
 | .mk a b c d bits _ items _ pick => .mk a b c d bits none (qU items) none pick
def qU : List Vl → List Vl
 | [] => []
 | x :: xs => Zl x :: qU xs
end
theorem W7 : ∀ l : List Vl, qU l = l.map Zl
 | [] => by rw [qU]; rfl
 | x :: xs => by rw [qU, W7 xs]; rfl
def v0L : Vl := .mk 0 0 0 0 [] none [] none 0
def KN (l : List Vl) (pick : Int) : Vl := .mk 0 0 0 0 [] none l none pick
def vY (k n : Int) (ins : List Ty) (s : List UInt8) : Nat × Int :=
 if k = 7 then (ins.length, 0) else if k = 3 then (n.toNat, 0) else if s = [] then (0, 0)
 else if Vm (JO k 0 ins 0) then (if s.length % (KL (JO k 0 ins 0)).toNat ≠ 0 then (0, 2) else if n < ((s.length / (KL (JO k 0 ins 0)).toNat : Nat) : Int) then (0, 5) else (s.length / (KL (JO k 0 ins 0)).toNat, 0))
 else if s.length < 4 ∨ leV (s.take 4) % 4 ≠ 0 ∨ leV (s.take 4) = 0 then (0, 2) else if n < ((leV (s.take 4) / 4 : Nat) : Int) then (0, 5) else (leV (s.take 4) / 4, 0)
abbrev Gf : Type := List UInt8 → Vl × Int
def g0 : Gf := fun _ => (v0L, 0)
section
variable {a b c d : Nat} {bits : List Bool} {pb : Pl} {items : List Vl} {pi : Pl} {pick k n : Int} {p : Pl} {ins : List Ty}
theorem Jhp (hc : chk (.mk k n p ins) 0 = 0) (h : KE (.mk a b c d bits pb items pi pick) (.mk k n p ins) = 0) (h8 : k ≠ 8) {j : Nat} {x : Vl} (hx : items[j]? = some x) : ins[Xn k 0 j]? = some (JO k 0 ins j) ∧ JO k 0 ins j ∈ ins ∧ chk (JO k 0 ins j) 0 = 0 ∧ KE x (JO k 0 ins j) = 0 := by
 obtain ⟨_, h2, h3⟩ := WB h
 have hlt := (List.getElem?_eq_some_iff.1 hx).1
 have hin := jK (v := .mk a b c d bits pb items pi pick) hc h2 hlt
 have hg := WU h3 hx
 rw [Nat.zero_add, qT h8] at hg
 have e : Xn k (Vl.pick (.mk a b c d bits pb items pi pick)) j = Xn k 0 j := by unfold Xn; rw [if_neg h8, if_neg h8]
 rw [e] at hin
 have hty := QD hin
 exact ⟨hty.1, hty.2, Zb hc _ hty.2, hg⟩
end
theorem Wr (a b c d : Nat) (bits : List Bool) (pb : Pl) (items : List Vl) (pi : Pl) (pick : Int) : Zl (.mk a b c d bits pb items pi pick) = .mk a b c d bits none (qU items) none pick := by rw [Zl]
theorem Jhq (k pick : Int) (ins : List Ty) : ∀ (l : List Vl), (∀ x ∈ l, ∀ t, Vf (Zl x) t = Vf x t) → ∀ i : Nat, KW (qU l) k pick ins i = KW l k pick ins i
 | [], _, i => by rw [qU]
 | x :: xs, h, i => by rw [qU, KW, KW, h x List.mem_cons_self, Jhq k pick ins xs (fun y hy => h y (List.mem_cons_of_mem _ hy))]
theorem Jwt (v : Vl) : ∀ t, Vf (Zl v) t = Vf v t := by
 induction v using Vl.ind with
 | h a b c d bits pb items pi pick ih =>
 intro t
 obtain ⟨k, n, p, ins⟩ := t
 rw [Wr, VV, VV, Jhq k pick ins items ih]
theorem Jcs (k pick : Int) (ins : List Ty) : ∀ (l : List Vl), (∀ x ∈ l, ∀ t, KI (Zl x) t = KI x t) → ∀ i : Nat, JU (qU l) k pick ins i = JU l k pick ins i
 | [], _, i => by rw [qU]
 | x :: xs, h, i => by rw [qU, JU, JU, h x List.mem_cons_self, Jcs k pick ins xs (fun y hy => h y (List.mem_cons_of_mem _ hy))]
theorem Jtg (x : Ty) (l : List Vl) : W5 (qU l) x = W5 l x := by
 unfold W5
 rw [W7, List.map_map]
 congr 1
 exact List.map_congr_left fun v _ => Jwt v x
theorem Jth (v : Vl) : ∀ t, KI (Zl v) t = KI v t := by
 induction v using Vl.ind with
 | h a b c d bits pb items pi pick ih =>
 intro t
 obtain ⟨k, n, p, ins⟩ := t
 have hl : (qU items).length = items.length := by rw [W7, List.length_map]
 rw [Wr, WX, WX, Jcs k pick ins items ih, hl]
 unfold W6
 rw [Jtg]
theorem chkL_mem : ∀ {ins : List Ty} {d : Int}, Xy ins d = 0 → ∀ x ∈ ins, chk x d = 0
 | [], _, _, x, hx => by cases hx
 | y :: ys, d, h, x, hx => by
  rw [Xy] at h
  by_cases h1 : chk y d = 0
  ·rw [if_pos h1] at h
   rcases List.mem_cons.1 hx with rfl | hx
   ·exact h1
   ·exact chkL_mem h x hx
  ·rw [if_neg h1] at h; exact absurd h h1
structure VR (v : Vl) : Type where
  x : Vl
  L : Ji
  ok : x.In L
  er : Zl x = v
theorem u0 : VD 0 := by unfold VD; omega
theorem i0 : qa 0 := by unfold qa; omega
def vZ : List Ty → Nat → List Nat → List (Ty × Nat × Nat)
 | [], _, _ => []
 | x :: xs, a, os => if Vm x then (x, a, a + (KL x).toNat) :: vZ xs (a + (KL x).toNat) os else (x, os.getD 0 0, os.getD 1 0) :: vZ xs (a + 4) os.tail
theorem yJ : ∀ (ts : List Ty) (a : Nat) (os : List Nat), (vZ ts a os).length = ts.length
 | [], _, _ => rfl
 | x :: xs, a, os => by rw [vZ]; split <;> rw [List.length_cons, yJ xs, List.length_cons]
def cV : List Ty → Nat
 | [] => 0
 | x :: xs => if Vm x then cV xs else cV xs + 1
def Joc : List Ty → Int
 | [] => -1
 | x :: xs => if 0 ≤ Joc xs then Joc xs + 1 else if Vm x then -1 else 0
def Jwu (k n : Int) (ins : List Ty) (s : BS) : List Nat × Int :=
 if (vY k n ins s).2 ≠ 0 then ([], (vY k n ins s).2)
 else if (s.length : Int) < QZ (WT k ins (vY k n ins s).1) then ([], 2)
 else match wK s (QZ (WT k ins (vY k n ins s).1)).toNat (WT k ins (vY k n ins s).1) 0 (QZ (WT k ins (vY k n ins s).1)).toNat false with
  | none => ([], 2)
  | some os => (os, 0)
theorem row_some {sz n : Nat} {xs : List Value} {row : QK} (h : rowOk sz n xs row) (h0 : 0 < n) : ∃ r cap sp, row = some (r, cap, sp) := by
 cases row with
 | none => have := h.1; omega
 | some q => obtain ⟨r, cap, sp⟩ := q; exact ⟨r, cap, sp, rfl⟩
def psI (s : BS) (TY : List Ty) (i : Nat) (pre : List Nat) : List (Ty × Nat × Nat) := vZ (TY.take i) 0 (pre ++ [s.length])
structure PInv (s : BS) (H : Nat) (TY : List Ty) (i A la : Nat) (op : Int) (pre : List Nat) : Prop where
  le : i ≤ TY.length
  cv : pre.length = cV (TY.take i)
  opv : op = Joc (TY.take i)
  at_ : (A : Int) = QZ (TY.take i)
  off : wK s H TY 0 H false = (wK s H (TY.drop i) A la (decide (0 ≤ op))).map (pre ++ ·)
section
variable {s : BS} {H : Nat} {TY : List Ty} {i A la : Nat} {op : Int} {pre : List Nat} {x : Ty}
theorem PInv.start : PInv s H TY 0 0 H (-1) [] := ⟨Nat.zero_le _, rfl, rfl, rfl, by rw [List.drop_zero, show decide ((0 : Int) ≤ -1) = false from rfl]; cases wK s H TY 0 H false <;> rfl⟩
theorem Zv {α : Type} {l : List α} {i : Nat} {x : α} (h : l[i]? = some x) : l.take (i + 1) = l.take i ++ [x] := by rw [List.take_add_one, h]; rfl
theorem Je6 {α : Type} {l : List α} {i : Nat} {x : α} (h : l[i]? = some x) : l.drop i = x :: l.drop (i + 1) := by
 obtain ⟨h1, rfl⟩ := List.getElem?_eq_some_iff.1 h
 exact List.drop_eq_getElem_cons h1
theorem PInv.len (h : PInv s H TY i A la op pre) : (psI s TY i pre).length = i := by unfold psI; rw [yJ, List.length_take, Nat.min_eq_left h.le]
theorem PInv.bad (h : PInv s H TY i A la op pre) (hx : TY[i]? = some x) (hf : Vm x = false) {v : Nat} (hv : v = leV ((s.drop A).take 4)) (hb : (¬ 0 ≤ op ∧ v ≠ H) ∨ v < la ∨ s.length < v) : wK s H TY 0 H false = none := by
 subst hv
 rw [h.off, Je6 hx, wK, if_neg (by rw [hf]; decide), if_pos (by
  rcases hb with ⟨h1, h2⟩ | h1
  ·exact .inl ⟨by simp [h1], h2⟩
  ·exact .inr h1)]
 rfl
theorem PInv.done (h : PInv s H TY TY.length A la op pre) : psI s TY TY.length pre = vZ TY 0 (pre ++ [s.length]) ∧ wK s H TY 0 H false = if ¬ 0 ≤ op ∧ H ≠ s.length then none else some (pre ++ [s.length]) := by
 refine ⟨by unfold psI; rw [List.take_length], ?_⟩; rw [h.off, List.drop_length, wK]
 by_cases hc : ¬ 0 ≤ op ∧ H ≠ s.length
 ·rw [if_pos hc, if_pos ⟨by simp [hc.1], hc.2⟩]; rfl
 ·rw [if_neg hc, if_neg (by rintro ⟨g1, g2⟩; exact hc ⟨by simpa using g1, g2⟩)]; rfl
end
abbrev psT (k n : Int) (ins : List Ty) (s : BS) : List (Ty × Nat × Nat) := vZ (WT k ins (vY k n ins s).1) 0 (Jwu k n ins s).1
open Go.Proofs (Enters enters_of)
section
variable {k n : Int} {p : Pl} {ins : List Ty} {s : BS}
variable (hnf : ¬ (Vm (.mk k n p ins) = true ∧ (s.length : Int) ≠ KL (.mk k n p ins)))
include hnf
end
theorem Jct {vs : List Vl} {E Lr : Ji} {p : Pl} {pick : Int} (hl : vs.length ≤ 9223372036854775807) (hs : Seg Lr vs.length (Qu vs) p) (hE : ∀ x ∈ vs, x.In E) (hp : qa pick) : Vl.In (Lr ++ E) (.mk 0 0 0 0 [] none vs p pick) :=
 .mk u0 u0 u0 u0 (by decide) rfl hl (hs.mono fun q hq => List.mem_append_left _ hq) hp fun x hx => (hE x hx).mono fun q hq => List.mem_append_right _ hq
theorem Jcu {c : Cx} {d : List Deferred} {l : Kk} {L L' : Ji} {X : XP} {K : Act → World → Prop} (hp : L.Perm L') (h : HQ c d l L' X K) : HQ c d l L X K := fun a w hf hs => h a w hf (hs.perm hp)
mutual
def Yo : Ty → Ty
 | .mk k n _ ins => .mk k n none (W8 ins)
def W8 : List Ty → List Ty
 | [] => []
 | x :: xs => Yo x :: W8 xs
end
theorem wa : ∀ l : List Ty, W8 l = l.map Yo
 | [] => by rw [W8]; rfl
 | x :: xs => by rw [W8, wa xs]; rfl
theorem wb (l : List Ty) : (W8 l).length = l.length := by rw [wa, List.length_map]
structure TR (t : Ty) : Type where
  x : Ty
  L : Ji
  ok : x.In L
  er : Yo x = t
def byT : Ty := .mk 1 1 none []
def Xe (k n : Int) : Ty := .mk k n none [byT]
def xv : Ty := .mk 7 0 none [Xe 3 32, Xe 3 32]
def acT : Ty := .mk 7 0 none [Xe 3 20, .mk 1 8 none [], .mk 1 32 none [], Xe 4 512, .mk 4 16 none [xv]]
def jN : Ty := .mk 4 32 none [acT]
theorem Jod {k n : Int} (hk : qa k) (hn : qa n) : PureT (α := Nat) Tryz.prog 101 [.int .i64 k, .int .i64 n].toArray (fun r => .agg #[.int .i64 k, .int .i64 n, .slice (some ⟨r, 0, none⟩) 1 1]) [] (fun r => [(r, .cells #[.int .i64 1, .int .i64 1, .slice none 0 0] 84 (0, 0))]) [] := by
 refine Ju Tryz.func101 rfl rfl fun w => ?_; refine JB ?_; refine Jq 2 rfl ?_; refine LN rfl fun r1 => ?_; refine JG 6 rfl ?_; refine LR rfl (Js (r := [_, _, _]) rfl rfl) ?_; refine JK (vs := [_]) (zs := [_, _, _]) (r := [_, _, _]) rfl rfl rfl rfl rfl rfl rfl rfl rfl (by rw [Kh]; exact rfl) rfl fun r2 => ?_; refine LR rfl (Js (r := [_, _, _]) rfl rfl) ?_
 refine LT 1 rfl rfl ?_; refine Jy 3 rfl ?_; refine Jh rfl rfl (.cons (J2 (vs := [_, _, _]) rfl (kn 1 rfl) rfl rfl) .nil) (fun w1 hs1 => ?_); exact ⟨r2, rfl, hs1.weakL ((List.cons_sublist_cons).2 (List.nil_sublist _))⟩
abbrev Jj4 (e : Nat) : Obj := .cells #[.int .i64 1, .int .i64 1, .slice none 0 0] e (0, 0)
def Jj5 (k n : Int) (x : Nat) : Ty := .mk k n (some (⟨x, 0, none⟩, 1)) [byT]
def Jy3 (x y r : Nat) : Ty := .mk 7 0 (some (⟨r, 0, none⟩, 2)) [Jj5 3 32 x, Jj5 3 32 y]
def acX (x y x2 x3 r s a : Nat) : Ty := .mk 7 0 (some (⟨a, 0, none⟩, 5)) [Jj5 3 20 x2, .mk 1 8 none [], .mk 1 32 none [], Jj5 4 512 x3, .mk 4 16 (some (⟨s, 0, none⟩, 1)) [Jy3 x y r]]
def Joe (x y x2 x3 r s a z : Nat) : Ty := .mk 4 32 (some (⟨z, 0, none⟩, 1)) [acX x y x2 x3 r s a]
theorem Jcv {R : Ji} {k n : Int} {ins : List Ty} {r m e : Nat} {all : Array Value} (hk : qa k) (hn : qa n) (hm : (r, Obj.cells all e (0, 0)) ∈ R) (ha : all.toList = Ja7 ins) (hl : ins.length = m) (hl2 : m ≤ 100) (hi : ∀ x ∈ ins, x.In R) : Ty.In R (.mk k n (some (⟨r, 0, none⟩, m)) ins) :=
 .mk hk hn (by omega) ⟨Nat.le_of_eq hl, fun _ => ⟨rfl, all, e, (0, 0), hm, by rw [List.drop_zero, ha, List.take_length]⟩⟩ hi
theorem xw {R : Ji} {k n : Int} (hk : qa k) (hn : qa n) : Ty.In R (.mk k n none []) := .mk hk hn (by decide) rfl (fun x hx => nomatch hx)
theorem qV {R : Ji} {k n : Int} {x e : Nat} (hk : qa k) (hn : qa n) (h : (x, Jj4 e) ∈ R) : (Jj5 k n x).In R :=
 Jcv hk hn h rfl rfl (by decide) fun y hy => by rw [List.mem_singleton.1 hy]; exact xw (by unfold qa; omega) (by unfold qa; omega)
theorem XU {n : Int} (h0 : 0 ≤ n) (h : n ≤ 1000) : qa n := by unfold qa; omega
theorem Jhr {R : Ji} {x y x2 x3 r s a z e : Nat} (h1 : (x, Jj4 e) ∈ R) (h2 : (y, Jj4 e) ∈ R) (h3 : (x2, Jj4 e) ∈ R) (h4 : (x3, Jj4 e) ∈ R) (h5 : (r, Obj.cells #[.int .i64 3, .int .i64 32, .slice (some ⟨x, 0, none⟩) 1 1, .int .i64 3, .int .i64 32, .slice (some ⟨y, 0, none⟩) 1 1] e (0, 0)) ∈ R)
  (h6 : (s, Obj.cells #[.int .i64 7, .int .i64 0, .slice (some ⟨r, 0, none⟩) 2 2] e (0, 0)) ∈ R)
  (h7 : (a, Obj.cells #[.int .i64 3, .int .i64 20, .slice (some ⟨x2, 0, none⟩) 1 1, .int .i64 1, .int .i64 8, .slice none 0 0, .int .i64 1, .int .i64 32, .slice none 0 0, .int .i64 4, .int .i64 512, .slice (some ⟨x3, 0, none⟩) 1 1, .int .i64 4, .int .i64 16, .slice (some ⟨s, 0, none⟩) 1 1] e (0, 0)) ∈ R)
  (h8 : (z, Obj.cells #[.int .i64 7, .int .i64 0, .slice (some ⟨a, 0, none⟩) 5 5] e (0, 0)) ∈ R) : (Joe x y x2 x3 r s a z).In R := by
 refine Jcv (XU (by decide) (by decide)) (XU (by decide) (by decide)) h8 rfl rfl (by decide) fun q hq => ?_; rw [List.mem_singleton.1 hq]; refine Jcv (XU (by decide) (by decide)) (XU (by decide) (by decide)) h7 rfl rfl (by decide) fun q hq => ?_; simp only [List.mem_cons, List.not_mem_nil, or_false] at hq
 rcases hq with rfl | rfl | rfl | rfl | rfl
 ·exact qV (XU (by decide) (by decide)) (XU (by decide) (by decide)) h3
 ·exact xw (XU (by decide) (by decide)) (XU (by decide) (by decide))
 ·exact xw (XU (by decide) (by decide)) (XU (by decide) (by decide))
 ·exact qV (XU (by decide) (by decide)) (XU (by decide) (by decide)) h4
 ·refine Jcv (XU (by decide) (by decide)) (XU (by decide) (by decide)) h6 rfl rfl (by decide) fun q hq => ?_
  rw [List.mem_singleton.1 hq]; refine Jcv (XU (by decide) (by decide)) (XU (by decide) (by decide)) h5 rfl rfl (by decide) fun q hq => ?_; simp only [List.mem_cons, List.not_mem_nil, or_false] at hq
  rcases hq with rfl | rfl
  ·exact qV (XU (by decide) (by decide)) (XU (by decide) (by decide)) h1
  ·exact qV (XU (by decide) (by decide)) (XU (by decide) (by decide)) h2
theorem Jhs (x y x2 x3 r s a z : Nat) : Yo (Joe x y x2 x3 r s a z) = jN := by
 simp only [Joe, acX, Jy3, Jj5, byT, Yo, W8, jN, acT, xv, Xe]
theorem Jti : PureT (α := TR jN) Tryz.prog 46 #[] (fun y => y.x.val) [] (fun y => y.L) [] := by
 refine Ju Tryz.func46 rfl rfl fun w => ?_; refine JB ?_; refine Jq 2 rfl ?_; refine LN rfl fun r1 => ?_; refine JG 4 rfl ?_; refine Kl rfl rfl rfl Jm5 (Jod (by unfold qa; omega) (by unfold qa; omega)) oN fun x1 => ?_; refine LN rfl fun r2 => ?_
 refine LT 0 rfl rfl ?_; refine XB 6 [0, 0] rfl rfl ?_; refine JK (vs := [_, _]) (zs := [_, _, _, _, _, _]) (r := [_, _, _, _, _, _]) rfl rfl rfl rfl rfl rfl rfl rfl rfl (by rw [Kh]; exact rfl) rfl fun r3 => ?_; refine LR rfl (Js (r := [_, _, _]) rfl rfl) ?_; refine LN rfl fun r4 => ?_
 refine LT 0 rfl rfl ?_; refine JM 3 rfl ?_
 refine JN [(r4, .cells #[.int .i64 7, .int .i64 0, .slice (some ⟨r3, 0, none⟩) 2 2] 84 (0, 0))] [(0, .grow (KY 0 (fun r => .agg #[.int .i64 3, .int .i64 20, .slice (some ⟨r, 0, none⟩) 1 1]) (fun r => [(r, .cells #[.int .i64 1, .int .i64 1, .slice none 0 0] 84 (0, 0))]))), (1, .pure), (2, .pure), (3, .grow (KY 0 (fun r => .agg #[.int .i64 4, .int .i64 512, .slice (some ⟨r, 0, none⟩) 1 1]) (fun r => [(r, .cells #[.int .i64 1, .int .i64 1, .slice none 0 0] 84 (0, 0))]))), (4, .pure), (5, .grow (Wb (slV 1) (.cells #[.int .i64 7, .int .i64 0, .slice (some ⟨r3, 0, none⟩) 2 2] 84 (0, 0)))), (6, .pure), (7, .dep [9, 10, 11, 12, 15] (Jba 5 84)), (8, .pure), (9, .grow (Wb Jaz (.cells #[.int .i64 0, .int .i64 0, .slice none 0 0] 84 (0, 0))))] 10 [1, 2, 4, 5, 6, 0, 3, 7, 8, 9] (by kernel_rfl) (by kernel_rfl) (by first | exact (fun _ h => absurd h List.not_mem_nil) | simp [SubS] | (intro p hp; simp [hp])) ?_; refine Jm (k := 1) rfl rfl rfl rfl rfl (fun _ hS => (Js (r := [_, _, _]) rfl rfl)) ?_; refine Jm (k := 2) rfl rfl rfl rfl rfl (fun _ hS => (Js (r := [_, _, _]) rfl rfl)) ?_; refine Jm (k := 4) rfl rfl rfl rfl rfl (fun _ hS => (Jp (vs := [_, _, _]) rfl (.inl (hS _ (Jn (n := 0) rfl))) rfl rfl rfl rfl)) ?_; refine VU (k := 5) (n := 1) (sz := 3) (vs := [_]) (zs := [_, _, _]) (r := [.int .i64 7, .int .i64 0, .slice (some ⟨r3, 0, none⟩) 2 2]) rfl rfl rfl rfl rfl rfl rfl rfl rfl rfl rfl (by rw [Kh]; exact rfl) rfl fun s1 => ?_; refine Jm (k := 6) rfl rfl rfl rfl rfl (fun _ hS => (Js (r := [_, _, _]) rfl rfl)) ?_; refine KR (k := 0) rfl rfl rfl rfl rfl Jm5 (Jod (by unfold qa; omega) (by unfold qa; omega)) oN fun x2 => ?_; refine KR (k := 3) rfl rfl rfl rfl rfl Jm5 (Jod (by unfold qa; omega) (by unfold qa; omega)) oN fun x3 => ?_; refine QV (k := 7) (dv := [_, _, _, _, _]) (n := 5) (sz := 3) (vs := [_, _, _, _, _]) (zs := [_, _, _, _, _, _, _, _, _, _, _, _, _, _, _]) (r := [.int .i64 3, .int .i64 20, .slice (some ⟨x2, 0, none⟩) 1 1, .int .i64 1, .int .i64 8, .slice none 0 0, .int .i64 1, .int .i64 32, .slice none 0 0, .int .i64 4, .int .i64 512, .slice (some ⟨x3, 0, none⟩) 1 1, .int .i64 4, .int .i64 16, .slice (some ⟨s1, 0, none⟩) 1 1]) rfl rfl rfl rfl rfl rfl rfl rfl rfl rfl rfl rfl rfl (by rw [Kh]; exact rfl) rfl fun s2 => ?_; refine Jm (k := 8) rfl rfl rfl rfl rfl (fun _ hS => (Js (r := [_, _, _]) rfl rfl)) ?_; refine Y1 (k := 9) (cs := #[_, _, _]) rfl rfl rfl rfl rfl rfl fun r5 => ?_; refine Kv ?_
 refine LT 0 rfl rfl ?_; refine JG 4 rfl ?_; refine LR rfl (Jp (vs := [_, _, _]) rfl (kn 0 rfl) rfl rfl rfl rfl) ?_; refine JK (vs := [_]) (zs := [_, _, _]) (r := [_, _, _]) rfl rfl rfl rfl rfl rfl rfl rfl rfl (by rw [Kh]; exact rfl) rfl fun r6 => ?_; refine LR rfl (Js (r := [_, _, _]) rfl rfl) ?_
 refine LT 10 rfl rfl ?_; refine Jy 3 rfl ?_; refine Jh rfl rfl (.cons (J2 (vs := [_, _, _]) rfl (kn 10 rfl) rfl rfl) .nil) (fun w1 hs1 => ?_); exact ⟨⟨Joe x1 x1 x2 x3 r3 s1 s2 r6, _, Jhr (e := 84) (by simp) (by simp) (by simp) (by simp) (by simp) (by simp) (by simp) (by simp), Jhs ..⟩, rfl, hs1⟩
def Z0 (b : UInt8) : Vl := .mk b.toNat 0 0 0 [] none [] none 0
def wM (s : BS) : Vl := KN (s.map Z0) 0
theorem Jy4 (b : UInt8) : (Z0 b).cells = [uV b.toNat, uV 0, uV 0, uV 0, .slice none 0 0, .slice none 0 0, .int .i64 0] := rfl
theorem Jvi (b : UInt8) : Vl.In [] (Z0 b) := .mk (by have := Yz b; unfold VD; omega) u0 u0 u0 (by decide) rfl (by decide) rfl i0 (fun x hx => nomatch hx)
theorem Jvj (s : BS) (p : Pl) : Zl (.mk 0 0 0 0 [] none (s.map Z0) p 0) = wM s := by
 rw [Wr, W7, List.map_map, show (Zl ∘ Z0) = Z0 from funext fun b => by show Zl (Z0 b) = Z0 b; unfold Z0; rw [Wr, qU]]; rfl
theorem Jtj {s : BS} {i : Nat} (h : i < s.length) : Qu ((s.take i).map Z0) ++ [uV (s.getD i 0).toNat, uV 0, uV 0, uV 0, .slice none 0 0, .slice none 0 0, .int .i64 0] = Qu ((s.take (i + 1)).map Z0) := by
 have h1 : s[i]? = some (s.getD i 0) := by rw [List.getD_eq_getElem?_getD, List.getElem?_eq_getElem h]; rfl
 rw [Zv h1, List.map_append]
 unfold Qu
 rw [List.flatMap_append]; simp [Jy4]
theorem xx {s : BS} (hl : s.length ≤ 100000) : PureT (α := VR (wM s)) Tryz.prog 102 [J6 s].toArray (fun y => y.x.val) [] (fun y => y.L) [] := by
 refine Ju Tryz.func102 rfl rfl fun w => ?_; refine JB ?_; refine Jq 2 rfl ?_; refine LN rfl fun r1 => ?_; refine JG 4 rfl ?_; refine LN rfl fun r2 => ?_; refine JG 6 rfl ?_; refine LR rfl (Qg rfl rfl) ?_; refine JM 4 rfl ?_; refine Jz (σ := Nat × QK) (fun q => q.1 ≤ s.length ∧ rowOk 7 q.1 (Qu ((s.take q.1).map Z0)) q.2) (fun q => [(0, J6 s), (2, X8 r1), (3, X8 r2), (6, .int .i64 (s.length : Int)), (7, .int .i64 (q.1 : Int))]) (fun q => (r2, .cells #[.int .u64 0, .int .u64 0, .int .u64 0, .int .u64 0, .slice none 0 0, J9 q.1 q.2, .int .i64 0] 89 (0, 0)) :: (r1, .cells #[.int .u64 0, .int .u64 0, .int .u64 0, .int .u64 0, .slice none 0 0, .slice none 0 0, .int .i64 0] 89 (0, 0)) :: JH 89 (Qu ((s.take q.1).map Z0)) q.2) (fun _ _ _ => True) (fun q => s.length - q.1) (0, none) ⟨Nat.zero_le _, rfl, rfl⟩ (lK rfl) (List.Sublist.refl _) (fun _ _ h => h) ?_; rintro ⟨i, row⟩ ⟨hi1, hrow⟩; simp only at hi1 hrow; change HC _ _ [(0, J6 s), (2, X8 r1), (3, X8 r2), (6, .int .i64 (s.length : Int)), (7, .int .i64 (i : Int))] ((r2, .cells #[.int .u64 0, .int .u64 0, .int .u64 0, .int .u64 0, .slice none 0 0, J9 i row, .int .i64 0] 89 (0, 0)) :: (r1, .cells #[.int .u64 0, .int .u64 0, .int .u64 0, .int .u64 0, .slice none 0 0, .slice none 0 0, .int .i64 0] 89 (0, 0)) :: JH 89 (Qu ((s.take i).map Z0)) row) _ _ _; refine JP 6 rfl ?_; refine cD (fun g => ?_) fun g => ?_
 ·refine JP 10 rfl ?_
  refine JN [(r2, .cells #[.int .u64 0, .int .u64 0, .int .u64 0, .int .u64 0, .slice none 0 0, J9 i row, .int .i64 0] 89 (0, 0))] [(0, .pure), (1, .pure), (2, .pure), (3, .pure), (4, .pure), (5, .pure), (6, .pure), (7, .pure), (8, .grow (Wb (slV 1) (.cells #[uV (s.getD i 0).toNat, uV 0, uV 0, uV 0, .slice none 0 0, .slice none 0 0, .int .i64 0] 89 (0, 0))))] 9 [0, 1, 2, 3, 4, 5, 6, 7, 8] (by kernel_rfl) (by kernel_rfl) (by first | exact (fun _ h => absurd h List.not_mem_nil) | simp [SubS] | (intro p hp; simp [hp])) ?_
  refine Jm (k := 0) rfl rfl rfl rfl rfl (fun _ hS => (JE rfl rfl rfl)) ?_; refine Jm (k := 1) rfl rfl rfl rfl rfl (fun _ hS => (Jd rfl (.inl (hS _ (Jn (n := 0) rfl))) rfl rfl)) ?_; refine Jm (k := 2) rfl rfl rfl rfl rfl (fun _ hS => (Jg rfl)) ?_; refine Jm (k := 3) rfl rfl rfl rfl rfl (fun _ hS => (Jg rfl)) ?_; refine Jm (k := 4) rfl rfl rfl rfl rfl (fun _ _ => Ji4 (j := i) rfl rfl rfl rfl (by omega) rfl) ?_; refine Jm (k := 5) rfl rfl rfl rfl rfl (fun _ _ => (Jv rfl rfl rfl)) ?_; refine Wa (show _ = uV (s.getD i 0).toNat from congrArg (Value.int .u64) (wrap_u64 (by omega) (by have := Yz (s.getD i 0); omega))) ?_; refine Vn (k := 6) rfl rfl rfl rfl rfl qk (V3 _) ?_; refine Jm (k := 7) rfl rfl rfl rfl rfl (fun _ hS => (Js (r := [_, _, _, _, _, _, _]) rfl rfl)) ?_; refine VU (k := 8) (n := 1) (sz := 7) (vs := [_]) (zs := [_, _, _, _, _, _, _]) (r := [uV (s.getD i 0).toNat, uV 0, uV 0, uV 0, .slice none 0 0, .slice none 0 0, .int .i64 0]) rfl rfl rfl rfl rfl rfl rfl rfl rfl rfl rfl (by rw [Kh]; exact rfl) rfl fun rb => ?_; refine Kv ?_; refine Kq (L0 := [_, _, _]) (xs := Qu ((s.take i).map Z0)) (row := row) (n := i) (sz := 7) (b := 88) (news := [_, _, _, _, _, _, _]) (List.perm_append_comm (l₁ := [_, _, _])) rfl rfl rfl rfl (kn 0 rfl) rfl rfl rfl rfl rfl (by decide) rfl rfl rfl (by decide) hrow (by omega) (by omega) fun ra cap sp hra => ?_
  refine LS 1 [] rfl rfl ?_; refine Kx (k := 2) (cs' := #[.int .u64 0, .int .u64 0, .int .u64 0, .int .u64 0, .slice none 0 0, J9 (i + 1) (some (ra, cap, sp)), .int .i64 0]) rfl rfl rfl rfl rfl rfl rfl rfl rfl rfl ?_; refine JG 5 rfl ?_; refine J3 (show _ = Value.int .i64 ((i + 1 : Nat) : Int) from by rw [wrap_i64 (by omega) (by omega)]; congr 1 <;> omega) ?_; refine Jy 2 rfl ?_; refine Jw ?_; rw [Jtj (by omega)] at hra ⊢; refine Qm [2, 3, 0] (L' := [_, _, _]) (by decide) rfl ?_; exact Jt (i + 1, some (ra, cap, sp)) ⟨by simp only; omega, hra⟩ (by simp only; omega) (lK rfl) (List.Sublist.refl _) (fun _ _ h => h)
 ·refine JP 6 rfl ?_
  have honeV : ([.int .u64 0, .int .u64 0, .int .u64 0, .int .u64 0, .slice none 0 0, J9 i row, .int .i64 0] : List Value).all Qt = true := by cases row <;> rfl
  refine Jq 1 rfl ?_; refine LR rfl (Jf (xs := [.int .u64 0, .int .u64 0, .int .u64 0, .int .u64 0, .slice none 0 0, J9 i row, .int .i64 0]) (n := 7) rfl (kn 0 rfl) rfl rfl rfl) ?_; refine Jk (k := 1) (n := 7) (ys := [.int .u64 0, .int .u64 0, .int .u64 0, .int .u64 0, .slice none 0 0, J9 i row, .int .i64 0]) rfl rfl rfl rfl rfl rfl rfl honeV rfl ?_; refine Jy 3 rfl ?_; refine Jh rfl rfl (.cons (J2 (vs := [_, _, _, _, _, _, _]) rfl (kn 1 rfl) rfl rfl) .nil) (fun w1 hs1 => ?_)
  have hiM : i = s.length := by omega
  rw [hiM, List.take_length] at hrow hs1
  have hrow2 : rowOk 7 (s.map Z0).length (Qu (s.map Z0)) row := by rw [List.length_map]; exact hrow
  have hvr : J9 i row = Kz (s.map Z0).length (QC row) := by rw [hiM, List.length_map]; exact (Wm _ _ (fun h => by rw [h] at hrow; exact hrow.1)).symm
  exact ⟨⟨.mk 0 0 0 0 [] none (s.map Z0) (QC row) 0, JH 89 (Qu (s.map Z0)) row ++ [], Jct (by rw [List.length_map]; omega) (Ku hrow2 (by decide)) (fun x hx => by obtain ⟨b, _, rfl⟩ := List.mem_map.1 hx; exact Jvi b) i0, Jvj s _⟩, congrArg (fun z => Ending.returned (Value.agg #[.int .u64 0, .int .u64 0, .int .u64 0, .int .u64 0, .slice none 0 0, z, .int .i64 0])) hvr, hs1.weakL (.cons _ (.cons _ (by simp only [List.append_nil]; exact List.Sublist.refl _)))⟩
abbrev VZ0 : Array Value := #[.int .u64 0, .int .u64 0, .int .u64 0, .int .u64 0, .slice none 0 0, .slice none 0 0, .int .i64 0]
section
variable {c : Cx} {l : Kk} {L E : Ji} {X : XP} {Q : Exit → Act → World → Prop} {d : List Deferred}
variable {ops : Array Oper} {rest : List Nat} {i k : Nat} {v : Value} {o : Oper} {tb : Zy} {S : Ji} {T : Ji → Act → Prop}
theorem Jof {α : Type} {T0 L0 Rl : Ji} {f : Operand} {args : Array Operand} {at_ : Array TypeId} {g : FuncId} {vs : List Value} {V : α → Value} {LL : α → Ji} {ty : TypeId} {ps : String} {af : Array Edge} {gd : Option (Nat × Bool)}
  (hp : E.Perm (T0 ++ L0)) (hk : W9 ops.toList k = some ⟨some i, .call ⟨.value f, args, at_⟩, ty, ps, af, gd⟩) (hg : JV l ops ⟨some i, .call ⟨.value f, args, at_⟩, ty, ps, af, gd⟩ = some true) (hi : Nat.ble (i + 1) c.n = true) (hA : tb k = .turn) (hca : Kc l f args = some (g, vs)) (eg : Enters c.P g)
  (hpt : PureT c.P g vs.toArray V T0 LL Rl) (hR : ∀ p ∈ Rl, known c L0 p.1 p.2) (hS : ∀ x, SubS S (LL x ++ L0)) (h : ∀ x, HB c d ((i, V x) :: l) (LL x ++ L0) X S ops tb rest T) : HB c d l E X S ops tb (k :: rest) T := fun a hf => by
 refine ⟨_, Qv hk, ?_⟩; rw [hA]; refine .inl ⟨α, V, fun x => LL x ++ L0, ⟨JC hf hg, fun w hs => ?_⟩, fun x => ⟨hS x, h x _ (hf.put (Nat.le_of_ble_eq_true hi))⟩⟩
 have hs := hs.perm hp
 obtain ⟨hd1, _, hd3⟩ := List.pairwise_append.1 hs.distinct
 refine VY hf hca eg ((hpt.run w (fun p hp => (hs.own p (List.mem_append_left _ hp)).2.2) (fun p hp => ?_) hd1 (fun p hp q hq => ?_)).mono fun _ _ ⟨x, he, hk, h1, h2⟩ => ⟨V x, he, x, rfl, hs.turnT hk h1 h2⟩)
 ·exact (hR p hp).elim (fun h => (hs.own _ (List.mem_append_right _ h)).2.2) hs.readR
 ·rcases hR p hp with h | h
  ·exact fun e => hd3 q hq _ h e.symm
  ·rintro e
   obtain ⟨h1, _, h3⟩ := hs.ext _ h
   have h3 := J5 h3
   rcases (hs.own q (List.mem_append_left _ hq)).1 with h4 | h4
   ·exact h1 (e ▸ h4)
   ·simp only at h3 e; omega
end
theorem Jy5 {n : Nat} {xs : List Value} (h : xs.length = n) : rowOk 1 n xs (some (0, n, [])) := ⟨by rw [h, Nat.mul_one], by simp⟩
theorem Jog {R : Ji} {k n : Int} {p : Pl} {ins : List Ty} {items : List Vl} {pi : Pl} (ht : Ty.In R (.mk k n p ins)) (h8 : k ≠ 8) (hs : Seg R items.length (Qu items) pi) (hl : items.length ≤ 600) (hx : ∀ i, i < items.length → Xn k 0 i < ins.length)
  (hb : ∀ (i : Nat) x, items[i]? = some x → PureR Tryz.prog 100 [(JO k 0 ins i).val, x.val].toArray (J6 (KI x (JO k 0 ins i))) R) :
  PureT (α := { row : QK // rowOk 1 items.length (VT (JU items k 0 ins 0)) row }) Tryz.prog 169 [Ty.val (.mk k n p ins), Kz items.length pi].toArray (fun x => J9 items.length x.1) [] (fun x => JH 9 (VT (JU items k 0 ins 0)) x.1) R := by
 cases ht with
 | @mk k n p ins hk hn hlt hst hit =>
 have hRL := VN items k 0 ins 0
 obtain ⟨RS, hRS⟩ : ∃ x, x = JU items k 0 ins 0 := ⟨_, rfl⟩
 have htk := fun i x (h : items[i]? = some x) => vW k ins (i := 0) h
 simp only [← hRS, Nat.zero_add] at htk; rw [← hRS] at hRL ⊢; refine Ju Tryz.func169 rfl rfl fun w => ?_; refine JB ?_; refine Jq 2 rfl ?_; refine LN rfl fun r1 => ?_; refine JG 12 rfl ?_; refine LR rfl (J0 rfl hs rfl) ?_; refine JM 4 rfl ?_; refine Jz (σ := Nat × QK) (fun q => q.1 ≤ items.length ∧ rowOk 1 q.1 (VT (RS.take q.1)) q.2) (fun q => [(2, X8 r1), (5, J9 q.1 q.2), (9, Kz items.length pi), (10, .int .i64 (items.length : Int)), (11, .int .i64 (q.1 : Int))]) (fun q => Wp r1 (.mk k n p ins) :: JH 9 (VT (RS.take q.1)) q.2) (fun _ _ _ => True) (fun q => items.length - q.1) (0, none) ⟨Nat.zero_le _, by rw [List.take_zero]; exact ⟨rfl, rfl⟩⟩ (lK rfl) (List.Sublist.refl _) (fun _ _ h => h) ?_; rintro ⟨i, row⟩ ⟨hi1, hrow⟩; simp only at hi1 hrow; change HC _ _ [(2, _), (5, J9 i row), (9, _), (10, _), (11, .int .i64 (i : Int))] ((r1, _) :: JH _ (VT (RS.take i)) row) _ _ _; refine JP 6 rfl ?_; refine cD (fun h7 => ?_) fun h7 => ?_
 ·refine JP 5 rfl ?_
  have hil : i < items.length := by omega
  have hix := Xs hil
  have hbi := hb i _ hix.1
  have hty := QD (hx i hil)
  have hi0 : 0 < ins.length := Nat.lt_of_le_of_lt (Nat.zero_le _) (hx i hil)
  have hy0 : ins[0]? = some (ins.getD 0 default) := by rw [List.getD_eq_getElem?_getD, List.getElem?_eq_getElem hi0]; rfl
  have htki := htk i _ hix.1
  obtain ⟨sv, hsv⟩ : ∃ x, x = KI (Xq items i) (JO k 0 ins i) := ⟨_, rfl⟩
  rw [← hsv] at hbi htki; refine Jq 2 rfl ?_
  refine LR rfl (Jr (j := i) rfl hs rfl rfl rfl (by first | rfl | omega) (by omega)) ?_; refine LR rfl (VZ oR rfl hs hix.1 rfl rfl) ?_; refine Qi (cs := #[.int .u64 0, .int .u64 0, .int .u64 0, .int .u64 0, .slice none 0 0, .slice none 0 0, .int .i64 0]) rfl rfl rfl rfl fun rv => ?_; refine QI rfl (Jk (k := 0) (n := 7) (ys := (Xq items i).cells) rfl rfl rfl rfl rfl (Xq items i).len rfl (Xq items i).one rfl (XB 6 [1] rfl rfl ?_)); refine LR rfl (Jr (j := 0) rfl hst rfl rfl rfl rfl (by omega)) ?_; refine LR rfl (Qd oR rfl hst hy0 rfl rfl) ?_; refine Qi (cs := #[.int .i64 0, .int .i64 0, .slice none 0 0]) rfl rfl rfl rfl fun rt => ?_; refine Jk (k := 0) (n := 3) (ys := (ins.getD 0 default).cells) rfl rfl rfl rfl rfl (ins.getD 0 default).len rfl (ins.getD 0 default).one rfl ?_; refine Goc 10 [2] rfl rfl ?_; refine cD (fun g => ?_) fun g => ?_
  ·refine XA 4 [2] rfl rfl ?_; refine LR rfl (Jr (j := Xn k 0 i) rfl hst rfl rfl rfl (by unfold Xn; rw [if_pos (by assumption)]) (hx i hil)) ?_; refine LR rfl (Qd oR rfl hst hty.1 rfl rfl) ?_; refine Jk (k := 0) (n := 3) (ys := (JO k 0 ins i).cells) rfl rfl rfl rfl rfl (JO k 0 ins i).len (by rw [List.size_toArray]; exact Ty.len _) (JO k 0 ins i).one rfl ?_; refine JM 2 rfl ?_
   (have h7 : k = 7 := by assumption
    skip)
   refine Jq 2 rfl ?_; refine LR rfl (Jf (xs := (JO k 0 ins i).cells) (n := 3) rfl (kn 0 rfl) rfl rfl (JO k 0 ins i).len) ?_; refine LR rfl (Jf (xs := (Xq items i).cells) (n := 7) rfl (kn 1 rfl) rfl rfl (Xq items i).len) ?_; refine Je rfl rfl rfl Jgx hbi oR ?_; refine JK (vs := [_]) (zs := [_]) (r := [_]) rfl rfl rfl rfl rfl rfl rfl rfl rfl (by show (madeCells #[_] _).toList = _; rw [QR]; exact rfl) rfl fun r2 => ?_; refine Kq (L0 := [_, _, _, _]) (xs := VT (RS.take i)) (row := row) (n := i) (sz := 1) (b := 16) (news := [J6 sv]) (List.perm_append_comm (l₁ := [_, _, _, _])) rfl rfl rfl rfl (kn 0 rfl) rfl rfl rfl rfl rfl (by decide) rfl rfl rfl (by decide) hrow (by omega) (by omega) fun ra cap sp hra => ?_; refine JG 6 rfl ?_; refine J3 (show _ = Value.int .i64 ((i + 1 : Nat) : Int) from by rw [wrap_i64 (by omega) (by omega)]; congr 1 <;> omega) ?_; refine Jy 2 rfl ?_; refine Jw ?_; refine Qm [4, 0] (L' := [_, _]) (by decide) rfl ?_; exact Jt (i + 1, some (ra, cap, sp)) ⟨by simp only; omega, by simp only; rw [htki, YE]; exact hra⟩ (by simp only; omega) (lK rfl) (by simp only; rw [htki, YE]; exact List.Sublist.refl _) (fun _ _ h => h)
  ·refine JP 2 rfl ?_
   (have h7 : ¬ k = 7 := by assumption
    have e : ins.getD 0 default = JO k 0 ins i := by unfold JO Xn; rw [if_neg h7, if_neg h8]
    rw [e])
   refine Jq 2 rfl ?_; refine LR rfl (Jf (xs := (JO k 0 ins i).cells) (n := 3) rfl (kn 0 rfl) rfl rfl (JO k 0 ins i).len) ?_; refine LR rfl (Jf (xs := (Xq items i).cells) (n := 7) rfl (kn 1 rfl) rfl rfl (Xq items i).len) ?_; refine Je rfl rfl rfl Jgx hbi oR ?_; refine JK (vs := [_]) (zs := [_]) (r := [_]) rfl rfl rfl rfl rfl rfl rfl rfl rfl (by show (madeCells #[_] _).toList = _; rw [QR]; exact rfl) rfl fun r3 => ?_; refine Kq (L0 := [_, _, _, _]) (xs := VT (RS.take i)) (row := row) (n := i) (sz := 1) (b := 16) (news := [J6 sv]) (List.perm_append_comm (l₁ := [_, _, _, _])) rfl rfl rfl rfl (kn 0 rfl) rfl rfl rfl rfl rfl (by decide) rfl rfl rfl (by decide) hrow (by omega) (by omega) fun ra cap sp hra => ?_; refine JG 6 rfl ?_; refine J3 (show _ = Value.int .i64 ((i + 1 : Nat) : Int) from by rw [wrap_i64 (by omega) (by omega)]; congr 1 <;> omega) ?_; refine Jy 2 rfl ?_; refine Jw ?_; refine Qm [4, 0] (L' := [_, _]) (by decide) rfl ?_; exact Jt (i + 1, some (ra, cap, sp)) ⟨by simp only; omega, by simp only; rw [htki, YE]; exact hra⟩ (by simp only; omega) (lK rfl) (by simp only; rw [htki, YE]; exact List.Sublist.refl _) (fun _ _ h => h)
 ·refine JP 6 rfl ?_
  obtain rfl : i = items.length := by omega
  rw [List.take_of_length_le (by omega)] at hrow ⊢; refine Km 6 rfl ?_; refine pT rfl rfl rfl fun w1 hs1 => ?_; exact ⟨⟨row, hrow⟩, rfl, hs1.weakL (.cons _ (List.Sublist.refl _))⟩
abbrev jq (l : List BS) : Type := { row : QK // rowOk 1 l.length (VT l) row }
def Jht (l : List BS) : jq l := ⟨some (0, l.length, []), Jy5 (by unfold VT; rw [List.length_map])⟩
abbrev rV {l : List BS} (x : jq l) : Value := Kz l.length (QC x.1)
abbrev rL {l : List BS} (x : jq l) : Ji := JH 9 (VT l) x.1
theorem Jy6 {l : List BS} (x : jq l) : rV x = J9 l.length x.1 := Wm _ _ fun h => by
 have h2 := x.2
 rw [h] at h2; exact h2.1
theorem Joh (l : List BS) : (fun x : jq l => rV x) = fun x => J9 l.length x.1 := funext fun x => Jy6 x
theorem Joi {s : BS} (hl : s.length ≤ 1000000) : PureT (α := jq (Ym s)) Tryz.prog 218 [J6 s].toArray (fun x => rV x) [] (fun x => rL x) [] := by
 have h := Jy2 hl
 rw [← YF] at h; rw [Joh]; exact h
theorem yK {R : Ji} {k n : Int} {p : Pl} {ins : List Ty} {items : List Vl} {pi : Pl} (ht : Ty.In R (.mk k n p ins)) (h8 : k ≠ 8) (hs : Seg R items.length (Qu items) pi) (hl : items.length ≤ 600) (hx : ∀ i, i < items.length → Xn k 0 i < ins.length)
  (hb : ∀ (i : Nat) x, items[i]? = some x → PureR Tryz.prog 100 [(JO k 0 ins i).val, x.val].toArray (J6 (KI x (JO k 0 ins i))) R) :
  PureT (α := jq (JU items k 0 ins 0)) Tryz.prog 169 [Ty.val (.mk k n p ins), Kz items.length pi].toArray (fun x => rV x) [] (fun x => rL x) R := by
 have h := Jog ht h8 hs hl hx hb
 rw [Joh]
 have e := VN items k 0 ins 0
 generalize JU items k 0 ins 0 = RS at h e ⊢
 rw [← e] at h; rw [← e]; exact h
theorem Joj (t : Ty) : Pure Tryz.prog 215 [t.val].toArray (.bool (WW t)) := by
 obtain ⟨k, n, p, ins⟩ := t
 refine Jl Tryz.func215 rfl rfl fun w => ?_; refine JB ?_; refine Jq 2 rfl ?_; refine LN rfl fun r1 => ?_; refine XB 9 [0] rfl rfl ?_
 refine J7 6 rfl (fun gb => ?_) (fun gb => ?_) <;> (try simp only [ZZ] at gb) <;> first | (refine LR rfl (JE rfl rfl rfl) ?_) | (refine LK rfl ?_)
 all_goals (
  refine LW 4 [0] rfl rfl (Jy 1 rfl (Zx 2 rfl ?_)); refine pT rfl rfl rfl fun w1 hs1 => ?_; refine ⟨?_, hs1.keep⟩
  simp_all [J8, WW, Ty.k]
  all_goals first | done | rfl
  skip)
theorem Jww (n : Nat) : ((n + 7) / 8 + 31) / 32 = (n + 255) / 256 := by omega
theorem Jhu {R : Ji} {l : List Bool} {k : Int} {n : Nat} {p pb : Pl} {ins : List Ty} (hl : l.length ≤ n) (hn : n ≤ 512) (hs : Seg R l.length (ZS l) pb) :
  PureR Tryz.prog 165 [Ty.val (.mk k (n : Int) p ins), Kz l.length pb].toArray (J6 (QX (Ym (Wt l)) ((n + 255) / 256))) R := by
 obtain ⟨N, hN⟩ : ∃ N, N = (l.length + 7) / 8 := ⟨_, rfl⟩
 have hpB : Wt l = KK l N l.length := by rw [hN]; rfl
 have hnb := jM (bits := l) (n := (n : Int)) (by omega)
 rw [Int.toNat_natCast] at hnb
 have hc32 := Za (Wt l)
 have hcut := Joi (s := Wt l) (by rw [YN]; omega)
 rw [hpB] at hnb hc32 hcut ⊢; refine Ja Tryz.func165 rfl rfl fun w => ?_; refine JB ?_; refine Jq 2 rfl ?_; refine LN rfl fun r1 => ?_; refine JG 6 rfl ?_; refine LR rfl (J0 rfl hs rfl) ?_
 refine Wi rfl ?_; refine J3 (show _ = Value.int .i64 ((l.length + 8 : Nat) : Int) from by rw [wrap_i64 (by omega) (by omega)]; congr 1 <;> omega) ?_
 refine Wi rfl ?_; refine J3 (show _ = Value.int .i64 ((l.length + 7 : Nat) : Int) from by rw [wrap_i64 (by omega) (by omega)]; congr 1 <;> omega) ?_; refine Wi rfl ?_; refine J3 (show _ = Value.int .i64 ((N : Nat) : Int) from congrArg (Value.int .i64) (by rw [QJ (by omega) (by decide) (by omega), hN]; rfl)) ?_; refine Wz (n := N) (b := 1) rfl rfl rfl rfl rfl rfl rfl rfl rfl (by omega) (by omega) fun rm => ?_; rw [show List.replicate N (Value.int .u8 0) = (KK l N 0).map bV from by rw [KK, List.map_replicate]; rfl]; refine JG 7 rfl ?_; refine LR rfl (J0 rfl hs rfl) ?_; refine JM 4 rfl ?_; refine Jz (σ := Nat) (fun i => i ≤ l.length) (fun i => [(2, X8 r1), (5, .slice (some ⟨rm, 0, none⟩) N N), (14, Kz l.length pb), (15, .int .i64 (l.length : Int)), (16, .int .i64 (i : Int))]) (fun i => [(rm, .cells ((KK l N i).map bV).toArray 5 (0, 0)), Wp r1 (.mk k (n : Int) p ins)]) (fun _ _ _ => True) (fun i => l.length - i) 0 (Nat.zero_le _) (lK rfl) (List.Sublist.refl _) (fun _ _ h => h) ?_; intro i hi1; change HC _ _ _ ((rm, _) :: (r1, _) :: []) _ _ _; refine JP 6 rfl ?_; refine cD (fun g => ?_) fun g => ?_
 ·refine JP 5 rfl ?_
  have hil : i < l.length := by omega
  have hi8 : i / 8 < N := by omega
  have hyb : l[i]? = some (l.getD i false) := by rw [List.getD_eq_getElem?_getD, List.getElem?_eq_getElem hil]; rfl
  refine Jq 2 rfl ?_
  refine LR rfl (Jr (j := i) rfl hs rfl rfl rfl (by first | rfl | omega) (by omega)) ?_; refine LR rfl (XE oR rfl hs hyb rfl) ?_; refine JM 9 rfl ?_; refine cD (fun g => ?_) fun g => ?_
  ·have hbt : l.getD i false = true := by assumption
   have hst1 : KK l N (i + 1) = (KK l N i).set (i / 8) (UInt8.ofNat (((KK l N i).getD (i / 8) 0).toNat ||| 2 ^ (i % 8))) := by rw [KK, if_pos hbt]
   obtain ⟨Y, hY⟩ : ∃ Y, Y = KK l N i := ⟨_, rfl⟩
   have hYl : Y.length = N := by rw [hY]; exact Ve l N i
   rw [← hY] at hst1 ⊢
   refine JN [] [(0, .pure), (1, .pure), (2, .pure), (3, .pure), (5, .pure), (6, .pure), (7, .pure), (8, .pure), (9, .pure), (10, .turn)] 11 [0, 1, 2, 3, 4, 5, 6, 7, 8, 9, 10] (by kernel_rfl) (by kernel_rfl) (by first | exact (fun _ h => absurd h List.not_mem_nil) | simp [SubS] | (intro p hp; simp [hp])) ?_; refine Jm (k := 0) rfl rfl rfl rfl rfl (fun _ hS => (Jg rfl)) ?_; refine Jm (k := 1) rfl rfl rfl rfl rfl (fun _ hS => (Jg rfl)) ?_
   refine Jm (k := 2) rfl rfl rfl rfl rfl (fun _ _ => (Jv rfl rfl rfl)) ?_; refine Wa (show _ = Value.int .i64 ((i / 8 : Nat) : Int) from congrArg (Value.int .i64) (by first | exact W0 _ _ | exact QJ (by omega) (by decide) (by omega) | (rw [wrap_i64 (by omega) (by omega)]; omega))) ?_; refine Jm (k := 3) rfl rfl rfl rfl rfl (fun _ _ => JF (j := (i / 8)) (m := 1) (off' := (i / 8)) rfl rfl rfl rfl (by omega) (by omega) (by omega)) ?_; refine KD (k := 4) rfl rfl rfl rfl rfl (Jd rfl (kn 0 rfl) rfl (by rw [Wk]; exact XO (by omega))) ?_; refine Jm (k := 5) rfl rfl rfl rfl rfl (fun _ hS => (Jg rfl)) ?_
   refine Jm (k := 6) rfl rfl rfl rfl rfl (fun _ _ => (Jv rfl rfl rfl)) ?_; refine Wa (show _ = Value.int .i64 ((i % 8 : Nat) : Int) from congrArg (Value.int .i64) (by first | exact W0 _ _ | exact QJ (by omega) (by decide) (by omega) | (rw [wrap_i64 (by omega) (by omega)]; omega))) ?_; refine Jm (k := 7) rfl rfl rfl rfl rfl (fun _ _ => Jf2 (n := i % 8) (b := ((2 ^ (i % 8) : Nat) : Int)) rfl rfl rfl (show _ ≤ 8 from by omega) (Jn3 (by omega))) ?_; refine Jm (k := 8) rfl rfl rfl rfl rfl (fun _ _ => zA (op := .or) (m := (Y.getD (i / 8) 0).toNat) (n := 2 ^ (i % 8)) rfl rfl rfl (Yz _) (Nat.pow_lt_pow_right (by decide) (by omega) : 2 ^ (i % 8) < 2 ^ 8) rfl) ?_; refine Wa (Jhn _ (by omega)) ?_; refine Jm (k := 9) rfl rfl rfl rfl rfl (fun _ _ => JF (j := (i / 8)) (m := 1) (off' := (i / 8)) rfl rfl rfl rfl (by omega) (by omega) (by omega)) ?_; refine XG (k := 10) (q := 0) (cs' := ((KK l N (i + 1)).map bV).toArray) rfl rfl rfl rfl rfl rfl rfl rfl (by simp; omega) (by rw [yG, hst1]) rfl (fun _ h => nomatch h) ?_; refine Kv ?_; refine JG 5 rfl ?_; refine J3 (show _ = Value.int .i64 ((i + 1 : Nat) : Int) from by rw [wrap_i64 (by omega) (by omega)]; congr 1 <;> omega) ?_; refine Jy 2 rfl ?_; refine Jw ?_; exact Jt (i + 1) (by omega) (by omega) (lK rfl) (List.Sublist.refl _) (fun _ _ h => h)
  ·refine Jq 5 rfl ?_; refine J3 (show _ = Value.int .i64 ((i + 1 : Nat) : Int) from by rw [wrap_i64 (by omega) (by omega)]; congr 1 <;> omega) ?_; refine Jy 2 rfl ?_; refine Jw ?_
   (have hst0 : KK l N (i + 1) = KK l N i := by rw [KK, if_neg (by simp_all)]
    exact Jt (i + 1) (by omega) (by omega) (lK rfl) (by rw [hst0]; exact List.Sublist.refl _) (fun _ _ h => h))
 ·refine JP 6 rfl ?_
  obtain rfl : i = l.length := by omega
  refine JN [] [(0, .pure), (2, .grow (KY (Jht (Ym (KK l N l.length))) (fun x => rV x) (fun x => rL x))), (3, .pure), (5, .pure), (6, .pure), (7, .pure), (8, .pure), (10, .pure)] 11 [0, 1, 3, 4, 5, 6, 7, 2, 8, 9, 10] (by kernel_rfl) (by kernel_rfl) (by first | exact (fun _ h => absurd h List.not_mem_nil) | simp [SubS] | (intro p hp; simp [hp])) ?_; refine Jm (k := 0) rfl rfl rfl rfl rfl (fun _ hS => (Jg rfl)) ?_; refine KD (k := 1) rfl rfl rfl rfl rfl (Qs (b := KK l N l.length) (row := some (rm, N, [])) (e := 5) (show _ = some (J9 (KK l N l.length).length _) from by rw [Ve]; rfl) ⟨by rw [List.length_map]; omega, by rw [Ve]; simp⟩ (fun p hp => .inl (by rw [List.mem_singleton.1 hp, List.append_nil]; exact List.mem_cons_self)) rfl rfl rfl) ?_
  refine Jm (k := 3) rfl rfl rfl rfl rfl (fun _ hS => (JE rfl rfl rfl)) ?_; refine KD (k := 4) rfl rfl rfl rfl rfl (Jd rfl (kn 1 rfl) rfl rfl) ?_
  refine Jm (k := 5) rfl rfl rfl rfl rfl (fun _ _ => (Jv rfl rfl rfl)) ?_; refine Wa (show _ = Value.int .i64 ((n + 8 : Nat) : Int) from congrArg (Value.int .i64) (by first | exact W0 _ _ | exact QJ (by omega) (by decide) (by omega) | (rw [wrap_i64 (by omega) (by omega)]; omega))) ?_
  refine Jm (k := 6) rfl rfl rfl rfl rfl (fun _ _ => (Jv rfl rfl rfl)) ?_; refine Wa (show _ = Value.int .i64 ((n + 7 : Nat) : Int) from congrArg (Value.int .i64) (by first | exact W0 _ _ | exact QJ (by omega) (by decide) (by omega) | (rw [wrap_i64 (by omega) (by omega)]; omega))) ?_
  refine Jm (k := 7) rfl rfl rfl rfl rfl (fun _ _ => (Jv rfl rfl rfl)) ?_; refine Wa (show _ = Value.int .i64 (((n + 7) / 8 : Nat) : Int) from congrArg (Value.int .i64) (by first | exact W0 _ _ | exact QJ (by omega) (by decide) (by omega) | (rw [wrap_i64 (by omega) (by omega)]; omega))) ?_; refine KR (k := 2) rfl rfl rfl rfl rfl (enters_of Tryz.func218 (by kernel_rfl) rfl) hcut oN fun x => ?_; refine Vn (k := 8) rfl rfl rfl rfl rfl (enters_of Tryz.func220 (by kernel_rfl) rfl) (Job (n := (n + 7) / 8) (by omega)) ?_; rw [Jww]; refine KT (k := 9) rfl rfl rfl rfl rfl Jg0 (qR hnb (by omega) (Ku x.2 (by decide)) hc32) (fun q hq => .inl (List.mem_append_left _ hq)) ?_; refine Jm (k := 10) rfl rfl rfl rfl rfl (fun _ hS => (JA rfl)) ?_; refine Kv ?_; refine Jy 3 rfl ?_; refine pT rfl rfl rfl fun w1 hs1 => ?_; exact ⟨rfl, hs1.keep⟩
section
variable {c : Cx} {l : Kk} {L E : Ji} {X : XP} {Q : Exit → Act → World → Prop} {d : List Deferred}
variable {ops : Array Oper} {rest : List Nat} {i k : Nat} {v : Value} {o : Oper} {tb : Zy} {S : Ji} {T : Ji → Act → Prop}
theorem Jj6 {f : Operand} {args : Array Operand} {at_ : Array TypeId} {g : FuncId} {vs : List Value} {Rl : Ji} {ty : TypeId} {ps : String} {af : Array Edge} {gd : Option (Nat × Bool)}
  (hk : W9 ops.toList k = some ⟨some i, .call ⟨.value f, args, at_⟩, ty, ps, af, gd⟩) (hg : JV l ops ⟨some i, .call ⟨.value f, args, at_⟩, ty, ps, af, gd⟩ = some true) (hi : Nat.ble (i + 1) c.n = true) (hA : tb k = .pure) (hca : Kc l f args = some (g, vs)) (eg : Enters c.P g)
  (hp : PureR c.P g vs.toArray v Rl) (hR : ∀ p ∈ Rl, p ∈ S ∨ p ∈ c.R) (h : HB c d ((i, v) :: l) E X S ops tb rest T) : HB c d l E X S ops tb (k :: rest) T := fun a hf => by
 refine ⟨_, Qv hk, ?_⟩; rw [hA]; exact ⟨v, .inl ⟨JC hf hg, fun E' hE' w hs => VY hf hca eg ((hp.run w fun p hp => (hR p hp).elim (fun h => (hs.own _ (hE' p h)).2.2) hs.readR).mono fun _ _ ⟨he, hk⟩ => ⟨v, he, rfl, hk⟩)⟩, h _ (hf.put (Nat.le_of_ble_eq_true hi))⟩
end
theorem YH {k : Int} (h7 : k ≠ 7) (h8 : k ≠ 8) (x : Ty) (i : Nat) : JO k 0 [x] i = x := by unfold JO Xn; rw [if_neg h7, if_neg h8]; rfl
theorem Jj7 {l : List Vl} {x : Ty} {i : Nat} {v : Vl} (h : l[i]? = some v) : W5 (l.take (i + 1)) x = W5 (l.take i) x ++ Vf v x := by
 unfold W5
 rw [List.take_add_one, h]
 simp
theorem Jhv {x : Ty} : ∀ {l : List Vl}, (∀ v ∈ l, (Vf v x).length ≤ 32) → (W5 l x).length ≤ 32 * l.length
 | [], _ => by unfold W5; simp
 | v :: l, h => by
  have ih := Jhv (l := l) fun y hy => h y (List.mem_cons_of_mem _ hy)
  have h1 := h v List.mem_cons_self
  unfold W5 at ih ⊢
  rw [List.map_cons, List.flatten_cons, List.length_append, List.length_cons]; omega
theorem wc {x : Ty} {v : Vl} (hc : chk x 0 = 0) (hp : WW x = true) (hf : KE v x = 0) : Js1 x v = (Vf v x, 0) ∧ (Vf v x).length ≤ 32 := by
 obtain ⟨f1, f2, f3, f4⟩ := Zc hc hp
 have h1 := f4 v hf
 have h2 : (Vf v x).length ≤ 32 := by omega
 have h3 : Vp x v = 0 := by unfold Vp; rw [if_pos hc]; exact hf
 unfold Js1
 rw [if_neg (by rw [h3]; simp), if_neg (by omega)]; exact ⟨rfl, h2⟩
set_option maxHeartbeats 1000000 in
theorem Jwx {R : Ji} {k : Int} {n : Nat} {p pi : Pl} {x0 : Ty} {items : List Vl} (ht : Ty.In R (.mk k (n : Int) p [x0])) (h7 : k ≠ 7) (h8 : k ≠ 8) (hc : chk x0 0 = 0) (hs : Seg R items.length (Qu items) pi) (hl : items.length ≤ n) (hn : n ≤ 512)
  (hfit : ∀ v ∈ items, KE v x0 = 0) (hw : ∀ v ∈ items, Yu v ≤ 20000) (hIn : ∀ v ∈ items, v.In R)
  (hb : ∀ (i : Nat) x, items[i]? = some x → PureR Tryz.prog 100 [x0.val, x.val].toArray (J6 (KI x x0)) R) :
  PureR Tryz.prog 161 [Ty.val (.mk k (n : Int) p [x0]), Kz items.length pi].toArray (J6 (W6 k (n : Int) [x0] items (JU items k 0 [x0] 0))) R := by
 have hro := yK ht h8 hs (by omega) (fun i _ => by unfold Xn; rw [if_neg h7, if_neg h8]; exact Nat.lt_succ_self 0) (fun i x hx => by rw [YH h7 h8]; exact hb i x hx)
 have hrl := VN items k 0 [x0] 0
 have hr32 : ∀ s ∈ JU items k 0 [x0] 0, s.length = 32 := fun s hs => by
  obtain ⟨j, x, h1, rfl⟩ := XS hs
  rw [YH h7 h8]; exact WC x x0 0 hc (hfit x (List.mem_of_getElem? h1))
 have hrt := fun (x : jq (JU items k 0 [x0] 0)) => qR (m := n) (by omega) (by omega) (Ku (e := 9) x.2 (by decide)) hr32
 have hM : W6 k (n : Int) [x0] items (JU items k 0 [x0] 0) = if WW x0 = true then QX (Ym (W5 items x0)) ((n * (KL x0).toNat + 31) / 32) else QX (JU items k 0 [x0] 0) n := by
  unfold W6
  rw [if_neg h7]; rfl
 rw [hM]
 have hx0 := ht.sub x0 List.mem_cons_self
 have ht2 := ht
 cases ht with
 | @mk k n p ins hk hn2 hlt hst hit =>
 have hpl := Joj x0
 refine Ja Tryz.func161 rfl rfl fun w => ?_; refine JB ?_; refine Jq 2 rfl ?_; refine LN rfl fun r1 => ?_; refine XB 8 [0] rfl rfl ?_
 refine LR rfl (Jr (j := 0) rfl hst rfl rfl rfl (by first | rfl | omega) (Nat.lt_succ_self 0)) ?_; refine LR rfl (Qd oR rfl hst (show [x0][0]? = some x0 from rfl) rfl rfl) ?_; refine Jo rfl rfl rfl (enters_of Tryz.func215 (by kernel_rfl) rfl) hpl ?_; refine JM 3 rfl ?_; refine cD (fun g => ?_) fun g => ?_
 refine JP 1 rfl ?_
 refine JN [] [(1, .pure), (2, .grow (KY (Jht (JU items k 0 [x0] 0)) (fun x => rV x) (fun x => rL x))), (3, .pure), (6, .pure)] 7 [0, 1, 3, 4, 2, 5, 6] (by kernel_rfl) (by kernel_rfl) (by first | exact (fun _ h => absurd h List.not_mem_nil) | simp [SubS] | (intro p hp; simp [hp])) ?_; refine KD (k := 0) rfl rfl rfl rfl rfl (Jf (xs := (Ty.mk k (n : Int) p [x0]).cells) (n := 3) rfl (kn 0 rfl) rfl rfl (Ty.mk k (n : Int) p [x0]).len) ?_; refine Jm (k := 1) rfl rfl rfl rfl rfl (fun _ hS => (Jg rfl)) ?_
 refine Jm (k := 3) rfl rfl rfl rfl rfl (fun _ hS => (JE rfl rfl rfl)) ?_; refine KD (k := 4) rfl rfl rfl rfl rfl (Jd rfl (kn 0 rfl) rfl rfl) ?_; refine KR (k := 2) rfl rfl rfl rfl rfl (enters_of Tryz.func169 (by kernel_rfl) rfl) hro (fun q hq => .inr hq) fun x => ?_; refine KT (k := 5) rfl rfl rfl rfl rfl Jg0 (hrt x) (fun q hq => .inl (List.mem_append_left _ hq)) ?_; refine Jm (k := 6) rfl rfl rfl rfl rfl (fun _ hS => (JA rfl)) ?_; refine Kv ?_; refine Jy 4 rfl ?_; refine pT rfl rfl rfl fun w1 hs1 => ?_; refine ⟨?_, hs1.keep⟩; rw [if_neg (by rw [Bool.not_eq_true]; assumption)]; rfl
 ·refine JP 3 rfl ?_
  have hp : WW x0 = true := by assumption
  obtain ⟨f1, f2, f3, f4⟩ := Zc hc hp
  obtain ⟨z, hz⟩ : ∃ z, z = (KL x0).toNat := ⟨_, rfl⟩
  have hSz := Jnp hx0
  have hsz : yi x0 = (z : Int) := by unfold yi; rw [if_pos f1]; omega
  rw [hsz] at hSz
  have hnz : n * z ≤ 16384 := by
   have := Nat.mul_le_mul hn (show z ≤ 32 by omega)
   omega
  obtain ⟨C, hC⟩ : ∃ C, C = W5 items x0 := ⟨_, rfl⟩
  have hCl : C.length = items.length * z := by rw [hC]; exact jp fun v hv => by have := f4 v (hfit v hv); omega
  have hCn : C.length ≤ n * z := by rw [hCl]; exact Nat.mul_le_mul_right _ hl
  have hcn : (Ym C).length ≤ (n * z + 31) / 32 := by rw [YF]; unfold xt; omega
  refine Jq 1 rfl ?_; refine LN rfl fun r2 => ?_; refine JG 6 rfl ?_; refine LR rfl (J0 rfl hs rfl) ?_; refine JM 4 rfl ?_; refine Jz (σ := Nat × QK × Bool) (fun q => q.1 ≤ items.length ∧ bOk (W5 (items.take q.1) x0) q.2.1) (fun q => [(2, X8 r1), (5, X8 r2), (22, Kz items.length pi), (23, .int .i64 (items.length : Int)), (24, .int .i64 (q.1 : Int))]) (fun q => Wq r2 (W5 (items.take q.1) x0) q.2.1 q.2.2 ++ [Wp r1 (Ty.mk k (n : Int) p [x0])]) (fun _ _ _ => True) (fun q => items.length - q.1) (0, none, false) ⟨Nat.zero_le _, xr⟩ (lK rfl) (List.Sublist.refl _) (fun _ _ h => h) ?_; rintro ⟨i, row, own⟩ ⟨hi1, hb1⟩; simp only at hi1 hb1; change HC _ _ [(2, _), (5, _), (22, _), (23, _), (24, .int .i64 (i : Int))] (Wq r2 (W5 (items.take i) x0) row own ++ [Wp r1 (Ty.mk k (n : Int) p [x0])]) _ _ _; refine JP 6 rfl ?_; refine cD (fun g => ?_) fun g => ?_
  ·refine JP 5 rfl ?_
   have hil : i < items.length := by omega
   have hix := Xs hil
   have hpr := wc hc hp (hfit _ hix.2)
   have hput := Jws hx0 (hIn _ hix.2) (hw _ hix.2)
   rw [hpr.1] at hput
   have hsn := Jj7 (x := x0) hix.1
   have hcl := Jhv (x := x0) (l := items.take i) fun v hv => (wc hc hp (hfit v (List.mem_of_mem_take hv))).2
   rw [List.length_take] at hcl
   have hp2 := hpr.2
   refine Jq 1 rfl ?_
   refine LR rfl (Jr (j := i) rfl hs rfl rfl rfl (by first | rfl | omega) (by omega)) ?_; refine LR rfl (VZ oR rfl hs hix.1 rfl rfl) ?_; refine Qi (cs := #[.int .u64 0, .int .u64 0, .int .u64 0, .int .u64 0, .slice none 0 0, .slice none 0 0, .int .i64 0]) rfl rfl rfl rfl fun rv => ?_; refine Jk (k := 0) (n := 7) (ys := (Xq items i).cells) rfl rfl rfl rfl rfl (Xq items i).len rfl (Xq items i).one rfl ?_; refine JM 3 rfl ?_; refine JJ 11 (by kernel_rfl) (by kernel_rfl) ?_
   refine Jb rfl rfl rfl (JE rfl rfl rfl) ?_; refine Jb rfl rfl rfl (Jd (v := Kz 1 p) rfl (.inl (List.mem_cons_of_mem _ (List.mem_append_right _ List.mem_cons_self))) rfl rfl) ?_
   refine Jb rfl rfl rfl (Jr (j := 0) rfl hst rfl rfl rfl (by first | rfl | omega) (Nat.lt_succ_self 0)) ?_; refine Jb rfl rfl rfl (Qd oR rfl hst (show [x0][0]? = some x0 from rfl) rfl rfl) ?_; refine Jb rfl rfl rfl (Jf (xs := (Xq items i).cells) (n := 7) rfl (kn 0 rfl) rfl rfl (Xq items i).len) ?_; refine V7 rfl rfl rfl (enters_of Tryz.func216 (by kernel_rfl) rfl) hput oR ?_; refine Jb rfl rfl rfl (Jg rfl) ?_; refine Jb rfl rfl rfl (Kg rfl rfl) ?_; refine Jb rfl rfl rfl (Kg rfl rfl) ?_; refine Jb rfl rfl rfl (JA rfl) ?_; refine Jb rfl rfl rfl (JA rfl) ?_; refine JW ?_; refine JG 4 rfl ?_; refine Qk (T := Wq r2 (W5 (items.take i) x0) row own) (L0 := _ :: [Wp r1 (Ty.mk k (n : Int) p [x0])]) (Rl := []) List.perm_middle.symm rfl rfl rfl Jg3 (qS hb1 (s2 := Vf (Xq items i) x0) (by omega)) oN fun x => ?_
   obtain ⟨rowx, hbx⟩ := x
   refine JG 5 rfl ?_; refine J3 (show _ = Value.int .i64 ((i + 1 : Nat) : Int) from by rw [wrap_i64 (by omega) (by omega)]; congr 1 <;> omega) ?_; refine Jy 2 rfl ?_; refine Jw ?_; refine qP (L' := Wq r2 (W5 (items.take (i + 1)) x0) rowx true ++ [Wp r1 (Ty.mk k (n : Int) p [x0])]) (by rw [hsn]; exact (List.Sublist.refl _).append (.cons _ (List.Sublist.refl _))) ?_; exact Jt (i + 1, rowx, true) ⟨by simp only; omega, by simp only; rw [hsn]; exact hbx⟩ (by simp only; omega) (lK rfl) (List.Sublist.refl _) (fun _ _ h => h)
  ·refine JP 6 rfl ?_
   obtain rfl : i = items.length := by omega
   rw [List.take_length, ← hC] at hb1; rw [List.take_length, ← hC]; refine JN [Wp r1 (Ty.mk k (n : Int) p [x0])] [(0, .turn), (1, .grow (KY (Jht (Ym C)) (fun x => rV x) (fun x => rL x))), (2, .pure), (3, .pure), (4, .pure), (5, .pure), (6, .pure), (7, .pure), (8, .pure), (9, .pure), (10, .pure)] 11 [2, 3, 4, 5, 6, 7, 0, 1, 8, 9, 10] (by kernel_rfl) (by kernel_rfl) (fun p hp => List.mem_append_right _ hp) ?_
   refine Jm (k := 2) rfl rfl rfl rfl rfl (fun _ hS => (JE rfl rfl rfl)) ?_; refine Jm (k := 3) rfl rfl rfl rfl rfl (fun E' hS => Jd (v := .int .i64 (n : Int)) rfl (.inl (hS _ List.mem_cons_self)) rfl rfl) ?_
   refine Jm (k := 4) rfl rfl rfl rfl rfl (fun _ hS => (JE rfl rfl rfl)) ?_; refine Jm (k := 5) rfl rfl rfl rfl rfl (fun E' hS => Jd (v := Kz 1 p) rfl (.inl (hS _ List.mem_cons_self)) rfl rfl) ?_
   refine Jm (k := 6) rfl rfl rfl rfl rfl (fun E' hS => Jr (j := 0) rfl hst rfl rfl rfl (by first | rfl | omega) (Nat.lt_succ_self 0)) ?_; refine Jm (k := 7) rfl rfl rfl rfl rfl (fun E' hS => Qd oR rfl hst (show [x0][0]? = some x0 from rfl) rfl rfl) ?_; refine Jof (k := 0) (T0 := Wq r2 C row own) (L0 := [Wp r1 (Ty.mk k (n : Int) p [x0])]) (Rl := []) (List.Perm.refl _) rfl rfl rfl rfl rfl Jm9 (Je3 hb1 (by omega)) oN (fun _ p hp => hp) fun u => ?_; refine KR (k := 1) rfl rfl rfl rfl rfl (enters_of Tryz.func218 (by kernel_rfl) rfl) (Joi (s := C) (by omega)) oN fun x => ?_; refine Jj6 (k := 8) rfl rfl rfl rfl rfl (enters_of Tryz.func221 (by kernel_rfl) rfl) hSz (fun q hq => .inr hq) ?_; refine Jm (k := 9) rfl rfl rfl rfl rfl (fun _ _ => (Jv rfl rfl rfl)) ?_; refine Wa (show _ = Value.int .i64 ((n * z : Nat) : Int) from congrArg (Value.int .i64) (by rw [← Int.natCast_mul]; exact wrap_i64 (by omega) (by omega))) ?_; refine Vn (k := 10) rfl rfl rfl rfl rfl (enters_of Tryz.func220 (by kernel_rfl) rfl) (Job (n := n * z) (by omega)) ?_; refine Kv ?_; refine Je rfl rfl rfl Jg0 (qR hcn (by omega) (Ku x.2 (by decide)) (Za _)) (fun q hq => .inl (List.mem_append_left _ hq)) ?_; refine Jy 4 rfl ?_; refine pT rfl rfl rfl fun w1 hs1 => ?_; refine ⟨?_, hs1.keep⟩; rw [if_pos hp]; (try rw [← hz]); (try rw [← hC]); rfl
section
variable {R : Ji} {k n : Int} {p : Pl} {ins : List Ty} {a b c d : Nat} {bits : List Bool} {pb : Pl} {items : List Vl} {pi : Pl} {pick : Int} {s : BS}
theorem J0l (h : PureR Tryz.prog 161 [Ty.val (.mk k n p ins), Kz items.length pi].toArray (J6 s) R) : PureR Tryz.prog 160 [Ty.val (.mk k n p ins), Vl.val (.mk a b c d bits pb items pi pick)].toArray (J6 s) R := by
 refine Ja Tryz.func160 rfl rfl fun w => ?_; refine JB ?_; refine Jq 2 rfl ?_; refine LN rfl fun r1 => ?_; refine LN rfl fun r2 => ?_; refine JG 5 rfl ?_; refine LR rfl (Jf (xs := (Ty.mk k n p ins).cells) (n := 3) rfl (kn 1 rfl) rfl rfl (Ty.mk k n p ins).len) ?_
 refine LS 2 [0] rfl rfl ?_; refine Je rfl rfl rfl (enters_of Tryz.func161 (by kernel_rfl) rfl) h oR ?_; refine Jy 4 rfl ?_; refine pT rfl rfl rfl fun w1 hs1 => ?_; exact ⟨rfl, hs1.keep⟩
theorem J0m (hs : Seg R items.length (Qu items) pi) (h32 : s.length = 32) (hl : items.length ≤ 512) (h : PureR Tryz.prog 161 [Ty.val (.mk k n p ins), Kz items.length pi].toArray (J6 s) R) : PureR Tryz.prog 162 [Ty.val (.mk k n p ins), Vl.val (.mk a b c d bits pb items pi pick)].toArray (J6 (Yj s items.length)) R := by
 refine Ja Tryz.func162 rfl rfl fun w => ?_; refine JB ?_; refine Jq 2 rfl ?_; refine LN rfl fun r1 => ?_; refine LN rfl fun r2 => ?_; refine JM 4 rfl ?_
 refine JN [] [(1, .pure), (4, .pure), (6, .pure), (7, .pure), (8, .pure)] 9 [0, 1, 2, 4, 5, 6, 3, 7, 8] (by kernel_rfl) (by kernel_rfl) (by first | exact (fun _ h => absurd h List.not_mem_nil) | simp [SubS] | (intro p hp; simp [hp])) ?_; refine KD (k := 0) rfl rfl rfl rfl rfl (Jf (xs := (Ty.mk k n p ins).cells) (n := 3) rfl (kn 1 rfl) rfl rfl (Ty.mk k n p ins).len) ?_
 refine Jm (k := 1) rfl rfl rfl rfl rfl (fun _ hS => (JE rfl rfl rfl)) ?_; refine KD (k := 2) rfl rfl rfl rfl rfl (Jd rfl (kn 0 rfl) rfl rfl) ?_
 refine Jm (k := 4) rfl rfl rfl rfl rfl (fun _ hS => (JE rfl rfl rfl)) ?_; refine KD (k := 5) rfl rfl rfl rfl rfl (Jd rfl (kn 0 rfl) rfl rfl) ?_; refine Jm (k := 6) rfl rfl rfl rfl rfl (fun _ hS => (J0 rfl hs rfl)) ?_; refine KT (k := 3) rfl rfl rfl rfl rfl (enters_of Tryz.func161 (by kernel_rfl) rfl) h oR ?_; refine Vn (k := 7) rfl rfl rfl rfl rfl Jm7 (Jn0 (by omega) (by omega)) ?_; refine Jm (k := 8) rfl rfl rfl rfl rfl (fun _ hS => (JA rfl)) ?_; refine Kv ?_; refine Jy 3 rfl ?_; refine pT rfl rfl rfl fun w1 hs1 => ?_; exact ⟨rfl, hs1.keep⟩
theorem J0n (h : PureR Tryz.prog 165 [Ty.val (.mk k n p ins), Kz bits.length pb].toArray (J6 s) R) : PureR Tryz.prog 164 [Ty.val (.mk k n p ins), Vl.val (.mk a b c d bits pb items pi pick)].toArray (J6 s) R := by
 refine Ja Tryz.func164 rfl rfl fun w => ?_; refine JB ?_; refine Jq 2 rfl ?_; refine LN rfl fun r1 => ?_; refine LN rfl fun r2 => ?_; refine JG 5 rfl ?_; refine LR rfl (Jf (xs := (Ty.mk k n p ins).cells) (n := 3) rfl (kn 1 rfl) rfl rfl (Ty.mk k n p ins).len) ?_
 refine LS 2 [0] rfl rfl ?_; refine Je rfl rfl rfl (enters_of Tryz.func165 (by kernel_rfl) rfl) h oR ?_; refine Jy 4 rfl ?_; refine pT rfl rfl rfl fun w1 hs1 => ?_; exact ⟨rfl, hs1.keep⟩
theorem J0o (hs : Seg R bits.length (ZS bits) pb) (h32 : s.length = 32) (hl : bits.length ≤ 512) (h : PureR Tryz.prog 165 [Ty.val (.mk k n p ins), Kz bits.length pb].toArray (J6 s) R) : PureR Tryz.prog 166 [Ty.val (.mk k n p ins), Vl.val (.mk a b c d bits pb items pi pick)].toArray (J6 (Yj s bits.length)) R := by
 refine Ja Tryz.func166 rfl rfl fun w => ?_; refine JB ?_; refine Jq 2 rfl ?_; refine LN rfl fun r1 => ?_; refine LN rfl fun r2 => ?_; refine JM 4 rfl ?_
 refine JN [] [(1, .pure), (4, .pure), (6, .pure), (7, .pure), (8, .pure)] 9 [0, 1, 2, 4, 5, 6, 3, 7, 8] (by kernel_rfl) (by kernel_rfl) (by first | exact (fun _ h => absurd h List.not_mem_nil) | simp [SubS] | (intro p hp; simp [hp])) ?_; refine KD (k := 0) rfl rfl rfl rfl rfl (Jf (xs := (Ty.mk k n p ins).cells) (n := 3) rfl (kn 1 rfl) rfl rfl (Ty.mk k n p ins).len) ?_
 refine Jm (k := 1) rfl rfl rfl rfl rfl (fun _ hS => (JE rfl rfl rfl)) ?_; refine KD (k := 2) rfl rfl rfl rfl rfl (Jd rfl (kn 0 rfl) rfl rfl) ?_
 refine Jm (k := 4) rfl rfl rfl rfl rfl (fun _ hS => (JE rfl rfl rfl)) ?_; refine KD (k := 5) rfl rfl rfl rfl rfl (Jd rfl (kn 0 rfl) rfl rfl) ?_; refine Jm (k := 6) rfl rfl rfl rfl rfl (fun _ hS => (J0 rfl hs rfl)) ?_; refine KT (k := 3) rfl rfl rfl rfl rfl (enters_of Tryz.func165 (by kernel_rfl) rfl) h oR ?_; refine Vn (k := 7) rfl rfl rfl rfl rfl Jm7 (Jn0 (by omega) (by omega)) ?_; refine Jm (k := 8) rfl rfl rfl rfl rfl (fun _ hS => (JA rfl)) ?_; refine Kv ?_; refine Jy 3 rfl ?_; refine pT rfl rfl rfl fun w1 hs1 => ?_; exact ⟨rfl, hs1.keep⟩
theorem J0p {l : List BS} (hst : Seg R ins.length (Ja7 ins) p) (hl : l.length ≤ ins.length) (hn : ins.length ≤ 16) (h32 : ∀ s ∈ l, s.length = 32) (h : PureT (α := jq l) Tryz.prog 169 [Ty.val (.mk k n p ins), Kz items.length pi].toArray (fun x => rV x) [] (fun x => rL x) R) :
  PureR Tryz.prog 167 [Ty.val (.mk k n p ins), Vl.val (.mk a b c d bits pb items pi pick)].toArray (J6 (QX l ins.length)) R := by
 refine Ja Tryz.func167 rfl rfl fun w => ?_; refine JB ?_; refine Jq 2 rfl ?_; refine LN rfl fun r1 => ?_; refine LN rfl fun r2 => ?_; refine JM 4 rfl ?_
 refine JN [] [(1, .pure), (3, .grow (KY (Jht l) (fun x => rV x) (fun x => rL x))), (4, .pure), (6, .pure), (8, .pure)] 9 [0, 1, 2, 4, 5, 6, 3, 7, 8] (by kernel_rfl) (by kernel_rfl) (by first | exact (fun _ h => absurd h List.not_mem_nil) | simp [SubS] | (intro p hp; simp [hp])) ?_; refine KD (k := 0) rfl rfl rfl rfl rfl (Jf (xs := (Ty.mk k n p ins).cells) (n := 3) rfl (kn 1 rfl) rfl rfl (Ty.mk k n p ins).len) ?_
 refine Jm (k := 1) rfl rfl rfl rfl rfl (fun _ hS => (JE rfl rfl rfl)) ?_; refine KD (k := 2) rfl rfl rfl rfl rfl (Jd rfl (kn 0 rfl) rfl rfl) ?_
 refine Jm (k := 4) rfl rfl rfl rfl rfl (fun _ hS => (JE rfl rfl rfl)) ?_; refine KD (k := 5) rfl rfl rfl rfl rfl (Jd rfl (kn 1 rfl) rfl rfl) ?_; refine Jm (k := 6) rfl rfl rfl rfl rfl (fun _ hS => (J0 rfl hst rfl)) ?_; refine KR (k := 3) rfl rfl rfl rfl rfl (enters_of Tryz.func169 (by kernel_rfl) rfl) h (fun q hq => .inr hq) fun x => ?_; refine KT (k := 7) rfl rfl rfl rfl rfl Jg0 (qR hl (by omega) (Ku x.2 (by decide)) h32) (fun q hq => .inl (List.mem_append_left _ hq)) ?_; refine Jm (k := 8) rfl rfl rfl rfl rfl (fun _ hS => (JA rfl)) ?_; refine Kv ?_; refine Jy 3 rfl ?_; refine pT rfl rfl rfl fun w1 hs1 => ?_; exact ⟨rfl, hs1.keep⟩
theorem J0q {m : Nat} {y : Ty} {x : Vl} (hst : Seg R ins.length (Ja7 ins) p) (hs : Seg R items.length (Qu items) pi) (hm : m ≤ 8) (hy : ins[m]? = some y) (hx : items[0]? = some x) (h32 : s.length = 32) (h : PureR Tryz.prog 100 [y.val, x.val].toArray (J6 s) R) :
  PureR Tryz.prog 170 [Ty.val (.mk k n p ins), Vl.val (.mk a b c d bits pb items pi (m : Int))].toArray (J6 (Yj s m)) R := by
 have hm1 := (List.getElem?_eq_some_iff.1 hy).1
 have hm2 := (List.getElem?_eq_some_iff.1 hx).1
 refine Ja Tryz.func170 rfl rfl fun w => ?_; refine JB ?_; refine Jq 2 rfl ?_; refine LN rfl fun r1 => ?_; refine LN rfl fun r2 => ?_; refine JM 4 rfl ?_
 refine JN [] [(0, .pure), (2, .pure), (4, .pure), (6, .pure), (8, .pure), (11, .pure), (13, .pure), (14, .pure)] 15 [0, 1, 2, 3, 4, 5, 6, 7, 8, 9, 11, 12, 10, 13, 14] (by kernel_rfl) (by kernel_rfl) (by first | exact (fun _ h => absurd h List.not_mem_nil) | simp [SubS] | (intro p hp; simp [hp])) ?_
 refine Jm (k := 0) rfl rfl rfl rfl rfl (fun _ hS => (JE rfl rfl rfl)) ?_; refine KD (k := 1) rfl rfl rfl rfl rfl (Jd rfl (kn 1 rfl) rfl rfl) ?_
 refine Jm (k := 2) rfl rfl rfl rfl rfl (fun _ hS => (JE rfl rfl rfl)) ?_; refine KD (k := 3) rfl rfl rfl rfl rfl (Jd rfl (kn 0 rfl) rfl rfl) ?_; refine Jm (k := 4) rfl rfl rfl rfl rfl (fun E' hS => Jr (j := m) rfl hst rfl rfl rfl rfl hm1) ?_; refine KD (k := 5) rfl rfl rfl rfl rfl (Qd oR rfl hst hy rfl rfl) ?_
 refine Jm (k := 6) rfl rfl rfl rfl rfl (fun _ hS => (JE rfl rfl rfl)) ?_; refine KD (k := 7) rfl rfl rfl rfl rfl (Jd rfl (kn 0 rfl) rfl rfl) ?_
 refine Jm (k := 8) rfl rfl rfl rfl rfl (fun E' hS => Jr (j := 0) rfl hs rfl rfl rfl (by first | rfl | omega) hm2) ?_; refine KD (k := 9) rfl rfl rfl rfl rfl (VZ oR rfl hs hx rfl rfl) ?_
 refine Jm (k := 11) rfl rfl rfl rfl rfl (fun _ hS => (JE rfl rfl rfl)) ?_; refine KD (k := 12) rfl rfl rfl rfl rfl (Jd rfl (kn 0 rfl) rfl rfl) ?_; refine KT (k := 10) rfl rfl rfl rfl rfl Jgx h oR ?_; refine Vn (k := 13) rfl rfl rfl rfl rfl Jm7 (Jn0 (by omega) (by omega)) ?_; refine Jm (k := 14) rfl rfl rfl rfl rfl (fun _ hS => (JA rfl)) ?_; refine Kv ?_; refine Jy 3 rfl ?_; refine pT rfl rfl rfl fun w1 hs1 => ?_; exact ⟨rfl, hs1.keep⟩
theorem Xt {g : FuncId} (hlk : Kp Yr (.int .i64 k) (rootM.toList.map QS) = some (.func (.func g) #[] #[])) (eg : Enters Tryz.prog g) (hg : PureR Tryz.prog g [Ty.val (.mk k n p ins), Vl.val (.mk a b c d bits pb items pi pick)].toArray (J6 s) R) :
  PureR Tryz.prog 100 [Ty.val (.mk k n p ins), Vl.val (.mk a b c d bits pb items pi pick)].toArray (J6 s) R := by
 refine Ja Tryz.func100 rfl rfl fun w => ?_; refine JB ?_; refine Jq 2 rfl ?_; refine LN rfl fun r1 => ?_; refine LN rfl fun r2 => ?_; refine JG 5 rfl ?_; refine vp rfl rfl fun rm => ?_; refine KJ (q := 0) (key := .int .i64 1) (val := .func (.func 159) #[] #[]) (Xc (t := 3) (by kernel_rfl)) rfl rfl rfl rfl rfl rfl ⟨_, rfl⟩ (by intro e he; simp at he) rfl rfl ?_
 refine KJ (q := 0) (key := .int .i64 2) (val := .func (.func 159) #[] #[]) (Xc (t := 3) (by kernel_rfl)) rfl rfl rfl rfl rfl rfl ⟨_, rfl⟩ (by intro e he; simp at he; rcases he with rfl <;> exact ⟨_, rfl⟩) rfl rfl ?_
 refine KJ (q := 0) (key := .int .i64 3) (val := .func (.func 160) #[] #[]) (Xc (t := 3) (by kernel_rfl)) rfl rfl rfl rfl rfl rfl ⟨_, rfl⟩ (by intro e he; simp at he; rcases he with rfl | rfl <;> exact ⟨_, rfl⟩) rfl rfl ?_
 refine KJ (q := 0) (key := .int .i64 4) (val := .func (.func 162) #[] #[]) (Xc (t := 3) (by kernel_rfl)) rfl rfl rfl rfl rfl rfl ⟨_, rfl⟩ (by intro e he; simp at he; rcases he with rfl | rfl | rfl <;> exact ⟨_, rfl⟩) rfl rfl ?_
 refine KJ (q := 0) (key := .int .i64 5) (val := .func (.func 164) #[] #[]) (Xc (t := 3) (by kernel_rfl)) rfl rfl rfl rfl rfl rfl ⟨_, rfl⟩ (by intro e he; simp at he; rcases he with rfl | rfl | rfl | rfl <;> exact ⟨_, rfl⟩) rfl rfl ?_
 refine KJ (q := 0) (key := .int .i64 6) (val := .func (.func 166) #[] #[]) (Xc (t := 3) (by kernel_rfl)) rfl rfl rfl rfl rfl rfl ⟨_, rfl⟩ (by intro e he; simp at he; rcases he with rfl | rfl | rfl | rfl | rfl <;> exact ⟨_, rfl⟩) rfl rfl ?_
 refine KJ (q := 0) (key := .int .i64 7) (val := .func (.func 167) #[] #[]) (Xc (t := 3) (by kernel_rfl)) rfl rfl rfl rfl rfl rfl ⟨_, rfl⟩ (by intro e he; simp at he; rcases he with rfl | rfl | rfl | rfl | rfl | rfl <;> exact ⟨_, rfl⟩) rfl rfl ?_
 refine KJ (q := 0) (key := .int .i64 8) (val := .func (.func 170) #[] #[]) (Xc (t := 3) (by kernel_rfl)) rfl rfl rfl rfl rfl rfl ⟨_, rfl⟩ (by intro e he; simp at he; rcases he with rfl | rfl | rfl | rfl | rfl | rfl | rfl <;> exact ⟨_, rfl⟩) rfl rfl ?_; change HL _ _ _ ((rm, .map rootM 8) :: _) _ _ _ _; refine XB 9 [2] rfl rfl ?_; refine LR rfl (WI (v := .func (.func g) #[] #[]) (Xc (t := 3) (by kernel_rfl)) rfl rfl (kn 0 rfl) rfl rfl ⟨_, rfl⟩ Jjz (by show (Kp Yr (.int .i64 k) (rootM.toList.map QS)).getD _ = _; rw [hlk]; rfl)) ?_; refine LS 2 [2, 1] rfl rfl ?_; refine Je rfl rfl rfl eg hg oR ?_; refine Jy 4 rfl ?_; refine pT rfl rfl rfl fun w1 hs1 => ?_; exact ⟨rfl, hs1.keep⟩
end
theorem Jj8 {l : List Vl} {k pick : Int} {ins : List Ty} (h : l.length = 1) : (JU l k pick ins 0).headD [] = KI (Xq l 0) (JO k pick ins 0) := by
 match l, h with
 | [x], _ => rw [JU]; rfl
theorem Jok {a b c d : Nat} {bits : List Bool} {pb : Pl} {items : List Vl} {pi : Pl} {pick k n : Int} {p : Pl} {ins : List Ty} (hcz : chk (.mk k n p ins) 0 = 0) (hfit : KE (.mk a b c d bits pb items pi pick) (.mk k n p ins) = 0) (hk : k = 3 ∨ k = 4 ∨ k = 7) : (W6 k n ins items (JU items k 0 ins 0)).length = 32 := by
 obtain ⟨q1, q2, q3⟩ := vX hcz hfit
 have hrow := fun (j : Nat) x (h : items[j]? = some x) => Jhp hcz hfit (by omega) h
 have hrs : ∀ s ∈ JU items k 0 ins 0, s.length = 32 := fun s hs => by
  obtain ⟨j, x, h1, rfl⟩ := XS hs
  rw [Nat.zero_add]
  obtain ⟨_, r1, r2, r3⟩ := hrow j x h1
  exact WC x _ 0 r2 r3
 have hrl := VN items k 0 ins 0
 unfold W6
 by_cases h7 : k = 7
 ·rw [if_pos h7]
  exact V2 (by have := q3 h7; omega) hrs
 ·rw [if_neg h7]
  obtain ⟨w1, w2, w3, w4⟩ := q1 (by omega)
  match ins, w4 with
  | [x0], _ =>
  rw [show [x0].getD 0 default = x0 from rfl]
  by_cases hp : WW x0 = true
  ·rw [if_pos hp]
   have hc0 := Zb hcz _ List.mem_cons_self
   obtain ⟨f1, f2, f3, f4⟩ := Zc hc0 hp
   refine V2 ?_ (Za _); rw [YF]
   unfold xt
   have hz : ∀ v ∈ items, (Vf v x0).length = (KL x0).toNat := fun v hv => by
    obtain ⟨j, hj⟩ := List.getElem?_of_mem hv
    have hg := (hrow j v hj).2.2.2
    rw [YH h7 (by omega)] at hg
    have := f4 v hg
    omega
   rw [jp hz]
   have hm : items.length * (KL x0).toNat ≤ n.toNat * (KL x0).toNat := Nat.mul_le_mul_right _ (by omega)
   omega
  ·rw [if_neg hp]
   exact V2 (by omega) hrs
set_option maxHeartbeats 1000000 in
theorem Jwy {R : Ji} {v : Vl} (hv : v.In R) : ∀ (t : Ty) (dp : Nat), t.In R → chk t (dp : Int) = 0 → KE v t = 0 → Yu v ≤ 20000 → PureR Tryz.prog 100 [t.val, v.val].toArray (J6 (KI v t)) R := by
 have hv0 := hv
 induction hv with
 | @mk a b c d bits pb items pi pick ha hb hcc hd hlb hsb hl hs hp hi ih =>
 intro t dp ht hck hfit hw
 obtain ⟨k, n, p, ins⟩ := t
 have ht0 := ht
 cases ht with
 | mk hk hn hlt hst hit =>
 obtain ⟨hk8, ho, h6, hci⟩ := QU hck
 obtain ⟨hf1, hf2, hf3⟩ := WB hfit
 obtain ⟨m1, m2, m3, m4⟩ := Jcq hck hfit
 obtain ⟨q1, q2, q3⟩ := vX hck hfit
 have hcz := xu hck
 have hrow := fun (h8 : k ≠ 8) (j : Nat) x (h : items[j]? = some x) => Jhp hcz hfit h8 h
 have hwi : ∀ x ∈ items, Yu x ≤ 20000 := fun x hx => Nat.le_trans (Je4 hx) hw
 have hrec : k ≠ 8 → ∀ (i : Nat) x, items[i]? = some x → PureR Tryz.prog 100 [(JO k 0 ins i).val, x.val].toArray (J6 (KI x (JO k 0 ins i))) R := fun h8 i x hx => by
  obtain ⟨_, r1, r2, r3⟩ := hrow h8 i x hx
  have hm := List.mem_of_getElem? hx
  exact ih x hm (hi x hm) _ 0 (hit _ r1) r2 r3 (hwi x hm)
 have hlen := WC _ _ dp hck hfit
 rw [WX] at hlen ⊢
 by_cases h1 : k = 1
 ·subst h1
  rw [if_pos (.inl rfl)]; exact Xt rfl (enters_of Tryz.func159 (by kernel_rfl) rfl) (Jck _ hv0).toR
 by_cases h2 : k = 2
 ·subst h2
  rw [if_pos (.inr rfl)]; exact Xt rfl (enters_of Tryz.func159 (by kernel_rfl) rfl) (Jck _ hv0).toR
 rw [if_neg (by omega)] at hlen ⊢
 have hone : k ≠ 7 → k ≠ 8 → ∀ x0, ins = [x0] → ∀ N : Nat, n = (N : Int) → N ≤ 512 → items.length ≤ N → PureR Tryz.prog 161 [Ty.val (.mk k n p ins), Kz items.length pi].toArray (J6 (W6 k n ins items (JU items k 0 ins 0))) R := fun h7 h8 x0 e N en hN hle => by
  subst e; subst en; refine Jwx ht0 h7 h8 (Zb hcz _ List.mem_cons_self) hs hle hN (fun v hv => ?_) hwi hi fun i x hx => ?_
  ·obtain ⟨j, hj⟩ := List.getElem?_of_mem hv
   have := (hrow h8 j v hj).2.2.2
   rwa [YH h7 h8] at this
  ·have := hrec h8 i x hx
   rwa [YH h7 h8] at this
 by_cases h4 : k = 4
 ·subst h4
  obtain ⟨w1, w2, w3, w4⟩ := q1 (.inr rfl)
  rw [if_pos rfl, vV (by decide)] at hlen ⊢
  have hrl : (W6 4 n ins items (JU items 4 0 ins 0)).length = 32 := Jok hcz hfit (.inr (.inl rfl))
  obtain ⟨x0, hx0⟩ := List.length_eq_one_iff.1 w4
  exact Xt rfl (enters_of Tryz.func162 (by kernel_rfl) rfl) (J0m hs hrl m1 (hone (by decide) (by decide) x0 hx0 n.toNat (by omega) (by omega) (by omega)))
 rw [if_neg h4] at hlen ⊢
 by_cases h5 : k = 5
 ·subst h5
  obtain ⟨w1, w2, w3⟩ := q2 (.inl rfl)
  rw [if_pos rfl] at hlen ⊢; refine Xt rfl (enters_of Tryz.func164 (by kernel_rfl) rfl) (J0n ?_)
  have := Jhu (k := 5) (p := p) (ins := ins) (l := bits) (n := n.toNat) (by omega) (by omega) hsb
  rwa [show ((n.toNat : Nat) : Int) = n by omega] at this
 rw [if_neg h5] at hlen ⊢
 by_cases h6 : k = 6
 ·subst h6
  obtain ⟨w1, w2, w3⟩ := q2 (.inr rfl)
  rw [if_pos rfl] at hlen ⊢; refine Xt rfl (enters_of Tryz.func166 (by kernel_rfl) rfl) (J0o hsb (V2 (jM w3) (Za _)) m2 ?_)
  have := Jhu (k := 6) (p := p) (ins := ins) (l := bits) (n := n.toNat) (by omega) (by omega) hsb
  rwa [show ((n.toNat : Nat) : Int) = n by omega] at this
 rw [if_neg h6] at hlen ⊢
 by_cases h8 : k = 8
 ·subst h8
  obtain ⟨w1, w2, w3, w4⟩ := m4 rfl
  obtain ⟨m, rfl⟩ : ∃ m : Nat, pick = (m : Int) := ⟨pick.toNat, by omega⟩
  have hx8 := Xs (l := items) (i := 0) (by omega)
  have hg := WU (j := 0) hf3 hx8.1
  have hin := jK (v := .mk a b c d bits pb items pi (m : Int)) (i := 0) hcz hf2 (show 0 < items.length by omega)
  have hty := QD hin
  have hX := ih _ hx8.2 (hi _ hx8.2) _ 0 (hit _ hty.2) (Zb hcz _ hty.2) hg (hwi _ hx8.2)
  have hXl := WC _ _ 0 (Zb hcz _ hty.2) hg
  rw [if_pos rfl, Jj8 w1, Int.toNat_natCast]; exact Xt rfl (enters_of Tryz.func170 (by kernel_rfl) rfl) (J0q hst hs (by omega) (show ins[m]? = some _ from hty.1) hx8.1 hXl hX)
 rw [if_neg h8, vV h8] at hlen ⊢
 by_cases h3 : k = 3
 ·subst h3
  obtain ⟨w1, w2, w3, w4⟩ := q1 (.inl rfl)
  obtain ⟨x0, hx0⟩ := List.length_eq_one_iff.1 w4
  exact Xt rfl (enters_of Tryz.func160 (by kernel_rfl) rfl) (J0l (hone (by decide) (by decide) x0 hx0 n.toNat (by omega) (by omega) (by omega)))
 have h7 : k = 7 := by omega
 subst h7
 obtain ⟨w1, w2, w3⟩ := q3 rfl
 have hM : W6 7 n ins items (JU items 7 0 ins 0) = QX (JU items 7 0 ins 0) ins.length := by unfold W6; rw [if_pos rfl]
 rw [hM]
 have hrl := VN items 7 0 ins 0
 refine Xt rfl (enters_of Tryz.func167 (by kernel_rfl) rfl) (J0p hst (by omega) w3 (fun s hs => ?_) (yK ht0 (by decide) hs (by omega) (fun i hi => ?_) (hrec (by decide))))
 ·obtain ⟨j, x, h1, rfl⟩ := XS hs
  rw [Nat.zero_add]
  obtain ⟨_, r1, r2, r3⟩ := hrow (by decide) j x h1
  exact WC x _ 0 r2 r3
 ·show i < ins.length
  omega
def XV (t : Ty) (v : Vl) : BS × Int := if Vp t v ≠ 0 then ([], Vp t v) else (KI v t, 0)
theorem Jtk {R : Ji} {t : Ty} {v : Vl} (ht : t.In R) (hv : v.In R) (hw : Yu v ≤ 20000) : PureR Tryz.prog 45 [t.val, v.val].toArray (Yt (XV t v)) R := by
 have h1 := Jnr ht hv
 have h2 := fun h => Jwy hv t 0 ht (Yl (t := t) (v := v) h).1 (Yl h).2 hw
 unfold XV
 generalize Vp t v = e at h1 h2 ⊢
 generalize KI v t = s at h2 ⊢
 obtain ⟨k, n, p, ins⟩ := t
 obtain ⟨a, b, c, d, bits, pb, items, pi, pick⟩ := v
 refine Ja Tryz.func45 rfl rfl fun w => ?_; refine JB ?_; refine Jq 2 rfl ?_; refine LN rfl fun r1 => ?_; refine LN rfl fun r2 => ?_; refine XB 9 [1, 0] rfl rfl ?_; refine Je rfl rfl rfl (enters_of Tryz.func99 (by kernel_rfl) rfl) h1 oR ?_; refine JM 9 rfl ?_; refine cD (fun g => ?_) fun g => ?_
 refine Km 9 rfl ?_; refine Jh rfl rfl (.cons (Jj rfl) (.cons (Jj rfl) .nil)) (fun w1 hs1 => ?_); refine ⟨?_, hs1.keep⟩; rw [if_pos (by omega)]; rfl
 ·refine XA 6 [1, 0] rfl rfl ?_; refine Je rfl rfl rfl Jgx (h2 (by omega)) oR ?_; refine Jy 5 rfl ?_; refine Jh rfl rfl (.cons (Jj rfl) (.cons (Jj rfl) .nil)) (fun w1 hs1 => ?_); refine ⟨?_, hs1.keep⟩; rw [if_neg (by omega)]; rfl
theorem Jhw (l : List Vl) : (qU l).length = l.length := by rw [W7, List.length_map]
theorem Jvk : ∀ l : List Vl, (∀ x ∈ l, Yu (Zl x) = Yu x) → wL (qU l) = wL l
 | [], _ => by rw [qU]
 | x :: xs, h => by rw [qU, wL, wL, h x List.mem_cons_self, Jvk xs fun y hy => h y (List.mem_cons_of_mem _ hy)]
theorem Jy7 (v : Vl) : Yu (Zl v) = Yu v := by
 induction v using Vl.ind with
 | h a b c d bits pb items pi pick ih => rw [Wr, Yu, Yu, Jvk items ih]
theorem Jhx (k pick : Int) (ins : List Ty) : ∀ (l : List Vl), (∀ x ∈ l, ∀ t, KE (Zl x) t = KE x t) → ∀ i : Nat, Q2 (qU l) k pick ins i = Q2 l k pick ins i
 | [], _, i => by rw [qU]
 | x :: xs, h, i => by rw [qU, Q2, Q2, h x List.mem_cons_self, Jhx k pick ins xs fun y hy => h y (List.mem_cons_of_mem _ hy)]
theorem Jwz (k n : Int) (m : Nat) (v : Vl) : zV k n m (Zl v) = zV k n m v := by
 obtain ⟨a, b, c, d, bits, pb, items, pi, pick⟩ := v
 rw [Wr]; rw [Vi k n m a b c d bits none (qU items) none pick _ rfl, Vi k n m a b c d bits pb items pi pick _ rfl]; simp only [QY, Jhw]
theorem Jw0 (v : Vl) : ∀ t, KE (Zl v) t = KE v t := by
 induction v using Vl.ind with
 | h a b c d bits pb items pi pick ih =>
 intro t
 obtain ⟨k, n, p, ins⟩ := t
 have hl := Jhw items
 have ho := Jwz k n ins.length (.mk a b c d bits pb items pi pick)
 rw [Wr] at ho ⊢; rw [KE, KE, hl, Jhx k pick ins items ih, ho]
theorem Jol (t : Ty) : (Yo t).k = t.k := by cases t; rw [Yo]; rfl
theorem Jvl (t : Ty) : (Yo t).n = t.n := by cases t; rw [Yo]; rfl
theorem Jhy (t : Ty) : (Yo t).ins = W8 t.ins := by cases t; rw [Yo]; rfl
theorem erT_def : Yo default = default := by show Yo (.mk 0 0 none []) = .mk 0 0 none []; rw [Yo, W8]
mutual
theorem xy : ∀ (t : Ty) (d : Int), chk (Yo t) d = chk t d
 | .mk k n p ins, d => by rw [Yo, chk, chk, Jcw ins, wb]
theorem Jcw : ∀ (l : List Ty) (d : Int), Xy (W8 l) d = Xy l d
 | [], _ => by rw [W8]
 | x :: xs, d => by rw [W8, Xy, Xy, xy x, Jcw xs]
end
mutual
theorem Jcx : ∀ (t : Ty), WM (Yo t) = WM t
 | .mk k n p ins => by rw [Yo, WM, WM, Jcy ins]
theorem Jcy : ∀ (l : List Ty), jA (W8 l) = jA l
 | [] => by rw [W8]
 | x :: xs => by rw [W8, jA, jA, Jcx x, Jcy xs]
end
mutual
theorem wd : ∀ (t : Ty), KL (Yo t) = KL t
 | .mk k n p ins => by rw [Yo, KL, KL, Jcz ins]
theorem Jcz : ∀ (l : List Ty), VB (W8 l) = VB l
 | [] => by rw [W8]
 | x :: xs => by rw [W8, VB, VB, wd x, Jcz xs]
end
theorem yM (t : Ty) : Vm (Yo t) = Vm t := by unfold Vm; rw [xy, Jcx]
theorem Jom (t : Ty) : wI (Yo t) = wI t := by unfold wI; rw [yM, wd]
theorem Jc0 : ∀ l : List Ty, QZ (l.map Yo) = QZ l
 | [] => rfl
 | x :: xs => by rw [List.map_cons, QZ, QZ, Jom, Jc0 xs]
theorem Jc1 (ins : List Ty) (i : Nat) : (W8 ins).getD i default = Yo (ins.getD i default) := by
 rw [wa, List.getD_eq_getElem?_getD, List.getD_eq_getElem?_getD, List.getElem?_map]
 cases ins[i]? with
 | none => exact erT_def.symm
 | some x => rfl
theorem we (k pick : Int) (ins : List Ty) (i : Nat) : JO k pick (W8 ins) i = Yo (JO k pick ins i) := by unfold JO; exact Jc1 ins _
mutual
theorem Jhz : ∀ (v : Vl) (t : Ty), KE v (Yo t) = KE v t
 | .mk a b c d bits pb items pi pick, .mk k n p ins => by rw [Yo, KE, KE, wb, Jc2 items]
theorem Jc2 : ∀ (l : List Vl) (k pick : Int) (ins : List Ty) (i : Nat), Q2 l k pick (W8 ins) i = Q2 l k pick ins i
 | [], _, _, _, _ => by rw [Q2, Q2]
 | x :: xs, k, pick, ins, i => by rw [Q2, Q2, we, Jhz x, Jc2 xs]
end
theorem Jon (t : Ty) (v : Vl) : Vp (Yo t) v = Vp t v := by unfold Vp; rw [xy, Jhz]
theorem wg (h : Nat) : ∀ (l : List (Ty × BS)) (f th : BS), Zj h (l.map fun p => (Yo p.1, p.2)) f th = Zj h l f th
 | [], f, th => rfl
 | (x, s) :: l, f, th => by rw [List.map_cons, Zj, Zj, yM, wg h l, wg h l]
mutual
theorem Jh0 : ∀ (v : Vl) (t : Ty), Vf v (Yo t) = Vf v t
 | .mk a b c d bits pb items pi pick, t => by
  have h1 : ((KW items t.k pick t.ins 0).map fun p => (Yo p.1, p.2)).headD (default, []) = (fun p : Ty × BS => (Yo p.1, p.2)) ((KW items t.k pick t.ins 0).headD (default, [])) := by
   cases KW items t.k pick t.ins 0 with
   | nil => show (default, []) = (Yo default, []); rw [erT_def]
   | cons x l => rfl
  have h2 : (((KW items t.k pick t.ins 0).map fun p => (Yo p.1, p.2)).map Prod.fst) = ((KW items t.k pick t.ins 0).map Prod.fst).map Yo := by rw [List.map_map, List.map_map]; rfl
  rw [Vf, Vf, Jol, Jvl, Jhy, Jc3 items, wg, h1, h2, Jc0]
theorem Jc3 : ∀ (l : List Vl) (k pick : Int) (ins : List Ty) (i : Nat), KW l k pick (W8 ins) i = (KW l k pick ins i).map fun p => (Yo p.1, p.2)
 | [], _, _, _, _ => by rw [KW, KW]; rfl
 | x :: xs, k, pick, ins, i => by rw [KW, KW, we, Jh0 x, Jc3 xs]; rfl
end
theorem Joo (items : List Vl) (x : Ty) : W5 items (Yo x) = W5 items x := by unfold W5; rw [List.map_congr_left fun v _ => Jh0 v x]
theorem Jop (k n : Int) (ins : List Ty) (items : List Vl) (rs : List BS) : W6 k n (W8 ins) items rs = W6 k n ins items rs := by
 unfold W6 WW
 rw [Jc1, wb, Jol, Joo, wd]
mutual
theorem Jc4 : ∀ (v : Vl) (t : Ty), KI v (Yo t) = KI v t
 | .mk a b c d bits pb items pi pick, t => by rw [KI, KI, Jol, Jvl, Jhy, yN items, Jop]
theorem yN : ∀ (l : List Vl) (k pick : Int) (ins : List Ty) (i : Nat), JU l k pick (W8 ins) i = JU l k pick ins i
 | [], _, _, _, _ => by rw [JU, JU]
 | x :: xs, k, pick, ins, i => by rw [JU, JU, we, Jc4 x, yN xs]
end
theorem Jj9 (t : Ty) (v : Vl) : XV (Yo t) v = XV t v := by unfold XV; rw [Jon, Jc4]
def wh (x : BS × BS) : Vl := KN [wM x.1, wM x.2] 0
def acV (a : AcE) : Vl := KN [wM a.addr, .mk a.nonce 0 0 0 [] none [] none 0, .mk a.bal.a a.bal.b a.bal.c a.bal.d [] none [] none 0, wM a.code, KN (a.slots.map wh) 0] 0
def YI (l : List AcE) : Vl := KN (l.map acV) 0
theorem Jh1 : chk jN 0 = 0 := by decide +kernel
def Qr (l : List AcE) : BS × Int := if KS l ≠ 0 then ([], KS l) else XV jN (YI l)
theorem Vl.In.up {R R' : Ji} {v : Vl} (h : v.In R) (hs : ∀ q ∈ R, q ∈ R') : v.In R' := h.mono hs
theorem Jy8 {s : BS} {r : Nat} {Lr : Ji} (hl : s.length ≤ 100000) (h : (r, Obj.cells (Qu (s.map Z0)).toArray 0 (0, 0)) ∈ Lr) : Vl.In Lr (.mk 0 0 0 0 [] none (s.map Z0) (some (⟨r, 0, none⟩, s.length)) 0) :=
 .mk u0 u0 u0 u0 (by decide) rfl (by rw [List.length_map]; omega) ⟨by rw [List.length_map]; exact Nat.le_refl _, fun _ => ⟨rfl, _, 0, (0, 0), h, by rw [List.drop_zero, List.toList_toArray, List.take_length]⟩⟩ i0 fun x hx => by
  obtain ⟨b, _, rfl⟩ := List.mem_map.1 hx
  exact (Jvi b).mono fun q hq => absurd hq List.not_mem_nil
def Joq {s : BS} (hl : s.length ≤ 100000) : VR (wM s) := ⟨_, [(0, .cells (Qu (s.map Z0)).toArray 0 (0, 0))], Jy8 hl (List.mem_singleton_self _), Jvj s _⟩
theorem Jor {Lr : Ji} {its : List Vl} {r e n : Nat} (h : (r, Obj.cells (Qu its).toArray e (0, 0)) ∈ Lr) (hn : its.length = n) (hl : n ≤ 1000) (hi : ∀ x ∈ its, x.In Lr) : Vl.In Lr (.mk 0 0 0 0 [] none its (some (⟨r, 0, none⟩, n)) 0) :=
 .mk u0 u0 u0 u0 (by decide) rfl (by omega) ⟨Nat.le_of_eq hn, fun _ => ⟨rfl, _, e, (0, 0), h, by rw [List.drop_zero, List.toList_toArray, List.take_length]⟩⟩ i0 hi
theorem Jw1 {us : List Vl} {F yL zL : Ji} {y z : Vl} {rb e : Nat} (hin : ∀ x ∈ us, x.In F) (hy : y.In yL) (hz : z.In zL) {q : Vl} (hq : q ∈ us ++ [Vl.mk 0 0 0 0 [] none [y, z] (some (⟨rb, 0, none⟩, 2)) 0]) : q.In ((rb, Obj.cells (Qu [y, z]).toArray e (0, 0)) :: (zL ++ (yL ++ F))) := by
 rcases List.mem_append.1 hq with hq | hq
 ·exact (hin q hq).mono fun p hp => by simp [hp]
 ·rw [List.mem_singleton.1 hq]
  refine Jor List.mem_cons_self rfl (by decide) fun x hx => ?_; simp only [List.mem_cons, List.not_mem_nil, or_false] at hx
  rcases hx with rfl | rfl
  ·exact hy.mono fun p hp => by simp [hp]
  ·exact hz.mono fun p hp => by simp [hp]
theorem Jw2 {slots : List (BS × BS)} {j : Nat} {us : List Vl} {k v : BS} {y z : Vl} {p : Pl} (her : us.map Zl = (slots.take j).map wh) (hx : slots[j]? = some (k, v)) (hy : Zl y = wM k) (hz : Zl z = wM v) : (us ++ [Vl.mk 0 0 0 0 [] none [y, z] p 0]).map Zl = (slots.take (j + 1)).map wh := by
 rw [List.map_append, her, Zv hx, List.map_append]
 congr 1
 show [Zl _] = [wh (k, v)]
 rw [Wr, W7, List.map_cons, List.map_cons, List.map_nil, hy, hz]; rfl
theorem Jw3 {vs us : List Vl} {E F U yL zL : Ji} {y z : Vl} {rb e nonce ba bb bc bd n : Nat} {p : Pl} (hin : ∀ x ∈ vs, x.In E) (hs : Seg U n (Qu us) p) (hn : us.length = n) (hn2 : n ≤ 100000) (hin2 : ∀ x ∈ us, x.In F) (hnu : VD nonce) (hba : W4.ok ⟨ba, bb, bc, bd⟩) (hy : y.In yL) (hz : z.In zL) {q : Vl}
  (hq : q ∈ vs ++ [Vl.mk 0 0 0 0 [] none [y, .mk nonce 0 0 0 [] none [] none 0, .mk ba bb bc bd [] none [] none 0, z, .mk 0 0 0 0 [] none us p 0] (some (⟨rb, 0, none⟩, 5)) 0]) : q.In ((rb, Obj.cells (Qu [y, .mk nonce 0 0 0 [] none [] none 0, .mk ba bb bc bd [] none [] none 0, z, .mk 0 0 0 0 [] none us p 0]).toArray e (0, 0)) :: (zL ++ (yL ++ (U ++ (F ++ E))))) := by
 rcases List.mem_append.1 hq with hq | hq
 ·exact (hin q hq).mono fun p hp => by simp [hp]
 ·rw [List.mem_singleton.1 hq]
  refine Jor List.mem_cons_self rfl (by decide) fun x hx => ?_; simp only [List.mem_cons, List.not_mem_nil, or_false] at hx
  rcases hx with rfl | rfl | rfl | rfl | rfl
  ·exact hy.mono fun p hp => by simp [hp]
  ·exact .mk hnu u0 u0 u0 (by decide) rfl (by decide) rfl i0 (fun x hx => nomatch hx)
  ·exact .mk hba.a hba.b hba.c hba.d (by decide) rfl (by decide) rfl i0 (fun x hx => nomatch hx)
  ·exact hz.mono fun p hp => by simp [hp]
  ·refine .mk u0 u0 u0 u0 (by decide) rfl (by omega) (by rw [hn]; exact hs.mono fun p hp => by simp [hp]) i0 fun x hx => (hin2 x hx).mono fun p hp => by simp [hp]
theorem Jw4 {accts : List AcL} {i : Nat} {vs us : List Vl} {addr code : BS} {nonce ba bb bc bd : Nat} {slots : List (BS × BS)} {ap p p2 : Pl} {y z : Vl} (her : vs.map Zl = (accts.take i).map fun a => acV a.er) (hx : accts[i]? = some ⟨addr, nonce, ⟨ba, bb, bc, bd⟩, code, slots, ap⟩) (hy : Zl y = wM addr) (hz : Zl z = wM code) (hu : us.map Zl = (slots.take slots.length).map wh) :
  (vs ++ [Vl.mk 0 0 0 0 [] none [y, .mk nonce 0 0 0 [] none [] none 0, .mk ba bb bc bd [] none [] none 0, z, .mk 0 0 0 0 [] none us p 0] p2 0]).map Zl = (accts.take (i + 1)).map fun a => acV a.er := by
 rw [List.map_append, her, Zv hx, List.map_append]
 congr 1
 show [Zl _] = [acV (AcL.er ⟨addr, nonce, ⟨ba, bb, bc, bd⟩, code, slots, ap⟩)]
 rw [List.take_length] at hu; simp only [Wr, W7, List.map_cons, List.map_nil, hy, hz, hu]
 rfl
theorem Jw5 (accts : List AcL) : Vl.mk 0 0 0 0 [] none (accts.map fun a => acV a.er) none 0 = YI (accts.map AcL.er) := by
 unfold YI KN
 rw [List.map_map]; rfl
open Classical in
theorem Jtl {α : Type} (a b : α) (Z Y M U W : List α) : (a :: b :: (Z ++ (Y ++ (M ++ (U ++ W))))).Perm (U ++ (a :: b :: (M ++ (Z ++ (Y ++ W))))) := by
 rw [List.perm_iff_count]; intro x; simp only [List.count_append, List.count_cons]; omega
open Classical in
theorem Jtm {α : Type} (a b : α) (Z Y M U F V E : List α) : (a :: b :: (Z ++ (Y ++ (M ++ (U ++ (F ++ (V ++ E))))))).Perm (V ++ (a :: b :: (M ++ (Z ++ (Y ++ (U ++ (F ++ E))))))) := by
 rw [List.perm_iff_count]; intro x; simp only [List.count_append, List.count_cons]; omega
open Classical in
theorem Jtn {α : Type} (r a b : α) (M Z Y F W : List α) : (r :: a :: b :: (M ++ (Z ++ (Y ++ (F ++ W))))).Perm (a :: (M ++ (r :: ((b :: (Z ++ (Y ++ F))) ++ W)))) := by
 rw [List.perm_iff_count]; intro x; simp only [List.count_append, List.count_cons]; omega
open Classical in
theorem Jto {α : Type} (r a b : α) (M W : List α) : (r :: a :: b :: (M ++ W)).Perm (a :: (M ++ (r :: (b :: W)))) := by
 rw [List.perm_iff_count]; intro x; simp only [List.count_append, List.count_cons]; omega
def Ac1 (a : AcL) : Prop := a.addr.length ≤ 100000 ∧ a.code.length ≤ 100000 ∧ a.slots.length ≤ 100000 ∧ ∀ x ∈ a.slots, x.1.length ≤ 100000 ∧ x.2.length ≤ 100000
set_option maxHeartbeats 2000000 in
theorem Jtp {R : Ji} {accts : List AcL} {p : Pl} (hs : StL.In R ⟨accts, p⟩) (hn : accts.length ≤ 100000) (hb : ∀ a ∈ accts, Ac1 a) : PureT (α := VR (YI (accts.map AcL.er))) Tryz.prog 47 [Kz accts.length p].toArray (fun y => y.x.val) [] (fun y => y.L) R := by
 have hseg : Seg R accts.length (KH accts) p := hs.seg
 refine Ju Tryz.func47 rfl rfl fun w => ?_; refine JB ?_; refine Jq 2 rfl ?_; refine LN rfl fun r1 => ?_; refine JG 4 rfl ?_; refine LN rfl fun r2 => ?_; refine JG 6 rfl ?_; refine LR rfl (J0 rfl hseg rfl) ?_; refine JM 4 rfl ?_; refine Jz (σ := Nat × List Vl × QK × Ji) (fun q => q.1 ≤ accts.length ∧ rowOk 7 q.1 (Qu q.2.1) q.2.2.1 ∧ (∀ x ∈ q.2.1, Vl.In q.2.2.2 x) ∧ q.2.1.map Zl = (accts.take q.1).map fun a => acV a.er) (fun q => [(2, X8 r1), (3, X8 r2), (9, Kz accts.length p), (10, .int .i64 (accts.length : Int)), (11, .int .i64 (q.1 : Int))]) (fun q => (r2, .cells #[.int .u64 0, .int .u64 0, .int .u64 0, .int .u64 0, .slice none 0 0, J9 q.1 q.2.2.1, .int .i64 0] 89 (0, 0)) :: (r1, .cells #[.int .u64 0, .int .u64 0, .int .u64 0, .int .u64 0, .slice none 0 0, .slice none 0 0, .int .i64 0] 89 (0, 0)) :: (JH 89 (Qu q.2.1) q.2.2.1 ++ q.2.2.2)) (fun _ _ _ => True) (fun q => accts.length - q.1) (0, [], none, []) ⟨Nat.zero_le _, ⟨rfl, rfl⟩, fun x hx => (nomatch hx), rfl⟩ (lK rfl) (by simp only [JH, List.nil_append, List.append_nil]; exact List.Sublist.refl _) (fun _ _ h => h) ?_; rintro ⟨i, vs, row, E⟩ ⟨hi1, hrow, hin, her⟩; simp only at hi1 hrow hin her; refine JP 6 rfl ?_; refine cD (fun g => ?_) fun g => ?_
 ·refine JP 5 rfl ?_
  obtain ⟨a, ha, hma⟩ := Q4 (show i < accts.length by omega)
  have ha2 := hs.accts a hma
  obtain ⟨hb1, hb2, hb3, hb4⟩ := hb a hma
  obtain ⟨addr, nonce, ⟨ba, bb, bc, bd⟩, code, slots, ap⟩ := a
  have hnu : VD nonce := ha2.nonce
  have hba : W4.ok ⟨ba, bb, bc, bd⟩ := ha2.bal
  have hsg : Seg R slots.length (Jry slots) ap := ha2.seg
  simp only at hb1 hb2 hb3 hb4; refine Jq 1 rfl ?_
  refine LR rfl (Jr (j := i) rfl hseg rfl rfl rfl (by first | rfl | omega) (by omega)) ?_; refine LR rfl (JZ AcL.len oR rfl hseg ha rfl rfl) ?_; refine LN rfl fun r3 => ?_
  refine LT 0 rfl rfl ?_; refine JG 4 rfl ?_; refine LN rfl fun r4 => ?_; refine XB 7 [1] rfl rfl ?_; refine LR rfl (J0 rfl hsg rfl) ?_; refine JM 4 rfl ?_; refine Jz (σ := Nat × List Vl × QK × Ji) (fun q => q.1 ≤ slots.length ∧ rowOk 7 q.1 (Qu q.2.1) q.2.2.1 ∧ (∀ x ∈ q.2.1, Vl.In q.2.2.2 x) ∧ q.2.1.map Zl = (slots.take q.1).map wh) (fun q => [(2, X8 r1), (3, X8 r2), (5, X8 r3), (6, X8 r4), (9, Kz accts.length p), (10, .int .i64 (accts.length : Int)), (11, .int .i64 (i : Int)), (16, Kz slots.length ap), (17, .int .i64 (slots.length : Int)), (18, .int .i64 (q.1 : Int))]) (fun q => (r4, .cells #[.int .u64 0, .int .u64 0, .int .u64 0, .int .u64 0, .slice none 0 0, J9 q.1 q.2.2.1, .int .i64 0] 89 (0, 0)) :: (r3, .cells #[J6 addr, uV nonce, uV ba, uV bb, uV bc, uV bd, J6 code, Kz slots.length ap] 48 (0, 0)) :: (r2, .cells #[.int .u64 0, .int .u64 0, .int .u64 0, .int .u64 0, .slice none 0 0, J9 i row, .int .i64 0] 89 (0, 0)) :: (r1, .cells #[.int .u64 0, .int .u64 0, .int .u64 0, .int .u64 0, .slice none 0 0, .slice none 0 0, .int .i64 0] 89 (0, 0)) :: (JH 89 (Qu q.2.1) q.2.2.1 ++ (q.2.2.2 ++ (JH 89 (Qu vs) row ++ E)))) (fun _ _ _ => True) (fun q => slots.length - q.1) (0, [], none, []) ⟨Nat.zero_le _, ⟨rfl, rfl⟩, fun x hx => (nomatch hx), rfl⟩ (lK rfl) (by simp only [JH, List.nil_append, List.append_nil]; exact List.Sublist.refl _) (fun _ _ h => h) ?_; rintro ⟨j, us, rw2, F⟩ ⟨hj1, hrow2, hin2, her2⟩; simp only at hj1 hrow2 hin2 her2; refine JP 6 rfl ?_; refine cD (fun g => ?_) fun g => ?_
  ·refine JP 5 rfl ?_
   obtain ⟨⟨k, v⟩, hx, hmx⟩ := Q4 (show j < slots.length by omega)
   obtain ⟨hk1, hv1⟩ := hb4 _ hmx
   simp only at hk1 hv1; refine Jq 1 rfl ?_
   refine LR rfl (Jr (j := j) rfl hsg rfl rfl rfl (by first | rfl | omega) (by omega)) ?_; refine LR rfl (JZ Kf oR rfl hsg hx rfl rfl) ?_; refine LN rfl fun r5 => ?_
   refine LT 0 rfl rfl ?_; refine JM 2 rfl ?_
   refine JN [(r4, .cells #[.int .u64 0, .int .u64 0, .int .u64 0, .int .u64 0, .slice none 0 0, J9 j rw2, .int .i64 0] 89 (0, 0)), (r5, .cells #[J6 k, J6 v] 97 (0, 0))] [(0, .pure), (1, .pure), (2, .pure), (3, .pure), (4, .grow (KY (Joq hk1) (fun y => y.x.val) (fun y => y.L))), (5, .pure), (6, .pure), (7, .grow (KY (Joq hv1) (fun y => y.x.val) (fun y => y.L))), (8, .dep [26, 29] (Jba 2 89)), (9, .pure), (10, .dep [31] (Jba 1 89))] 11 [0, 1, 2, 3, 5, 6, 4, 7, 8, 9, 10] (by kernel_rfl) (by kernel_rfl) (by first | exact (fun _ h => absurd h List.not_mem_nil) | simp [SubS] | (intro p hp; simp [hp])) ?_
   refine Jm (k := 0) rfl rfl rfl rfl rfl (fun _ hS => (JE rfl rfl rfl)) ?_; refine Jm (k := 1) rfl rfl rfl rfl rfl (fun _ hS => (Jd rfl (.inl (hS _ (Jn (n := 0) rfl))) rfl rfl)) ?_
   refine Jm (k := 2) rfl rfl rfl rfl rfl (fun _ hS => (JE rfl rfl rfl)) ?_; refine Jm (k := 3) rfl rfl rfl rfl rfl (fun _ hS => (Jd rfl (.inl (hS _ (Jn (n := 1) rfl))) rfl rfl)) ?_
   refine Jm (k := 5) rfl rfl rfl rfl rfl (fun _ hS => (JE rfl rfl rfl)) ?_; refine Jm (k := 6) rfl rfl rfl rfl rfl (fun _ hS => (Jd rfl (.inl (hS _ (Jn (n := 1) rfl))) rfl rfl)) ?_; refine KR (k := 4) rfl rfl rfl rfl rfl Jgy (xx hk1) oN fun y => ?_
   obtain ⟨⟨ya, yb, yc, yd, ybits, ypb, yitems, ypi, ypick⟩, yL, yok, yer⟩ := y
   refine KR (k := 7) rfl rfl rfl rfl rfl Jgy (xx hv1) oN fun y => ?_
   obtain ⟨⟨za, zb, zc, zd, zbits, zpb, zitems, zpi, zpick⟩, zL, zok, zer⟩ := y
   refine QV (k := 8) (dv := [_, _]) (n := 2) (sz := 7) (vs := [_, _]) (zs := [_, _, _, _, _, _, _, _, _, _, _, _, _, _]) (r := [uV ya, uV yb, uV yc, uV yd, Kz ybits.length ypb, Kz yitems.length ypi, .int .i64 ypick, uV za, uV zb, uV zc, uV zd, Kz zbits.length zpb, Kz zitems.length zpi, .int .i64 zpick]) rfl rfl rfl rfl rfl rfl rfl rfl rfl rfl rfl rfl rfl (by rw [Kh]; exact rfl) rfl fun rb => ?_; refine Jm (k := 9) rfl rfl rfl rfl rfl (fun _ hS => (Js (r := [_, _, _, _, _, _, _]) rfl rfl)) ?_; refine QV (k := 10) (dv := [_]) (n := 1) (sz := 7) (vs := [_]) (zs := [_, _, _, _, _, _, _]) (r := [.int .u64 0, .int .u64 0, .int .u64 0, .int .u64 0, .slice none 0 0, .slice (some ⟨rb, 0, none⟩) 2 2, .int .i64 0]) rfl rfl rfl rfl rfl rfl rfl rfl rfl rfl rfl rfl rfl (by rw [Kh]; exact rfl) rfl fun rc => ?_; refine Kv ?_; refine Kn (Jtl (M := [_, _, _, _, _]) ..) ?_; refine Kq (L0 := _) (xs := Qu us) (row := rw2) (n := j) (sz := 7) (b := 88) (news := [_, _, _, _, _, _, _]) (List.Perm.refl _) rfl rfl rfl rfl (kn 0 rfl) rfl rfl rfl rfl rfl (by decide) rfl rfl rfl (by decide) hrow2 (by omega) (by omega) fun ra cap sp hra => ?_
   refine LS 1 [] rfl rfl ?_; refine Kx (k := 4) (cs' := #[.int .u64 0, .int .u64 0, .int .u64 0, .int .u64 0, .slice none 0 0, J9 (j + 1) (some (ra, cap, sp)), .int .i64 0]) rfl rfl rfl rfl rfl rfl rfl rfl rfl rfl ?_; refine JG 5 rfl ?_; refine J3 (show _ = Value.int .i64 ((j + 1 : Nat) : Int) from by rw [wrap_i64 (by omega) (by omega)]; congr 1 <;> omega) ?_; refine Jy 2 rfl ?_; refine Jw ?_
   have hvc : Qu us ++ Vl.cells (.mk 0 0 0 0 [] none [(.mk ya yb yc yd ybits ypb yitems ypi ypick), (.mk za zb zc zd zbits zpb zitems zpi zpick)] (some (⟨rb, 0, none⟩, 2)) 0) = Qu (us ++ [.mk 0 0 0 0 [] none [(.mk ya yb yc yd ybits ypb yitems ypi ypick), (.mk za zb zc zd zbits zpb zitems zpi zpick)] (some (⟨rb, 0, none⟩, 2)) 0]) := by unfold Qu; rw [List.flatMap_append]; simp
   refine Jcu (Jtn (M := [_, _, _, _, _]) ..) ?_; exact Jt (j + 1, us ++ [.mk 0 0 0 0 [] none [(.mk ya yb yc yd ybits ypb yitems ypi ypick), (.mk za zb zc zd zbits zpb zitems zpi zpick)] (some (⟨rb, 0, none⟩, 2)) 0], some (ra, cap, sp), _ :: (zL ++ (yL ++ F))) ⟨by simp only; omega, by simp only; rw [← hvc]; exact hra, fun z hz => Jw1 hin2 yok zok hz, Jw2 her2 hx yer zer⟩ (by simp only; omega) (lK rfl) (by simp only; rw [← hvc]; exact .cons _ (.cons _ (List.Sublist.refl _))) (fun _ _ h => h)
  ·refine JP 5 rfl ?_
   obtain rfl : j = slots.length := by omega
   have hul : us.length = slots.length := by have := congrArg List.length her2; simpa using this
   have hvr2 : J9 slots.length rw2 = Kz us.length (QC rw2) := by rw [hul]; exact (Wm _ _ (fun h => by rw [h] at hrow2; exact hrow2.1)).symm
   rw [hvr2]
   refine JN [(r2, .cells #[.int .u64 0, .int .u64 0, .int .u64 0, .int .u64 0, .slice none 0 0, J9 i row, .int .i64 0] 89 (0, 0)), (r3, .cells #[J6 addr, uV nonce, uV ba, uV bb, uV bc, uV bd, J6 code, Kz slots.length ap] 48 (0, 0)), (r4, .cells #[.int .u64 0, .int .u64 0, .int .u64 0, .int .u64 0, .slice none 0 0, Kz us.length (QC rw2), .int .i64 0] 89 (0, 0))] [(0, .pure), (1, .pure), (2, .pure), (3, .pure), (4, .grow (KY (Joq hb1) (fun y => y.x.val) (fun y => y.L))), (5, .pure), (6, .pure), (7, .pure), (8, .pure), (9, .pure), (10, .pure), (11, .pure), (12, .pure), (13, .pure), (14, .grow (KY (Joq hb2) (fun y => y.x.val) (fun y => y.L))), (15, .pure), (16, .dep [40, 44, 47, 50, 51] (Jba 5 89)), (17, .pure), (18, .dep [53] (Jba 1 89))] 19 [0, 1, 2, 3, 5, 6, 9, 10, 11, 12, 13, 15, 4, 7, 8, 14, 16, 17, 18] (by kernel_rfl) (by kernel_rfl) (by first | exact (fun _ h => absurd h List.not_mem_nil) | simp [SubS] | (intro p hp; simp [hp])) ?_
   refine Jm (k := 0) rfl rfl rfl rfl rfl (fun _ hS => (JE rfl rfl rfl)) ?_; refine Jm (k := 1) rfl rfl rfl rfl rfl (fun _ hS => (Jd rfl (.inl (hS _ (Jn (n := 0) rfl))) rfl rfl)) ?_
   refine Jm (k := 2) rfl rfl rfl rfl rfl (fun _ hS => (JE rfl rfl rfl)) ?_; refine Jm (k := 3) rfl rfl rfl rfl rfl (fun _ hS => (Jd rfl (.inl (hS _ (Jn (n := 1) rfl))) rfl rfl)) ?_
   refine Jm (k := 5) rfl rfl rfl rfl rfl (fun _ hS => (JE rfl rfl rfl)) ?_; refine Jm (k := 6) rfl rfl rfl rfl rfl (fun _ hS => (Jd rfl (.inl (hS _ (Jn (n := 1) rfl))) rfl rfl)) ?_
   refine Jm (k := 9) rfl rfl rfl rfl rfl (fun _ hS => (JE rfl rfl rfl)) ?_; refine Jm (k := 10) rfl rfl rfl rfl rfl (fun _ hS => (Jp (vs := [_, _, _, _]) rfl (.inl (hS _ (Jn (n := 1) rfl))) rfl rfl rfl rfl)) ?_; refine Jm (k := 11) rfl rfl rfl rfl rfl (fun _ hS => (Js (r := [_, _, _, _, _, _, _]) rfl rfl)) ?_
   refine Jm (k := 12) rfl rfl rfl rfl rfl (fun _ hS => (JE rfl rfl rfl)) ?_; refine Jm (k := 13) rfl rfl rfl rfl rfl (fun _ hS => (Jd rfl (.inl (hS _ (Jn (n := 1) rfl))) rfl rfl)) ?_; refine Jm (k := 15) rfl rfl rfl rfl rfl (fun _ hS => (Jp (vs := [_, _, _, _, _, _, _]) rfl (.inl (hS _ (Jn (n := 2) rfl))) rfl rfl rfl rfl)) ?_; refine KR (k := 4) rfl rfl rfl rfl rfl Jgy (xx hb1) oN fun y => ?_
   obtain ⟨⟨ya, yb, yc, yd, ybits, ypb, yitems, ypi, ypick⟩, yL, yok, yer⟩ := y
   refine Vn (k := 7) rfl rfl rfl rfl rfl qk (V3 _) ?_; refine Jm (k := 8) rfl rfl rfl rfl rfl (fun _ hS => (Js (r := [_, _, _, _, _, _, _]) rfl rfl)) ?_; refine KR (k := 14) rfl rfl rfl rfl rfl Jgy (xx hb2) oN fun y => ?_
   obtain ⟨⟨za, zb, zc, zd, zbits, zpb, zitems, zpi, zpick⟩, zL, zok, zer⟩ := y
   refine QV (k := 16) (dv := [_, _, _, _, _]) (n := 5) (sz := 7) (vs := [_, _, _, _, _]) (zs := [_, _, _, _, _, _, _, _, _, _, _, _, _, _, _, _, _, _, _, _, _, _, _, _, _, _, _, _, _, _, _, _, _, _, _]) (r := [uV ya, uV yb, uV yc, uV yd, Kz ybits.length ypb, Kz yitems.length ypi, .int .i64 ypick, uV nonce, uV 0, uV 0, uV 0, .slice none 0 0, .slice none 0 0, .int .i64 0, uV ba, uV bb, uV bc, uV bd, .slice none 0 0, .slice none 0 0, .int .i64 0, uV za, uV zb, uV zc, uV zd, Kz zbits.length zpb, Kz zitems.length zpi, .int .i64 zpick, uV 0, uV 0, uV 0, uV 0, .slice none 0 0, Kz us.length (QC rw2), .int .i64 0]) rfl rfl rfl rfl rfl rfl rfl rfl rfl rfl rfl rfl rfl (by rw [Kh]; exact rfl) rfl fun rb => ?_; refine Jm (k := 17) rfl rfl rfl rfl rfl (fun _ hS => (Js (r := [_, _, _, _, _, _, _]) rfl rfl)) ?_; refine QV (k := 18) (dv := [_]) (n := 1) (sz := 7) (vs := [_]) (zs := [_, _, _, _, _, _, _]) (r := [.int .u64 0, .int .u64 0, .int .u64 0, .int .u64 0, .slice none 0 0, .slice (some ⟨rb, 0, none⟩) 5 5, .int .i64 0]) rfl rfl rfl rfl rfl rfl rfl rfl rfl rfl rfl rfl rfl (by rw [Kh]; exact rfl) rfl fun rc => ?_; refine Kv ?_; refine Kn (Jtm (M := [_, _, _, _]) ..) ?_; refine Kq (L0 := _) (xs := Qu vs) (row := row) (n := i) (sz := 7) (b := 88) (news := [_, _, _, _, _, _, _]) (List.Perm.refl _) rfl rfl rfl rfl (kn 0 rfl) rfl rfl rfl rfl rfl (by decide) rfl rfl rfl (by decide) hrow (by omega) (by omega) fun ra cap sp hra => ?_
   refine LS 1 [] rfl rfl ?_; refine Kx (k := 5) (cs' := #[.int .u64 0, .int .u64 0, .int .u64 0, .int .u64 0, .slice none 0 0, J9 (i + 1) (some (ra, cap, sp)), .int .i64 0]) rfl rfl rfl rfl rfl rfl rfl rfl rfl rfl ?_; refine JG 5 rfl ?_; refine J3 (show _ = Value.int .i64 ((i + 1 : Nat) : Int) from by rw [wrap_i64 (by omega) (by omega)]; congr 1 <;> omega) ?_; refine Jy 2 rfl ?_; refine Jw ?_
   have hvc : Qu vs ++ Vl.cells (.mk 0 0 0 0 [] none [(.mk ya yb yc yd ybits ypb yitems ypi ypick), (.mk nonce 0 0 0 [] none [] none 0), (.mk ba bb bc bd [] none [] none 0), (.mk za zb zc zd zbits zpb zitems zpi zpick), .mk 0 0 0 0 [] none us (QC rw2) 0] (some (⟨rb, 0, none⟩, 5)) 0) = Qu (vs ++ [.mk 0 0 0 0 [] none [(.mk ya yb yc yd ybits ypb yitems ypi ypick), (.mk nonce 0 0 0 [] none [] none 0), (.mk ba bb bc bd [] none [] none 0), (.mk za zb zc zd zbits zpb zitems zpi zpick), .mk 0 0 0 0 [] none us (QC rw2) 0] (some (⟨rb, 0, none⟩, 5)) 0]) := by unfold Qu; rw [List.flatMap_append]; simp
   refine Jcu (Jto (M := [_, _, _, _]) ..) ?_; exact Jt (i + 1, vs ++ [.mk 0 0 0 0 [] none [(.mk ya yb yc yd ybits ypb yitems ypi ypick), (.mk nonce 0 0 0 [] none [] none 0), (.mk ba bb bc bd [] none [] none 0), (.mk za zb zc zd zbits zpb zitems zpi zpick), .mk 0 0 0 0 [] none us (QC rw2) 0] (some (⟨rb, 0, none⟩, 5)) 0], some (ra, cap, sp), _ :: (zL ++ (yL ++ (_ ++ (F ++ E))))) ⟨by simp only; omega, by simp only; rw [← hvc]; exact hra, fun z hz => Jw3 hin (Ku hrow2 (by decide)) hul hb3 hin2 hnu hba yok zok hz, Jw4 her ha yer zer her2⟩ (by simp only; omega) (lK rfl) (by simp only; rw [← hvc]; exact .cons _ (.cons _ (.cons _ (List.Sublist.refl _)))) (fun _ _ h => h)
 ·refine JP 6 rfl ?_
  have honeV : ([.int .u64 0, .int .u64 0, .int .u64 0, .int .u64 0, .slice none 0 0, J9 i row, .int .i64 0] : List Value).all Qt = true := by cases row <;> rfl
  refine Jq 1 rfl ?_; refine LR rfl (Jf (xs := [.int .u64 0, .int .u64 0, .int .u64 0, .int .u64 0, .slice none 0 0, J9 i row, .int .i64 0]) (n := 7) rfl (kn 0 rfl) rfl rfl rfl) ?_; refine Jk (k := 1) (n := 7) (ys := [.int .u64 0, .int .u64 0, .int .u64 0, .int .u64 0, .slice none 0 0, J9 i row, .int .i64 0]) rfl rfl rfl rfl rfl rfl rfl honeV rfl ?_; refine Jy 3 rfl ?_; refine Jh rfl rfl (.cons (J2 (vs := [_, _, _, _, _, _, _]) rfl (kn 1 rfl) rfl rfl) .nil) (fun w1 hs1 => ?_)
  have hiM : i = accts.length := by omega
  have hvl : vs.length = i := by have := congrArg List.length her; simp at this; omega
  rw [hiM, List.take_length] at her; rw [← hvl] at hrow
  have hvr : J9 i row = Kz vs.length (QC row) := by rw [← hvl]; exact (Wm _ _ (fun h => by rw [h] at hrow; exact hrow.1)).symm
  exact ⟨⟨.mk 0 0 0 0 [] none vs (QC row) 0, JH 89 (Qu vs) row ++ E, Jct (by omega) (Ku hrow (by decide)) hin i0, by rw [Wr, W7, her]; exact Jw5 ..⟩, congrArg (fun z => Ending.returned (Value.agg #[.int .u64 0, .int .u64 0, .int .u64 0, .int .u64 0, .slice none 0 0, z, .int .i64 0])) hvr, hs1.weakL (.cons _ (.cons _ (List.Sublist.refl _)))⟩
def vA (x : AcL) : Value := .agg (AcL.cells x).toArray
theorem xz (x : AcL) : Pure Tryz.prog 98 [vA x].toArray (J6 (AcL.addr x)) := by
 refine Jl Tryz.func98 rfl rfl fun w => ?_; refine JB ?_; refine Jq 2 rfl ?_; refine LN rfl fun r1 => ?_; refine Goq 11 [0] rfl rfl ?_; refine pT rfl rfl rfl fun w1 hs1 => ?_; exact ⟨rfl, hs1.keep⟩
theorem Jos {R : Ji} {xs : List AcL} {p : Pl} (hl : xs.length ≤ 9223372036854775807) (hs : Seg R xs.length (xs.flatMap AcL.cells) p) {g : FuncId} {caps : List Value} {pr : AcL → Bool} (eg : Enters Tryz.prog g) (hg : ∀ x ∈ xs, PureR Tryz.prog g (vA x :: caps).toArray (.bool (pr x)) R) :
  PureR Tryz.prog 42 [Kz xs.length p, .func (.func g) #[] caps.toArray].toArray (.int .i64 (Yf pr xs)) R := by
 refine Ja Tryz.func42 rfl rfl fun w => ?_; refine JB ?_; refine Jq 9 rfl ?_; refine LR rfl (J0 rfl hs rfl) ?_; refine JM 4 rfl ?_; refine Jz (σ := Nat) (fun i => i ≤ xs.length ∧ ∀ j, j < i → ∀ y, xs[j]? = some y → pr y = false) (fun i => [(0, Kz xs.length p), (1, .func (.func g) #[] caps.toArray), (7, .int .i64 (xs.length : Int)), (8, .int .i64 (i : Int))]) (fun _ => []) (fun _ _ _ => True) (fun i => xs.length - i) 0 ⟨by omega, fun j hj => absurd hj (by omega)⟩ (lK rfl) (List.nil_sublist _) (fun _ _ h => h) ?_; rintro i ⟨hi1, hinv⟩; refine JP 6 rfl ?_; refine cD (fun h6 => ?_) fun h6 => ?_
 refine JP 11 rfl ?_
 obtain ⟨x, hx, hmx⟩ := Q4 (show i < xs.length by omega)
 refine Jq 4 rfl ?_
 refine LR rfl (Jr (j := i) rfl hs rfl rfl rfl (by first | rfl | omega) (by omega)) ?_; refine LR rfl (JZ AcL.len oR rfl hs hx rfl rfl) ?_; refine Je rfl rfl rfl eg (hg x hmx) oR ?_; refine JM 2 rfl ?_; refine cD (fun h10 => ?_) fun h10 => ?_
 refine Km 12 rfl ?_; refine pT rfl rfl rfl fun w1 hs1 => ?_; refine ⟨?_, hs1.keep⟩; rw [Jbp hx (by assumption) hinv]; rfl
 refine Jq 5 rfl ?_; refine Jc (by omega) (by omega) ?_; refine Jy 2 rfl ?_; refine Jw ?_
 exact Jt (i + 1) ⟨by omega, fun j hj y hy => by
  rcases Nat.lt_succ_iff_lt_or_eq.1 hj with hj | rfl
  exact hinv j hj y hy
  rw [hx] at hy; cases hy; assumption⟩ (by omega) (lK rfl) (List.nil_sublist _) (fun _ _ h => h)
 ·refine Km 11 rfl ?_; refine pT rfl rfl rfl fun w1 hs1 => ?_; refine ⟨?_, hs1.keep⟩; rw [Jbo fun j x hx => hinv j (by have := (List.getElem?_eq_some_iff.1 hx).1; omega) x hx]; rfl
theorem Jot {R : Ji} {xs : List AcL} {p : Pl} (hl : xs.length ≤ 9223372036854775807) (hs : Seg R xs.length (xs.flatMap AcL.cells) p) :
  PureR Tryz.prog 97 [Kz xs.length p, fV 98].toArray (.bool (Q9 AcL.addr xs)) R := by
 refine Ja Tryz.func97 rfl rfl fun w => ?_; refine JB ?_; refine JP 12 rfl ?_; refine Jz (σ := Nat) (fun i => (i = 0 ∨ i < xs.length) ∧ ∀ j x y, j < i → xs[j]? = some x → xs[j + 1]? = some y → Op.bytesLess (AcL.addr x) (AcL.addr y) = true) (fun i => [(0, Kz xs.length p), (1, fV 98), (5, .int .i64 ((i + 1 : Nat) : Int))]) (fun _ => []) (fun _ _ _ => True) (fun i => xs.length - i) 0 ⟨.inl rfl, fun j _ _ hj => absurd hj (by omega)⟩ (lK rfl) (List.nil_sublist _) (fun _ _ h => h) ?_; rintro i ⟨hi1, hinv⟩; refine Jq 5 rfl ?_; refine LR rfl (J0 rfl hs rfl) ?_; refine JM 3 rfl ?_; refine cD (fun g => ?_) fun g => ?_
 refine JP 5 rfl ?_
 obtain ⟨x, hx, hmx⟩ := Q4 (show i < xs.length by omega)
 obtain ⟨y, hy, hmy⟩ := Q4 (show i + 1 < xs.length by omega)
 refine JJ 14 (by kernel_rfl) (by kernel_rfl) ?_; refine Jb rfl rfl rfl (Jg rfl) ?_; refine Jb rfl rfl rfl (Jg rfl) ?_; refine Jb rfl rfl rfl (Jg rfl) ?_; refine Jb rfl rfl rfl (Jv rfl rfl rfl) ?_; refine Vw (by omega) (by omega) ?_
 refine Jb rfl rfl rfl (Jr (j := i) rfl hs rfl rfl rfl (by first | rfl | omega) (by omega)) ?_; refine Jb rfl rfl rfl (JZ AcL.len oR rfl hs hx rfl rfl) ?_; refine Ky rfl rfl rfl Jsj (xz x) ?_; refine Jb rfl rfl rfl (Jg rfl) ?_; refine Jb rfl rfl rfl (Jg rfl) ?_; refine Jb rfl rfl rfl (Jg rfl) ?_
 refine Jb rfl rfl rfl (Jr (j := (i + 1)) rfl hs rfl rfl rfl (by first | rfl | omega) (by omega)) ?_; refine Jb rfl rfl rfl (JZ AcL.len oR rfl hs hy rfl rfl) ?_; refine Ky rfl rfl rfl Jsj (xz y) ?_; refine Jb rfl rfl rfl (Jgo rfl rfl) ?_; refine JW ?_; refine JM 2 rfl ?_; refine cD (fun g => ?_) fun g => ?_
 refine Km 11 rfl ?_; refine pT rfl rfl rfl fun w1 hs1 => ?_; refine ⟨?_, hs1.keep⟩; rw [jf hx hy (by simp_all)]; rfl
 refine Jq 6 rfl ?_; refine Jc (by omega) (by omega) ?_; refine Jy 2 rfl ?_; refine Jw ?_
 exact Jt (i + 1) ⟨.inr (by omega), fun j u v hj hu hv => by
  rcases Nat.lt_succ_iff_lt_or_eq.1 hj with hj | rfl
  exact hinv j u v hj hu hv
  rw [hx] at hu; rw [hy] at hv; cases hu; cases hv; simp_all⟩ (by omega) (lK rfl) (List.nil_sublist _) (fun _ _ h => h)
 ·refine Km 11 rfl ?_; refine pT rfl rfl rfl fun w1 hs1 => ?_; refine ⟨?_, hs1.keep⟩; rw [YV fun j u v hu hv => hinv j u v (by have := (List.getElem?_eq_some_iff.1 hv).1; omega) hu hv]; rfl
def vS (x : (BS × BS)) : Value := .agg (Qw x).toArray
theorem xA (x : (BS × BS)) : Pure Tryz.prog 156 [vS x].toArray (J6 (Prod.fst x)) := by
 refine Jl Tryz.func156 rfl rfl fun w => ?_; refine JB ?_; refine Jq 2 rfl ?_; refine LN rfl fun r1 => ?_; refine Goq 11 [0] rfl rfl ?_; refine pT rfl rfl rfl fun w1 hs1 => ?_; exact ⟨rfl, hs1.keep⟩
theorem Jc5 {R : Ji} {xs : List (BS × BS)} {p : Pl} (hl : xs.length ≤ 9223372036854775807) (hs : Seg R xs.length (xs.flatMap Qw) p) {g : FuncId} {caps : List Value} {pr : (BS × BS) → Bool} (eg : Enters Tryz.prog g) (hg : ∀ x ∈ xs, PureR Tryz.prog g (vS x :: caps).toArray (.bool (pr x)) R) :
  PureR Tryz.prog 114 [Kz xs.length p, .func (.func g) #[] caps.toArray].toArray (.int .i64 (Yf pr xs)) R := by
 refine Ja Tryz.func114 rfl rfl fun w => ?_; refine JB ?_; refine Jq 9 rfl ?_; refine LR rfl (J0 rfl hs rfl) ?_; refine JM 4 rfl ?_; refine Jz (σ := Nat) (fun i => i ≤ xs.length ∧ ∀ j, j < i → ∀ y, xs[j]? = some y → pr y = false) (fun i => [(0, Kz xs.length p), (1, .func (.func g) #[] caps.toArray), (7, .int .i64 (xs.length : Int)), (8, .int .i64 (i : Int))]) (fun _ => []) (fun _ _ _ => True) (fun i => xs.length - i) 0 ⟨by omega, fun j hj => absurd hj (by omega)⟩ (lK rfl) (List.nil_sublist _) (fun _ _ h => h) ?_; rintro i ⟨hi1, hinv⟩; refine JP 6 rfl ?_; refine cD (fun h6 => ?_) fun h6 => ?_
 refine JP 11 rfl ?_
 obtain ⟨x, hx, hmx⟩ := Q4 (show i < xs.length by omega)
 refine Jq 4 rfl ?_
 refine LR rfl (Jr (j := i) rfl hs rfl rfl rfl (by first | rfl | omega) (by omega)) ?_; refine LR rfl (JZ Kf oR rfl hs hx rfl rfl) ?_; refine Je rfl rfl rfl eg (hg x hmx) oR ?_; refine JM 2 rfl ?_; refine cD (fun h10 => ?_) fun h10 => ?_
 refine Km 12 rfl ?_; refine pT rfl rfl rfl fun w1 hs1 => ?_; refine ⟨?_, hs1.keep⟩; rw [Jbp hx (by assumption) hinv]; rfl
 refine Jq 5 rfl ?_; refine Jc (by omega) (by omega) ?_; refine Jy 2 rfl ?_; refine Jw ?_
 exact Jt (i + 1) ⟨by omega, fun j hj y hy => by
  rcases Nat.lt_succ_iff_lt_or_eq.1 hj with hj | rfl
  exact hinv j hj y hy
  rw [hx] at hy; cases hy; assumption⟩ (by omega) (lK rfl) (List.nil_sublist _) (fun _ _ h => h)
 ·refine Km 11 rfl ?_; refine pT rfl rfl rfl fun w1 hs1 => ?_; refine ⟨?_, hs1.keep⟩; rw [Jbo fun j x hx => hinv j (by have := (List.getElem?_eq_some_iff.1 hx).1; omega) x hx]; rfl
theorem Jou {R : Ji} {xs : List (BS × BS)} {p : Pl} (hl : xs.length ≤ 9223372036854775807) (hs : Seg R xs.length (xs.flatMap Qw) p) :
  PureR Tryz.prog 155 [Kz xs.length p, fV 156].toArray (.bool (Q9 Prod.fst xs)) R := by
 refine Ja Tryz.func155 rfl rfl fun w => ?_; refine JB ?_; refine JP 12 rfl ?_; refine Jz (σ := Nat) (fun i => (i = 0 ∨ i < xs.length) ∧ ∀ j x y, j < i → xs[j]? = some x → xs[j + 1]? = some y → Op.bytesLess (Prod.fst x) (Prod.fst y) = true) (fun i => [(0, Kz xs.length p), (1, fV 156), (5, .int .i64 ((i + 1 : Nat) : Int))]) (fun _ => []) (fun _ _ _ => True) (fun i => xs.length - i) 0 ⟨.inl rfl, fun j _ _ hj => absurd hj (by omega)⟩ (lK rfl) (List.nil_sublist _) (fun _ _ h => h) ?_; rintro i ⟨hi1, hinv⟩; refine Jq 5 rfl ?_; refine LR rfl (J0 rfl hs rfl) ?_; refine JM 3 rfl ?_; refine cD (fun g => ?_) fun g => ?_
 refine JP 5 rfl ?_
 obtain ⟨x, hx, hmx⟩ := Q4 (show i < xs.length by omega)
 obtain ⟨y, hy, hmy⟩ := Q4 (show i + 1 < xs.length by omega)
 refine JJ 14 (by kernel_rfl) (by kernel_rfl) ?_; refine Jb rfl rfl rfl (Jg rfl) ?_; refine Jb rfl rfl rfl (Jg rfl) ?_; refine Jb rfl rfl rfl (Jg rfl) ?_; refine Jb rfl rfl rfl (Jv rfl rfl rfl) ?_; refine Vw (by omega) (by omega) ?_
 refine Jb rfl rfl rfl (Jr (j := i) rfl hs rfl rfl rfl (by first | rfl | omega) (by omega)) ?_; refine Jb rfl rfl rfl (JZ Kf oR rfl hs hx rfl rfl) ?_; refine Ky rfl rfl rfl Jgz (xA x) ?_; refine Jb rfl rfl rfl (Jg rfl) ?_; refine Jb rfl rfl rfl (Jg rfl) ?_; refine Jb rfl rfl rfl (Jg rfl) ?_
 refine Jb rfl rfl rfl (Jr (j := (i + 1)) rfl hs rfl rfl rfl (by first | rfl | omega) (by omega)) ?_; refine Jb rfl rfl rfl (JZ Kf oR rfl hs hy rfl rfl) ?_; refine Ky rfl rfl rfl Jgz (xA y) ?_; refine Jb rfl rfl rfl (Jgo rfl rfl) ?_; refine JW ?_; refine JM 2 rfl ?_; refine cD (fun g => ?_) fun g => ?_
 refine Km 11 rfl ?_; refine pT rfl rfl rfl fun w1 hs1 => ?_; refine ⟨?_, hs1.keep⟩; rw [jf hx hy (by simp_all)]; rfl
 refine Jq 6 rfl ?_; refine Jc (by omega) (by omega) ?_; refine Jy 2 rfl ?_; refine Jw ?_
 exact Jt (i + 1) ⟨.inr (by omega), fun j u v hj hu hv => by
  rcases Nat.lt_succ_iff_lt_or_eq.1 hj with hj | rfl
  exact hinv j u v hj hu hv
  rw [hx] at hu; rw [hy] at hv; cases hu; cases hv; simp_all⟩ (by omega) (lK rfl) (List.nil_sublist _) (fun _ _ h => h)
 ·refine Km 11 rfl ?_; refine pT rfl rfl rfl fun w1 hs1 => ?_; refine ⟨?_, hs1.keep⟩; rw [YV fun j u v hu hv => hinv j u v (by have := (List.getElem?_eq_some_iff.1 hv).1; omega) hu hv]; rfl
theorem Jtq (a : BS) : (!decide (a = a)) = false := by simp
theorem Jh2 (a : BS) : Pure Tryz.prog 126 [J6 a].toArray (.bool false) := by
 refine Jl Tryz.func126 rfl rfl fun w => ?_; refine JB ?_; refine Jq 9 rfl ?_; refine LR rfl (Jf3 rfl rfl) ?_; refine J3 (congrArg Value.bool (Jtq a)) ?_; refine Jy 4 rfl ?_; refine pT rfl rfl rfl fun w1 hs1 => ?_; exact ⟨rfl, hs1.keep⟩
theorem yO (a b : BS) : Pure Tryz.prog 76 [J6 a, J6 b].toArray (.int .i64 (XK a b)) := by
 refine Jl Tryz.func76 rfl rfl fun w => ?_; refine JB ?_; refine Jq 8 rfl ?_; refine Jo rfl rfl rfl (enters_of Tryz.func126 (by kernel_rfl) rfl) (Jh2 a) ?_; refine JG 6 rfl ?_; refine Jo rfl rfl rfl (enters_of Tryz.func126 (by kernel_rfl) rfl) (Jh2 b) ?_; refine JM 9 rfl ?_; refine J1 rfl (fun g => ?_) (fun g => ?_)
 try exact Bool.noConfusion g
 ·try simp only [ZZ] at g
  refine JP 8 rfl ?_; refine J1 rfl (fun g => ?_) (fun g => ?_)
  try exact Bool.noConfusion g
  ·try simp only [ZZ] at g
   refine Jq 7 rfl ?_; refine LR rfl (Jrd rfl rfl) ?_; refine JM 2 rfl ?_; refine cD (fun g => ?_) fun g => ?_
   refine Km 7 rfl ?_; refine pT rfl rfl rfl fun w1 hs1 => ?_; refine ⟨?_, hs1.keep⟩
   unfold XK
   simp_all [J8]
   ·refine Jq 7 rfl ?_; refine LR rfl (Jr2 rfl rfl) ?_; refine JM 2 rfl ?_; refine cD (fun g => ?_) fun g => ?_
    refine Km 7 rfl ?_; refine pT rfl rfl rfl fun w1 hs1 => ?_; refine ⟨?_, hs1.keep⟩
    unfold XK
    simp_all [J8]
    ·refine Km 8 rfl ?_; refine pT rfl rfl rfl fun w1 hs1 => ?_; refine ⟨?_, hs1.keep⟩
     unfold XK
     simp_all [J8]
theorem Jov : Lib.repeatL [0] 32 = Vg := by decide +kernel
theorem Jow : Pure Tryz.prog 116 [].toArray (J6 Vg) := by
 rw [← Jov]; refine Jl Tryz.func116 rfl rfl fun w => ?_; refine JB ?_; refine Jq 7 rfl ?_; refine Jo rfl rfl rfl (enters_of Tryz.func189 (by kernel_rfl) rfl) (yB (n := 32) (by decide)) ?_; refine Jy 4 rfl ?_; refine pT rfl rfl rfl fun w1 hs1 => ?_; exact ⟨rfl, hs1.keep⟩
theorem Jy9 {R : Ji} {rb e : Nat} (hb : (rb, Obj.cells #[fV 98] e (0, 0)) ∈ R) (x : AcL) (k : BS) : PureR Tryz.prog 351 [vA x, J6 k, .pointer (some ⟨rb, 0, none⟩)].toArray (.int .i64 (XK (AcL.addr x) k)) R := by
 refine Ja Tryz.func351 rfl rfl fun w => ?_; refine JB ?_; refine Jq 2 rfl ?_; refine LN rfl fun r1 => ?_; refine JG 5 rfl ?_; refine LR rfl (Jd rfl (Or.inr hb) rfl rfl) ?_; refine LR rfl (Jp (vs := [_, _, _, _, _, _, _, _]) rfl (kn 0 rfl) rfl rfl rfl rfl) ?_; refine Jo rfl rfl rfl Jsj (xz x) ?_; refine QI rfl (Jo rfl rfl rfl (enters_of Tryz.func76 (by kernel_rfl) rfl) (yO (AcL.addr x) k) (Jy 4 rfl ?_)); refine pT rfl rfl rfl fun w1 hs1 => ?_; exact ⟨rfl, hs1.keep⟩
theorem Jka {R : Ji} {xs : List AcL} {p : Pl} (hl : xs.length ≤ 1000) (hs : Seg R xs.length (xs.flatMap AcL.cells) p) (hso : Ks AcL.addr xs) {k : BS} {g : FuncId} {caps : List Value} (eg : Enters Tryz.prog g) (hg : ∀ x ∈ xs, PureR Tryz.prog g (vA x :: J6 k :: caps).toArray (.int .i64 (XK (AcL.addr x) k)) R) :
  PureR Tryz.prog 350 [Kz xs.length p, J6 k, .func (.func g) #[] caps.toArray].toArray (.tuple #[.int .i64 (Zz AcL.addr k xs : Nat), .bool (Vv AcL.addr k xs)]) R := by
 refine Ja Tryz.func350 rfl rfl fun w => ?_; refine JB ?_; refine Jq 9 rfl ?_; refine LR rfl (J0 rfl hs rfl) ?_; refine JM 12 rfl ?_; refine Jz (σ := Nat × Nat) (fun s => (s.1 ≤ s.2 ∧ s.2 ≤ xs.length) ∧ (∀ q y, q < s.1 → xs[q]? = some y → Op.bytesLess (AcL.addr y) k = true) ∧ ∀ q y, s.2 ≤ q → xs[q]? = some y → Op.bytesLess (AcL.addr y) k = false) (fun s => [(0, Kz xs.length p), (1, J6 k), (2, .func (.func g) #[] caps.toArray), (8, .int .i64 (xs.length : Int)), (9, .int .i64 (s.1 : Int)), (10, .int .i64 (s.2 : Int))]) (fun _ => []) (fun _ _ _ => True) (fun s => s.2 - s.1) (0, xs.length) ⟨⟨Nat.zero_le _, Nat.le_refl _⟩, fun q _ hq => absurd hq (Nat.not_lt_zero q), fun q y hq hy => absurd (List.getElem?_eq_some_iff.1 hy).1 (by omega)⟩ (lK rfl) (List.nil_sublist _) (fun _ _ h => h) ?_; rintro ⟨i, j⟩ ⟨⟨hi0, hj0⟩, hi1, hi2⟩; simp only at hi0 hj0 hi1 hi2; change HC _ _ [(0, _), (1, _), (2, _), (8, _), (9, .int .i64 (i : Int)), (10, .int .i64 (j : Int))] _ _ _ _; refine JP 8 rfl ?_; refine cD (fun h7 => ?_) fun h7 => ?_
 refine Jq 8 rfl ?_; refine Jc (by omega) (by omega) ?_; refine Wi rfl (VW (by omega) (by omega) (LR rfl (vh (n := 1) (b := (((i + j) / 2 : Nat) : Int)) rfl rfl rfl (by decide) (by omega) (by omega)) ?_)); refine Wi rfl (Jc (by omega) (by omega) (JM 4 rfl ?_))
 obtain ⟨x, hx, hmx⟩ := Q4 (show (i + j) / 2 < xs.length by omega)
 refine Jq 4 rfl ?_
 refine LR rfl (Jr (j := ((i + j) / 2)) rfl hs rfl rfl rfl (by first | rfl | omega) (by omega)) ?_; refine LR rfl (JZ AcL.len oR rfl hs hx rfl rfl) ?_; refine QI rfl (Je rfl rfl rfl eg (hg x hmx) oR ?_); refine Wi rfl (J3 (congrArg Value.bool (qO (AcL.addr x) k)) (JM 2 rfl ?_)); refine cD (fun h10 => ?_) fun h10 => ?_
 refine Jq 3 rfl ?_; refine Jc (by omega) (by omega) ?_; refine Jy 3 rfl ?_; refine Jw ?_; exact Jt ((i + j) / 2 + 1, j) ⟨⟨by simp only; omega, hj0⟩, Jbs hso hx (by assumption), hi2⟩ (by simp only; omega) (lK rfl) (List.nil_sublist _) (fun _ _ h => h)
 refine Km 5 rfl ?_; refine Jw ?_; exact Jt (i, (i + j) / 2) ⟨⟨by simp only; omega, by simp only; omega⟩, hi1, Jbt hso hx (by assumption)⟩ (by simp only; omega) (lK rfl) (List.nil_sublist _) (fun _ _ h => h)
 ·refine JP 6 rfl ?_
  have hij : i = j := by omega
  have hlo : i = Zz AcL.addr k xs := Jmq (by omega) hi1 (fun y hy => hi2 i y (by omega) hy)
  refine Jq 6 rfl ?_
  refine J7 39 rfl (fun gb => ?_) (fun gb => ?_) <;> (try simp only [ZZ] at gb) <;> first | (refine QI rfl ?_) | (refine LK rfl ?_)
  all_goals refine LW 2 [] rfl rfl ?_
  all_goals first | (obtain ⟨x, hx, hmx⟩ := Q4 (show i < xs.length by omega); refine LR rfl (Jr (j := i) rfl hs rfl rfl rfl (by first | rfl | omega) (by omega)) ?_) | refine LK rfl ?_
  all_goals first | refine LR rfl (JZ AcL.len oR rfl hs hx rfl rfl) ?_ | refine LK rfl ?_
  all_goals refine LW 1 [] rfl rfl ?_
  all_goals first | refine Je rfl rfl rfl eg (hg x hmx) oR ?_ | refine LK rfl ?_
  all_goals first | (refine Wi rfl ?_; refine J3 (congrArg Value.bool (Jbr (AcL.addr x) k)) ?_) | refine LK rfl ?_
  all_goals (
   refine LW 1 [] rfl rfl (Jy 3 rfl (Zx 2 rfl ?_)); refine Jh rfl rfl (.cons (Jj rfl) (.cons (Jj rfl) .nil)) (fun w1 hs1 => ?_); refine ⟨?_, hs1.keep⟩
   first | (rw [← Jbu (kf := AcL.addr) (hlo ▸ hx), ← hlo]; rfl) | (rw [jJ (kf := AcL.addr) (by omega), ← hlo]; rfl)
   skip)
theorem Jox {R : Ji} {xs : List AcL} {p : Pl} (hl : xs.length ≤ 1000) (hs : Seg R xs.length (xs.flatMap AcL.cells) p) (hso : Ks AcL.addr xs) {k : BS} :
  PureR Tryz.prog 322 [Kz xs.length p, J6 k, fV 98].toArray (.tuple #[.int .i64 (Zz AcL.addr k xs : Nat), .bool (Vv AcL.addr k xs)]) R := by
 refine Ja Tryz.func322 rfl rfl fun w => ?_; refine JB ?_; refine Jq 2 rfl ?_; refine LN rfl fun r1 => ?_; refine JG 8 rfl ?_; refine LR rfl (JD rfl rfl) ?_; refine Je (Rl := (r1, Obj.cells #[fV 98] _ (0, 0)) :: R) rfl rfl rfl (enters_of Tryz.func350 (by kernel_rfl) rfl) (Jka (caps := [.pointer (some ⟨r1, 0, none⟩)]) hl (hs.mono fun q hq => List.mem_cons_of_mem _ hq) hso (enters_of Tryz.func351 (by kernel_rfl) rfl) (fun x hx => Jy9 List.mem_cons_self x k)) (fun q hq => (List.mem_cons.1 hq).elim (fun h => Or.inl (by rw [h]; exact List.mem_cons_self)) Or.inr) ?_; refine Jy 7 rfl ?_; refine Jh rfl rfl (.cons (Jj rfl) (.cons (Jj rfl) .nil)) (fun w1 hs1 => ?_); exact ⟨rfl, hs1.keep⟩
theorem Jza {R : Ji} {rb e : Nat} (hb : (rb, Obj.cells #[fV 156] e (0, 0)) ∈ R) (x : (BS × BS)) (k : BS) : PureR Tryz.prog 355 [vS x, J6 k, .pointer (some ⟨rb, 0, none⟩)].toArray (.int .i64 (XK (Prod.fst x) k)) R := by
 refine Ja Tryz.func355 rfl rfl fun w => ?_; refine JB ?_; refine Jq 2 rfl ?_; refine LN rfl fun r1 => ?_; refine JG 5 rfl ?_; refine LR rfl (Jd rfl (Or.inr hb) rfl rfl) ?_; refine LR rfl (Jp (vs := [_, _]) rfl (kn 0 rfl) rfl rfl rfl rfl) ?_; refine Jo rfl rfl rfl Jgz (xA x) ?_; refine QI rfl (Jo rfl rfl rfl (enters_of Tryz.func76 (by kernel_rfl) rfl) (yO (Prod.fst x) k) (Jy 4 rfl ?_)); refine pT rfl rfl rfl fun w1 hs1 => ?_; exact ⟨rfl, hs1.keep⟩
theorem Jkb {R : Ji} {xs : List (BS × BS)} {p : Pl} (hl : xs.length ≤ 1000) (hs : Seg R xs.length (xs.flatMap Qw) p) (hso : Ks Prod.fst xs) {k : BS} {g : FuncId} {caps : List Value} (eg : Enters Tryz.prog g) (hg : ∀ x ∈ xs, PureR Tryz.prog g (vS x :: J6 k :: caps).toArray (.int .i64 (XK (Prod.fst x) k)) R) :
  PureR Tryz.prog 354 [Kz xs.length p, J6 k, .func (.func g) #[] caps.toArray].toArray (.tuple #[.int .i64 (Zz Prod.fst k xs : Nat), .bool (Vv Prod.fst k xs)]) R := by
 refine Ja Tryz.func354 rfl rfl fun w => ?_; refine JB ?_; refine Jq 9 rfl ?_; refine LR rfl (J0 rfl hs rfl) ?_; refine JM 12 rfl ?_; refine Jz (σ := Nat × Nat) (fun s => (s.1 ≤ s.2 ∧ s.2 ≤ xs.length) ∧ (∀ q y, q < s.1 → xs[q]? = some y → Op.bytesLess (Prod.fst y) k = true) ∧ ∀ q y, s.2 ≤ q → xs[q]? = some y → Op.bytesLess (Prod.fst y) k = false) (fun s => [(0, Kz xs.length p), (1, J6 k), (2, .func (.func g) #[] caps.toArray), (8, .int .i64 (xs.length : Int)), (9, .int .i64 (s.1 : Int)), (10, .int .i64 (s.2 : Int))]) (fun _ => []) (fun _ _ _ => True) (fun s => s.2 - s.1) (0, xs.length) ⟨⟨Nat.zero_le _, Nat.le_refl _⟩, fun q _ hq => absurd hq (Nat.not_lt_zero q), fun q y hq hy => absurd (List.getElem?_eq_some_iff.1 hy).1 (by omega)⟩ (lK rfl) (List.nil_sublist _) (fun _ _ h => h) ?_; rintro ⟨i, j⟩ ⟨⟨hi0, hj0⟩, hi1, hi2⟩; simp only at hi0 hj0 hi1 hi2; change HC _ _ [(0, _), (1, _), (2, _), (8, _), (9, .int .i64 (i : Int)), (10, .int .i64 (j : Int))] _ _ _ _; refine JP 8 rfl ?_; refine cD (fun h7 => ?_) fun h7 => ?_
 refine Jq 8 rfl ?_; refine Jc (by omega) (by omega) ?_; refine Wi rfl (VW (by omega) (by omega) (LR rfl (vh (n := 1) (b := (((i + j) / 2 : Nat) : Int)) rfl rfl rfl (by decide) (by omega) (by omega)) ?_)); refine Wi rfl (Jc (by omega) (by omega) (JM 4 rfl ?_))
 obtain ⟨x, hx, hmx⟩ := Q4 (show (i + j) / 2 < xs.length by omega)
 refine Jq 4 rfl ?_
 refine LR rfl (Jr (j := ((i + j) / 2)) rfl hs rfl rfl rfl (by first | rfl | omega) (by omega)) ?_; refine LR rfl (JZ Kf oR rfl hs hx rfl rfl) ?_; refine QI rfl (Je rfl rfl rfl eg (hg x hmx) oR ?_); refine Wi rfl (J3 (congrArg Value.bool (qO (Prod.fst x) k)) (JM 2 rfl ?_)); refine cD (fun h10 => ?_) fun h10 => ?_
 refine Jq 3 rfl ?_; refine Jc (by omega) (by omega) ?_; refine Jy 3 rfl ?_; refine Jw ?_; exact Jt ((i + j) / 2 + 1, j) ⟨⟨by simp only; omega, hj0⟩, Jbs hso hx (by assumption), hi2⟩ (by simp only; omega) (lK rfl) (List.nil_sublist _) (fun _ _ h => h)
 refine Km 5 rfl ?_; refine Jw ?_; exact Jt (i, (i + j) / 2) ⟨⟨by simp only; omega, by simp only; omega⟩, hi1, Jbt hso hx (by assumption)⟩ (by simp only; omega) (lK rfl) (List.nil_sublist _) (fun _ _ h => h)
 ·refine JP 6 rfl ?_
  have hij : i = j := by omega
  have hlo : i = Zz Prod.fst k xs := Jmq (by omega) hi1 (fun y hy => hi2 i y (by omega) hy)
  refine Jq 6 rfl ?_
  refine J7 39 rfl (fun gb => ?_) (fun gb => ?_) <;> (try simp only [ZZ] at gb) <;> first | (refine QI rfl ?_) | (refine LK rfl ?_)
  all_goals refine LW 2 [] rfl rfl ?_
  all_goals first | (obtain ⟨x, hx, hmx⟩ := Q4 (show i < xs.length by omega); refine LR rfl (Jr (j := i) rfl hs rfl rfl rfl (by first | rfl | omega) (by omega)) ?_) | refine LK rfl ?_
  all_goals first | refine LR rfl (JZ Kf oR rfl hs hx rfl rfl) ?_ | refine LK rfl ?_
  all_goals refine LW 1 [] rfl rfl ?_
  all_goals first | refine Je rfl rfl rfl eg (hg x hmx) oR ?_ | refine LK rfl ?_
  all_goals first | (refine Wi rfl ?_; refine J3 (congrArg Value.bool (Jbr (Prod.fst x) k)) ?_) | refine LK rfl ?_
  all_goals (
   refine LW 1 [] rfl rfl (Jy 3 rfl (Zx 2 rfl ?_)); refine Jh rfl rfl (.cons (Jj rfl) (.cons (Jj rfl) .nil)) (fun w1 hs1 => ?_); refine ⟨?_, hs1.keep⟩
   first | (rw [← Jbu (kf := Prod.fst) (hlo ▸ hx), ← hlo]; rfl) | (rw [jJ (kf := Prod.fst) (by omega), ← hlo]; rfl)
   skip)
theorem Joy {R : Ji} {xs : List (BS × BS)} {p : Pl} (hl : xs.length ≤ 1000) (hs : Seg R xs.length (xs.flatMap Qw) p) (hso : Ks Prod.fst xs) {k : BS} :
  PureR Tryz.prog 324 [Kz xs.length p, J6 k, fV 156].toArray (.tuple #[.int .i64 (Zz Prod.fst k xs : Nat), .bool (Vv Prod.fst k xs)]) R := by
 refine Ja Tryz.func324 rfl rfl fun w => ?_; refine JB ?_; refine Jq 2 rfl ?_; refine LN rfl fun r1 => ?_; refine JG 8 rfl ?_; refine LR rfl (JD rfl rfl) ?_; refine Je (Rl := (r1, Obj.cells #[fV 156] _ (0, 0)) :: R) rfl rfl rfl (enters_of Tryz.func354 (by kernel_rfl) rfl) (Jkb (caps := [.pointer (some ⟨r1, 0, none⟩)]) hl (hs.mono fun q hq => List.mem_cons_of_mem _ hq) hso (enters_of Tryz.func355 (by kernel_rfl) rfl) (fun x hx => Jza List.mem_cons_self x k)) (fun q hq => (List.mem_cons.1 hq).elim (fun h => Or.inl (by rw [h]; exact List.mem_cons_self)) Or.inr) ?_; refine Jy 7 rfl ?_; refine Jh rfl rfl (.cons (Jj rfl) (.cons (Jj rfl) .nil)) (fun w1 hs1 => ?_); exact ⟨rfl, hs1.keep⟩
theorem Jc6 {R : Ji} {xs : List AcL} {p : Pl} (hl : xs.length ≤ 1000) (hs : Seg R xs.length (xs.flatMap AcL.cells) p) :
  PureT (α := { row : QK // rowOk 8 xs.length (xs.flatMap AcL.cells) row }) Tryz.prog 79 [Kz xs.length p].toArray (fun x => J9 xs.length x.1) [] (fun x => JH 48 (xs.flatMap AcL.cells) x.1) R := by
 cases p with
 | none =>
  have h0 : xs = [] := List.length_eq_zero_iff.1 hs
  subst h0; refine Ju Tryz.func79 rfl rfl fun w => ?_; refine JB ?_; refine JP 12 rfl ?_; refine cD (fun g => ?_) fun g => ?_
  refine Km 7 rfl ?_; refine pT rfl rfl rfl fun w1 hs1 => ?_; exact ⟨⟨none, rfl, rfl⟩, rfl, hs1⟩
  try exact Bool.noConfusion g
 | some q =>
  refine Ju Tryz.func79 rfl rfl fun w => ?_; refine JB ?_; refine JP 12 rfl ?_; refine J1 rfl (fun g => ?_) (fun g => ?_)
  try exact Bool.noConfusion g
  ·refine Jq 4 rfl ?_; refine WQ rfl rfl rfl rfl fun r1 => ?_; refine QI rfl (vE (k := 0) (b := 96) (sz := 8) rfl rfl rfl rfl rfl rfl hs oR rfl rfl rfl rfl rfl (by decide) (Ke AcL.len xs) (Yg AcL.one xs) (by omega) (by omega) fun row hrow => (Jy 4 rfl ?_)); refine pT rfl rfl rfl fun w1 hs1 => ?_; exact ⟨⟨row, hrow⟩, rfl, hs1.weakL (List.sublist_append_left _ _)⟩
theorem Jkc {R : Ji} {xs : List AcL} {row : QK} (hl : xs.length ≤ 1000) (hrow : rowOk 8 xs.length (xs.flatMap AcL.cells) row) {i : Nat} (hi : i ≤ xs.length) {y : AcL} {rv : Nat} (hv : (rv, Obj.cells (AcL.cells y).toArray 48 (0, 0)) ∈ R) :
  PureT (α := { row' : QK // rowOk 8 (xs.length + 1) ((xs.take i ++ y :: xs.drop i).flatMap AcL.cells) row' }) Tryz.prog 323 [J9 xs.length row, .int .i64 (i : Int), .slice (some ⟨rv, 0, none⟩) 1 1].toArray (fun x => J9 (xs.length + 1) x.1) (JH 48 (xs.flatMap AcL.cells) row) (fun x => JH 48 ((xs.take i ++ y :: xs.drop i).flatMap AcL.cells) x.1) R := by
 obtain ⟨A, hA⟩ : ∃ A, A = (xs.take i).flatMap AcL.cells := ⟨_, rfl⟩
 obtain ⟨B, hB⟩ : ∃ B, B = (xs.drop i).flatMap AcL.cells := ⟨_, rfl⟩
 obtain ⟨n, hn⟩ : ∃ n, n = xs.length := ⟨_, rfl⟩
 have e1 : xs.flatMap AcL.cells = A ++ B := by rw [hA, hB, ← List.flatMap_append, List.take_append_drop]
 have e2 : (xs.take i ++ y :: xs.drop i).flatMap AcL.cells = A ++ (AcL.cells y ++ B) := by rw [List.flatMap_append, List.flatMap_cons, hA, hB]
 have lA : A.length = i * 8 := by rw [hA, Ke AcL.len, List.length_take, Nat.min_eq_left hi]
 have lB : B.length = (n - i) * 8 := by rw [hB, Ke AcL.len, List.length_drop, hn]
 have lF : (AcL.cells y).length = 8 := AcL.len y
 have oF : (AcL.cells y).all Qt = true := AcL.one y
 have oA : A.all Qt = true := by rw [hA]; exact Yg AcL.one _
 have oB : B.all Qt = true := by rw [hB]; exact Yg AcL.one _
 rw [e1] at hrow; rw [e1, e2]; rw [← hn] at hl hi hrow ⊢; clear hA hB e1 e2 hn
 cases row with
 | none =>
  obtain ⟨rfl, hAB⟩ := hrow
  obtain rfl : i = 0 := by omega
  obtain ⟨rfl, rfl⟩ := List.append_eq_nil_iff.1 hAB
  refine Ju Tryz.func323 rfl rfl fun w => ?_; refine JB ?_; refine Jq 15 rfl ?_; refine LR rfl (JQ rfl rfl) ?_; refine JM 10 rfl ?_; refine cD (fun g => ?_) fun g => ?_
  first | exact Bool.noConfusion g | omega
  refine Jq 5 rfl ?_; refine LR rfl (JQ rfl rfl) ?_; refine JM 11 rfl ?_; refine J1 rfl (fun g => ?_) (fun g => ?_)
  try simp only [ZZ] at g
  refine Jq 4 rfl ?_; refine VF (n := 0) (m := 1) (b := 96) (sz := 8) (news := AcL.cells y) (xs := []) (L0 := []) rfl rfl rfl rfl (Or.inr hv) rfl rfl rfl rfl rfl (by decide) rfl rfl oF (by decide) SlOwn.nil (by decide) (by decide) fun r1 cap1 sp1 hsp1 => ?_; refine Jy 5 rfl ?_; refine pT rfl rfl rfl fun w1 hs1 => ?_; exact ⟨⟨some (r1, cap1, sp1), by simp [lF], hsp1⟩, rfl, by simpa [JH] using hs1⟩
  try exact Bool.noConfusion g
 | some q =>
  obtain ⟨r, cap, sp⟩ := q
  obtain ⟨hr1, hr2⟩ := hrow
  have hcap : n ≤ cap := by omega
  refine Ju Tryz.func323 rfl rfl fun w => ?_; refine JB ?_; change HC _ _ _ [(r, .cells ((A ++ B) ++ sp).toArray 48 (0, 0))] _ _ _; refine Jq 9 rfl ?_; refine LR rfl (JL (m := i) (kl := some i) (kh := none) (km := none) (q := n) (z := cap) rfl rfl rfl ⟨_, rfl⟩ trivial trivial rfl rfl rfl (by omega) (by omega) (by omega) (fun _ => rfl) rfl) ?_; refine JG 5 rfl ?_; refine LR rfl (JQ rfl rfl) ?_; refine JM 10 rfl ?_; refine J1 rfl (fun g => ?_) (fun g => ?_)
  try exact Bool.noConfusion g
  ·refine Jq 5 rfl ?_; refine LR rfl (JQ rfl rfl) ?_; refine JM 11 rfl ?_; refine J1 rfl (fun g => ?_) (fun g => ?_)
   try simp only [ZZ] at g
   refine Jq 4 rfl ?_
   obtain rfl : B = [] := List.length_eq_zero_iff.1 (by omega)
   refine VF (n := n) (m := 1) (b := 96) (sz := 8) (news := AcL.cells y) (xs := A ++ []) (L0 := []) rfl rfl rfl rfl (Or.inr hv) rfl rfl rfl rfl rfl (by decide) rfl lF oF (by decide) (SlOwn.own (k := 0) rfl (by simp only [List.toList_toArray]; rw [List.take_left' hr1]) hr1 (by rw [List.size_toArray, List.length_append, hr1]; omega) rfl) (by omega) (by omega) fun r1 cap1 sp1 hsp1 => ?_; refine Jy 5 rfl ?_; refine pT rfl rfl rfl fun w1 hs1 => ?_; exact ⟨⟨some (r1, cap1, sp1), by simp only [List.length_append, List.length_nil, lF]; omega, hsp1⟩, rfl, by simpa [JH] using hs1⟩
   ·try simp only [ZZ] at g
    refine Jq 8 rfl ?_; refine Jc (by omega) (by omega) ?_; refine QI rfl (LR rfl (Jgp rfl rfl) (JM 3 rfl ?_)); refine cD (fun g => ?_) fun g => ?_
    ·refine Jq 4 rfl ?_
     refine LR rfl (JL (sz := 8) (q := i) (kl := none) (kh := some (i)) (km := none) (m := 0) (z := cap) (off' := 0) rfl rfl rfl trivial ⟨_, rfl⟩ trivial rfl rfl rfl (by omega) (by omega) (by omega) (fun h => by cases h) (by split <;> omega)) ?_; refine LS 3 [] rfl rfl ?_; refine Jc (by omega) (by omega) ?_; refine JG 2 rfl ?_; refine J3 (show _ = Value.int .i64 ((n + 1 - i : Nat) : Int) from by rw [wrap_i64 (by omega) (by omega)]; congr 1 <;> omega) ?_; refine vw (r := r) (off := 0) (n := i) (cap := cap) (m := n + 1 - i) (sz := 8) (b := 96) (xs := A) rfl rfl rfl rfl (kn 0 rfl) rfl rfl rfl rfl rfl rfl (by decide) (by simp only [List.toList_toArray, List.drop_zero]; rw [List.append_assoc, List.take_left' lA]) lA (by omega) (by omega) (by omega) (by omega) (by omega) fun r2 cap2 Z sp2 hZ hsp2 => ?_; rw [show i + (n + 1 - i) = n + 1 by omega] at hsp2 ⊢
     obtain ⟨Z1, Z2, rfl, lZ1⟩ := cut (l := Z) (a := 8) (by omega)
     have lZ2 : Z2.length = (n - i) * 8 := by rw [List.length_append, lZ1] at hZ; omega
     rw [show A ++ (Z1 ++ Z2) ++ sp2 = A ++ (Z1 ++ (Z2 ++ sp2)) by simp only [List.append_assoc]]; refine JG 7 rfl ?_; refine LR rfl (JL (sz := 8) (m := i) (kl := some (i)) (kh := none) (km := none) (q := n + 1) (z := cap2) (off' := i * 8) rfl rfl rfl ⟨_, rfl⟩ trivial trivial rfl rfl rfl (by omega) (by omega) (by omega) (fun _ => rfl) (by rw [if_neg (by omega)]; omega)) ?_; refine QI rfl ?_
     refine Xl (k := 0) (n := 1) (sz := 8) (vs := AcL.cells y) (cs' := A ++ (AcL.cells y ++ (Z2 ++ sp2))) rfl rfl rfl rfl rfl (Or.inr hv) rfl rfl (by simp only [Nat.min_def]; split <;> omega) rfl lF oF (by simp only [List.size_toArray, List.length_append]; omega) (WR lA (by rw [lZ1])) rfl ?_; refine JM 3 rfl ?_; refine JJ 8 (by kernel_rfl) (by kernel_rfl) ?_; refine Jb rfl rfl rfl (Jg rfl) ?_; refine Jb rfl rfl rfl (Jg rfl) ?_; refine Jb rfl rfl rfl (Jg rfl) ?_
     refine Jb rfl rfl rfl (Jv rfl rfl rfl) ?_; refine Qa (show _ = Value.int .i64 ((i + 1 : Nat) : Int) from by rw [wrap_i64 (by omega) (by omega)]; congr 1 <;> omega) ?_; refine Jb rfl rfl rfl (JL (sz := 8) (m := i + 1) (kl := some (i + 1)) (kh := none) (km := none) (q := n + 1) (z := cap2) (off' := (i + 1) * 8) rfl rfl rfl ⟨_, rfl⟩ trivial trivial rfl rfl rfl (by omega) (by omega) (by omega) (fun _ => rfl) (by rw [if_neg (by omega)]; omega)) ?_; refine Jb rfl rfl rfl (Jg rfl) ?_; refine Jb rfl rfl rfl (Jg rfl) ?_; refine Jb rfl rfl rfl (JL (sz := 8) (m := i) (kl := some (i)) (kh := none) (km := none) (q := n) (z := cap) (off' := i * 8) rfl rfl rfl ⟨_, rfl⟩ trivial trivial rfl rfl rfl (by omega) (by omega) (by omega) (fun _ => rfl) (by rw [if_neg (by omega)]; omega)) ?_; refine JW ?_; rw [show A ++ (AcL.cells y ++ (Z2 ++ sp2)) = (A ++ AcL.cells y) ++ (Z2 ++ sp2) by simp only [List.append_assoc]]
     refine Xl (k := 0) (n := n - i) (sz := 8) (vs := B) (cs' := (A ++ AcL.cells y) ++ (B ++ sp2)) rfl rfl rfl rfl rfl (kn 1 rfl) rfl rfl (by simp only [Nat.min_def]; split <;> omega) (by simp only [List.toList_toArray]; rw [List.append_assoc, List.drop_left' lA, List.take_left' lB]) lB oB (by simp only [List.size_toArray, List.length_append]; omega) (WR (by rw [List.length_append, lA, lF]; omega) lZ2) rfl ?_; refine Jy 10 rfl ?_; refine pT rfl rfl rfl fun w1 hs1 => ?_; exact ⟨⟨some (r2, cap2, sp2), by simp only [List.length_append]; omega, hsp2⟩, rfl, hs1.weakL (by simp [JH])⟩
    ·refine Jq 8 rfl ?_; refine J3 (show _ = Value.int .i64 ((n + 1 : Nat) : Int) from by rw [wrap_i64 (by omega) (by omega)]; congr 1 <;> omega) ?_
     refine LR rfl (JL (sz := 8) (q := n + 1) (kl := none) (kh := some (n + 1)) (km := none) (m := 0) (z := cap) (off' := 0) rfl rfl rfl trivial ⟨_, rfl⟩ trivial rfl rfl rfl (by omega) (by omega) (by omega) (fun h => by cases h) (by split <;> omega)) ?_; refine JG 11 rfl ?_; refine J3 (show _ = Value.int .i64 ((i + 1 : Nat) : Int) from by rw [wrap_i64 (by omega) (by omega)]; congr 1 <;> omega) ?_; refine LR rfl (JL (sz := 8) (m := i + 1) (kl := some (i + 1)) (kh := none) (km := none) (q := n + 1) (z := cap) (off' := (i + 1) * 8) rfl rfl rfl ⟨_, rfl⟩ trivial trivial rfl rfl rfl (by omega) (by omega) (by omega) (fun _ => rfl) (by rw [if_neg (by omega)]; omega)) ?_; refine LR rfl (qf (k := 0) rfl rfl rfl hv rfl rfl rfl (by simp only [List.size_toArray, List.length_append]; omega) Tryz.func352 rfl rfl rfl rfl) ?_; refine JM 3 rfl ?_; refine J1 rfl (fun g => ?_) (fun g => ?_)
     ·try simp only [ZZ] at g
      refine JP 1 rfl ?_; refine JJ 8 (by kernel_rfl) (by kernel_rfl) ?_; refine Jb rfl rfl rfl (Jg rfl) ?_; refine Jb rfl rfl rfl (Jg rfl) ?_; refine Jb rfl rfl rfl (Jg rfl) ?_
      refine Jb rfl rfl rfl (Jv rfl rfl rfl) ?_; refine Qa (show _ = Value.int .i64 ((i + 1 : Nat) : Int) from by rw [wrap_i64 (by omega) (by omega)]; congr 1 <;> omega) ?_; refine Jb rfl rfl rfl (JL (sz := 8) (m := i + 1) (kl := some (i + 1)) (kh := none) (km := none) (q := n + 1) (z := cap) (off' := (i + 1) * 8) rfl rfl rfl ⟨_, rfl⟩ trivial trivial rfl rfl rfl (by omega) (by omega) (by omega) (fun _ => rfl) (by rw [if_neg (by omega)]; omega)) ?_; refine Jb rfl rfl rfl (Jg rfl) ?_; refine Jb rfl rfl rfl (Jg rfl) ?_; refine Jb rfl rfl rfl (JL (sz := 8) (m := i) (kl := some (i)) (kh := none) (km := none) (q := n + 1) (z := cap) (off' := i * 8) rfl rfl rfl ⟨_, rfl⟩ trivial trivial rfl rfl rfl (by omega) (by omega) (by omega) (fun _ => rfl) (by rw [if_neg (by omega)]; omega)) ?_; refine JW ?_
      obtain ⟨X1, X2, hX, lX1⟩ := cut (l := B ++ sp) (a := 8) (by rw [List.length_append]; omega)
      obtain ⟨X3, X4, rfl, lX3⟩ := cut (l := X2) (a := (n - i) * 8) (by have := congrArg List.length hX; simp only [List.length_append] at this; omega)
      rw [show (A ++ B) ++ sp = (A ++ X1) ++ (X3 ++ X4) by rw [List.append_assoc, hX]; simp only [List.append_assoc]]
      refine Xl (k := 0) (n := n - i) (sz := 8) (vs := B) (cs' := (A ++ X1) ++ (B ++ X4)) rfl rfl rfl rfl rfl (kn 0 rfl) rfl rfl (by simp only [Nat.min_def]; split <;> omega) (by simp only [List.toList_toArray]; rw [List.append_assoc, List.drop_left' lA, ← hX, List.take_left' lB]) lB oB (by have := congrArg List.length hX; simp only [List.size_toArray, List.length_append] at this ⊢; omega) (WR (by rw [List.length_append, lA, lX1]; omega) lX3) rfl ?_; refine JG 6 rfl ?_; refine LR rfl (JL (sz := 8) (m := i) (kl := some (i)) (kh := none) (km := none) (q := n + 1) (z := cap) (off' := i * 8) rfl rfl rfl ⟨_, rfl⟩ trivial trivial rfl rfl rfl (by omega) (by omega) (by omega) (fun _ => rfl) (by rw [if_neg (by omega)]; omega)) ?_; refine QI rfl ?_; rw [show (A ++ X1) ++ (B ++ X4) = A ++ (X1 ++ (B ++ X4)) by simp only [List.append_assoc]]
      refine Xl (k := 0) (n := 1) (sz := 8) (vs := AcL.cells y) (cs' := A ++ (AcL.cells y ++ (B ++ X4))) rfl rfl rfl rfl rfl (Or.inr hv) rfl rfl (by simp only [Nat.min_def]; split <;> omega) rfl lF oF (by simp only [List.size_toArray, List.length_append]; omega) (WR lA (by rw [lX1])) rfl ?_; refine Jy 10 rfl ?_; refine pT rfl rfl rfl fun w1 hs1 => ?_; exact ⟨⟨some (r, cap, X4), by simp only [List.length_append]; omega, by have := congrArg List.length hX; simp only [List.length_append] at this; omega⟩, rfl, by simpa [JH] using hs1⟩
     ·try exact Bool.noConfusion g
end Go.Proofs.YtfaagelglpgpkaaGreatDoor
