import Derived.Test.YtlcbfphioeppaaaGreatDoorQla
import Derived.Test.YtlcbfphioeppaaaGreatDoorShelf
namespace Go.Proofs.YtlcbfphioeppaaaGreatDoor
set_option linter.all false
open Go.SL Go.RowKit Go.Shelf
theorem P_TrimLeft0 (s : List UInt8) : Pure Tryz.prog 202 [.string (bs s), .string ⟨#[0]⟩].toArray (.string (bs (Lib.trimLeftB s 0))) := ⟨fun w => by
  have h := Tryz.strings_TrimLeft_one (bs s) 0 (by decide) w
  refine h.mono fun e w' ⟨h1, h2⟩ => ⟨?_, h2 ▸ Keep.refl _ _⟩
  rw [h1]; simp [bs]⟩
theorem P_Repeat0 {n : Nat} (hn : n ≤ 32) : Pure Tryz.prog 102 [.string ⟨#[0]⟩, .int .i64 (n : Int)].toArray (.string (bs (Lib.repeatL [0] n))) := ⟨fun w => by
  have hs : (ByteArray.mk #[0]).size = 1 := rfl
  have h := Tryz.strings_Repeat ⟨#[0]⟩ n w (by omega) (by rw [hs]; omega)
  refine h.mono fun e w' ⟨h1, h2⟩ => ⟨?_, Keep.of_below h2⟩
  rw [h1]; rfl⟩
end Go.Proofs.YtlcbfphioeppaaaGreatDoor
namespace Go.Proofs.YtlcbfphioeppaaaGreatDoor
set_option linter.all false
open Go.SL Go.RowKit Go.Shelf
def bytesW (l : List Nat) : List UInt8 := Lib.trimLeftB (beD l 32) 0
set_option maxRecDepth 10000 in
theorem P_word_Bytes {l : List Nat} (hl : WOk l) : Pure Tryz.prog 144 [wV l].toArray (.string (bs (bytesW l))) := by
  refine pure_of_HC Tryz.func144 rfl rfl fun w => ?_; refine HC_seq fun K1 hK1 => ?_; refine HC_region ?_; refine HL_box (cs := (l.map uV).toArray) rfl rfl rfl rfl fun r1 => ?_; refine HL_r rfl rfl rfl rfl (R_assign rfl) ?_; refine HL_nil ?_; refine HQ_then ?_; refine hK1 _ _ _ _ ?_; clear hK1 K1; refine HC_seq fun K2 hK2 => ?_; refine HC_region ?_; refine HL_r rfl rfl rfl rfl (R_loadArr (xs := l.map uV) (n := 4) rfl (known_L (k := 0) rfl) rfl rfl (by rw [List.length_map, hl.1])) ?_; refine HL_callP rfl rfl rfl (enters_of Tryz.func68 (by kernel_rfl) rfl) (P_word_Fixed hl) ?_; refine HL_callP rfl rfl rfl (enters_of Tryz.func202 (by kernel_rfl) rfl) (P_TrimLeft0 (beD l 32)) ?_; refine HL_r rfl rfl rfl rfl (R_assign rfl) ?_; refine HL_nil ?_; refine HQ_then ?_; refine hK2 _ _ _ _ ?_; clear hK2 K2; refine HC_ret ?_; refine HQ_post rfl rfl (.cons (res_tmp rfl) .nil) (fun w1 hs1 => ?_); exact ⟨rfl, hs1.keep⟩
end Go.Proofs.YtlcbfphioeppaaaGreatDoor
namespace Go.Proofs.YtlcbfphioeppaaaGreatDoor
set_option linter.all false
open Go.SL Go.RowKit Go.Shelf
def onlyB (v : Vl) (num bits items pick : Bool) : Bool := (num || decide (v.num = [0, 0, 0, 0])) && (bits || decide (v.bits.length = 0)) && (items || decide (v.items.length = 0)) && (pick || decide (v.pick = 0))
def ofT (k n : Int) (m : Nat) (v : Vl) : Bool :=
  if k = 1 then onlyB v true false false false && decide (((bytesW v.num).length : Int) ≤ n)
  else if k = 2 then onlyB v true false false false && (decide (v.num = [0, 0, 0, 0]) || decide (v.num = [1, 0, 0, 0]))
  else if k = 3 then onlyB v false false true false && decide ((v.items.length : Int) = n)
  else if k = 4 then onlyB v false false true false
  else if k = 5 then onlyB v false true false false && decide ((v.bits.length : Int) = n)
  else if k = 6 then onlyB v false true false false
  else if k = 7 then onlyB v false false true false && decide (v.items.length = m)
  else onlyB v false false true true && decide (v.items.length = 1) && decide (0 ≤ v.pick) && decide (v.pick < m)
instance : Inhabited Ty := ⟨.mk 0 0 none []⟩
def inX (k pick : Int) (i : Nat) : Nat := if k = 7 then i else if k = 8 then pick.toNat else 0
def inTy (k pick : Int) (ins : List Ty) (i : Nat) : Ty := ins.getD (inX k pick i) default
mutual
def fitT : Vl → Ty → Int
  | .mk a b c d bits pb items pi pick, .mk k n p ins => if (k = 4 ∧ n < items.length) ∨ (k = 6 ∧ n < bits.length) then 5 else if ofT k n ins.length (.mk a b c d bits pb items pi pick) = false then 2 else fitL items k pick ins 0
def fitL : List Vl → Int → Int → List Ty → Nat → Int
  | [], _, _, _, _ => 0
  | x :: xs, k, pick, ins, i => if fitT x (inTy k pick ins i) = 0 then fitL xs k pick ins (i + 1) else fitT x (inTy k pick ins i)
end
theorem inX_lt {k n : Int} {p : Pl} {ins : List Ty} {dp : Int} {v : Vl} {i : Nat} (hc : chk (.mk k n p ins) dp = 0) (ho : ofT k n ins.length v = true) (hi : i < v.items.length) : inX k v.pick i < ins.length := by
  obtain ⟨hk, hf, _, _⟩ := chk_mk hc
  unfold ofT onlyB at ho
  unfold okForm at hf
  unfold inX
  have h9 : k = 1 ∨ k = 2 ∨ k = 3 ∨ k = 4 ∨ k = 5 ∨ k = 6 ∨ k = 7 ∨ k = 8 := by omega
  have hl : ¬ v.items = [] := fun h => by rw [h] at hi; simp at hi
  rcases h9 with rfl | rfl | rfl | rfl | rfl | rfl | rfl | rfl
  all_goals simp [hl] at ho hf ⊢
  all_goals omega
theorem inTy_get {k pick : Int} {ins : List Ty} {i : Nat} (h : inX k pick i < ins.length) : ins[inX k pick i]? = some (inTy k pick ins i) ∧ inTy k pick ins i ∈ ins := by
  unfold inTy
  rw [List.getD_eq_getElem?_getD, List.getElem?_eq_getElem h]; exact ⟨rfl, List.getElem_mem h⟩
end Go.Proofs.YtlcbfphioeppaaaGreatDoor
namespace Go.Proofs.YtlcbfphioeppaaaGreatDoor
set_option linter.all false
open Go.SL Go.RowKit Go.Shelf
theorem onlyB_mk (a b c d : Nat) (bits : List Bool) (pb : Pl) (items : List Vl) (pi : Pl) (pick : Int) (h1 h2 h3 h4 : Bool) : onlyB (.mk a b c d bits pb items pi pick) h1 h2 h3 h4 = ((h1 || decide ([a, b, c, d] = [0, 0, 0, 0])) && (h2 || decide (bits.length = 0)) && (h3 || decide (items.length = 0)) && (h4 || decide (pick = 0))) := rfl
theorem ofT_mk (k n : Int) (m a b c d : Nat) (bits : List Bool) (pb : Pl) (items : List Vl) (pi : Pl) (pick : Int) (v : Vl) (hv : v = .mk a b c d bits pb items pi pick) : ofT k n m v =
  if k = 1 then onlyB v true false false false && decide (((bytesW [a, b, c, d]).length : Int) ≤ n)
  else if k = 2 then onlyB v true false false false && (decide ([a, b, c, d] = [0, 0, 0, 0]) || decide ([a, b, c, d] = [1, 0, 0, 0]))
  else if k = 3 then onlyB v false false true false && decide ((items.length : Int) = n)
  else if k = 4 then onlyB v false false true false
  else if k = 5 then onlyB v false true false false && decide ((bits.length : Int) = n)
  else if k = 6 then onlyB v false true false false
  else if k = 7 then onlyB v false false true false && decide (items.length = m)
  else onlyB v false false true true && decide (items.length = 1) && decide (0 ≤ pick) && decide (pick < m) := by subst hv; rfl
theorem ofT_8 {n : Int} {m : Nat} {v : Vl} (h : ofT 8 n m v = true) : 0 ≤ v.pick := by
  unfold ofT at h
  simp at h; omega
def fitsT (t : Ty) (v : Vl) : Int := if chk t 0 = 0 then fitT v t else chk t 0
end Go.Proofs.YtlcbfphioeppaaaGreatDoor
namespace Go.Proofs.YtlcbfphioeppaaaGreatDoor
set_option linter.all false
open Go.SL Go.RowKit Go.Shelf
set_option maxRecDepth 10000 in
theorem P_Same1 (x y : Bool) : Pure Tryz.prog 47 [.bool x, .bool y].toArray (.bool (x == y)) := by
  refine pure_of_HC Tryz.func47 rfl rfl fun w => ?_; refine HC_seq fun K1 hK1 => ?_; refine HC_region ?_; refine HL_r rfl rfl rfl rfl (R_assign rfl) ?_; refine HL_nil ?_; refine HQ_then ?_; refine hK1 _ _ _ _ ?_; clear hK1 K1; refine HC_seq fun K2 hK2 => ?_; refine HC_region ?_; refine HL_r rfl rfl rfl rfl (R_move rfl) ?_; refine HL_r rfl rfl rfl rfl (R_move rfl) ?_; refine HL_r rfl rfl rfl rfl (R_pure rfl rfl rfl) ?_; refine HL_r rfl rfl rfl rfl (R_assign rfl) ?_; refine HL_nil ?_; refine HQ_then ?_; refine hK2 _ _ _ _ ?_; clear hK2 K2; refine HC_ret ?_; refine HQ_post rfl rfl (.cons (res_tmp rfl) .nil) (fun w1 hs1 => ?_); exact ⟨rfl, hs1.keep⟩
def fV (f : FuncId) : Value := .func (.func f) #[] #[]
set_option maxRecDepth 10000 in
theorem S_eqBits {R : List (Nat × Obj)} {bits bits' : List Bool} {p p' : Pl} (hl : bits.length ≤ 9223372036854775807) (hl' : bits'.length ≤ 9223372036854775807) (hs : Seg R bits.length (bitsC bits) p) (hs' : Seg R bits'.length (bitsC bits') p') :
    PureR Tryz.prog 93 [plV bits.length p, plV bits'.length p', fV 47].toArray (.bool (decide (bits = bits'))) R := by
  refine pureR_of_HC Tryz.func93 rfl rfl fun w => ?_; refine HC_seq fun K1 hK1 => ?_; refine HC_region ?_; refine HL_r rfl rfl rfl rfl (R_assign rfl) ?_; refine HL_nil ?_; refine HQ_then ?_; refine hK1 _ _ _ _ ?_; clear hK1 K1; refine HC_seq fun K2 hK2 => ?_; refine HC_seq fun K3 hK3 => ?_; refine HC_region ?_; refine HL_r rfl rfl rfl rfl (R_move rfl) ?_; refine HL_r rfl rfl rfl rfl (R_lenPl rfl hs rfl) ?_; refine HL_r rfl rfl rfl rfl (R_move rfl) ?_; refine HL_r rfl rfl rfl rfl (R_lenPl rfl hs' rfl) ?_; refine HL_r rfl rfl rfl rfl (R_pure rfl rfl rfl) ?_; refine HL_nil ?_; refine HQ_then ?_; refine hK3 _ _ _ _ ?_; clear hK3 K3; refine HC_cond rfl (fun h4 => ?_) (fun h4 => ?_)
  · try exact Bool.noConfusion h4
    try simp only [Z1, Z2, Z3, Z4, Z5, Z6, Z7, Z8, Z9, Z10, Z11, Z12, Z13] at h4
    refine HC_seq fun K5 hK5 => ?_; refine HC_region ?_; refine HL_r rfl rfl rfl rfl (R_assign rfl) ?_; refine HL_nil ?_; refine HQ_then ?_; refine hK5 _ _ _ _ ?_; clear hK5 K5; refine HC_ret ?_; refine HQ_thenR ?_; clear hK2 K2; refine HQ_post rfl rfl (.cons (res_tmp rfl) .nil) (fun w1 hs1 => ?_); refine ⟨?_, hs1.keep⟩
    (have hse : bits ≠ bits' := fun e => by subst e; omega
     simp [resVal, hse]; done)
  · try exact Bool.noConfusion h4
    try simp only [Z1, Z2, Z3, Z4, Z5, Z6, Z7, Z8, Z9, Z10, Z11, Z12, Z13] at h4
    refine HC_skip ?_; refine HQ_then ?_; refine hK2 _ _ _ _ ?_; clear hK2 K2; refine HC_seq fun K6 hK6 => ?_; refine HC_seq fun K7 hK7 => ?_; refine HC_region ?_; refine HL_r rfl rfl rfl rfl (R_move rfl) ?_; refine HL_r rfl rfl rfl rfl (R_lenPl rfl hs rfl) ?_; refine HL_r rfl rfl rfl rfl (R_move rfl) ?_; refine HL_nil ?_; refine HQ_then ?_; refine hK7 _ _ _ _ ?_; clear hK7 K7; refine HC_block ?_
    have hlb2 : bits.length = bits'.length := by omega
    refine HC_loop (σ := Nat) (fun i => i ≤ bits.length ∧ ∀ j, j < i → bits[j]? = bits'[j]?) (fun i => [(1, plV bits'.length p'), (2, fV 47), (15, plV bits.length p), (16, .int .i64 (bits.length : Int)), (17, .int .i64 (i : Int))]) (fun _ => []) (fun _ _ _ => True) (fun i => bits.length - i) 0 ⟨by omega, fun j hj => absurd hj (by omega)⟩ (.cons rfl (.cons rfl (.cons rfl (.cons rfl (.cons rfl .nil))))) (List.nil_sublist _) (fun _ _ h => h) ?_; rintro i ⟨hi1, hinv⟩; refine HC_seq fun K8 hK8 => ?_; refine HC_region ?_; refine HL_r rfl rfl rfl rfl (R_pure rfl rfl rfl) ?_; refine HL_nil ?_; refine HQ_then ?_; refine hK8 _ _ _ _ ?_; clear hK8 K8; refine HC_seq fun K9 hK9 => ?_; refine HC_cond rfl (fun h10 => ?_) (fun h10 => ?_)
    · try exact Bool.noConfusion h10
      try simp only [Z1, Z2, Z3, Z4, Z5, Z6, Z7, Z8, Z9, Z10, Z11, Z12, Z13] at h10
      refine HC_skip ?_; refine HQ_then ?_; refine hK9 _ _ _ _ ?_; clear hK9 K9; refine HC_seq fun K11 hK11 => ?_; refine HC_block ?_; refine HC_seq fun K12 hK12 => ?_
      obtain ⟨x, hx, hmx⟩ := getI (show i < bits.length by omega)
      obtain ⟨y, hy, hmy⟩ := getI (show i < bits'.length by omega)
      refine HC_region ?_; refine HL_r rfl rfl rfl rfl (R_move rfl) ?_; refine HL_r rfl rfl rfl rfl (R_indexPl (j := i) rfl hs rfl rfl rfl rfl (by omega)) ?_; refine HL_r rfl rfl rfl rfl (R_loadBit (fun q hq => Or.inr hq) rfl hs hx rfl) ?_; refine HL_r rfl rfl rfl rfl (R_assign rfl) ?_; refine HL_r rfl rfl rfl rfl (R_assign rfl) ?_; refine HL_nil ?_; refine HQ_then ?_; refine hK12 _ _ _ _ ?_; clear hK12 K12; refine HC_seq fun K13 hK13 => ?_; refine HC_region ?_; refine HL_r rfl rfl rfl rfl (R_move rfl) ?_; refine HL_r rfl rfl rfl rfl (R_move rfl) ?_; refine HL_r rfl rfl rfl rfl (R_indexPl (j := i) rfl hs' rfl rfl rfl rfl (by omega)) ?_; refine HL_r rfl rfl rfl rfl (R_loadBit (fun q hq => Or.inr hq) rfl hs' hy rfl) ?_; refine HL_r rfl rfl rfl rfl (R_assign rfl) ?_; refine HL_nil ?_; refine HQ_then ?_; refine hK13 _ _ _ _ ?_; clear hK13 K13; refine HC_seq fun K14 hK14 => ?_; refine HC_region ?_; refine HL_r rfl rfl rfl rfl (R_move rfl) ?_; refine HL_r rfl rfl rfl rfl (R_move rfl) ?_; refine HL_r rfl rfl rfl rfl (R_move rfl) ?_; refine HL_callP rfl rfl rfl (enters_of Tryz.func47 (by kernel_rfl) rfl) (P_Same1 x y) ?_; refine HL_r rfl rfl rfl rfl (R_pure rfl rfl rfl) ?_; refine HL_nil ?_; refine HQ_then ?_; refine hK14 _ _ _ _ ?_; clear hK14 K14; refine HC_cond rfl (fun h15 => ?_) (fun h15 => ?_)
      · try exact Bool.noConfusion h15
        try simp only [Z1, Z2, Z3, Z4, Z5, Z6, Z7, Z8, Z9, Z10, Z11, Z12, Z13] at h15
        refine HC_seq fun K16 hK16 => ?_; refine HC_region ?_; refine HL_r rfl rfl rfl rfl (R_assign rfl) ?_; refine HL_nil ?_; refine HQ_then ?_; refine hK16 _ _ _ _ ?_; clear hK16 K16; refine HC_ret ?_; refine HQ_blockR ?_; refine HQ_thenR ?_; clear hK11 K11; refine HQ_thenR ?_; refine HQ_blockR ?_; refine HQ_thenR ?_; clear hK6 K6; refine HQ_post rfl rfl (.cons (res_tmp rfl) .nil) (fun w1 hs1 => ?_); refine ⟨?_, hs1.keep⟩
        (have hse : bits ≠ bits' := bits_ne hx hy (by simp_all)
         simp [resVal, hse]; done)
      · try exact Bool.noConfusion h15
        try simp only [Z1, Z2, Z3, Z4, Z5, Z6, Z7, Z8, Z9, Z10, Z11, Z12, Z13] at h15
        refine HC_skip ?_; refine HQ_blockN ?_; refine HQ_then ?_; refine hK11 _ _ _ _ ?_; clear hK11 K11; refine HC_region ?_; refine HL_r rfl rfl rfl rfl (R_pure rfl rfl rfl) ?_; refine HL_wrap_i64 (by omega) (by omega) ?_; refine HL_r rfl rfl rfl rfl (R_move rfl) ?_; refine HL_nil ?_; refine HQ_then ?_
        exact HQ_again (i + 1) ⟨by omega, fun j hj => by
          rcases Nat.lt_succ_iff_lt_or_eq.1 hj with hj | rfl
          · exact hinv j hj
          · rw [hx, hy]; simp_all⟩ (by omega) (.cons rfl (.cons rfl (.cons rfl (.cons rfl (.cons rfl .nil))))) (List.nil_sublist _) (fun _ _ h => h)
    · try exact Bool.noConfusion h10
      try simp only [Z1, Z2, Z3, Z4, Z5, Z6, Z7, Z8, Z9, Z10, Z11, Z12, Z13] at h10
      refine HC_exit ?_; refine HQ_thenE ?_; clear hK9 K9; refine HQ_thenE ?_; refine HQ_blockE ?_; refine HQ_then ?_; refine hK6 _ _ _ _ ?_; clear hK6 K6; refine HC_seq fun K17 hK17 => ?_; refine HC_region ?_; refine HL_r rfl rfl rfl rfl (R_assign rfl) ?_; refine HL_nil ?_; refine HQ_then ?_; refine hK17 _ _ _ _ ?_; clear hK17 K17; refine HC_ret ?_; refine HQ_post rfl rfl (.cons (res_tmp rfl) .nil) (fun w1 hs1 => ?_); refine ⟨?_, hs1.keep⟩
      (have hse : bits = bits' := bits_eq hlb2 (by omega) hinv
       simp [resVal, hse]; done)
set_option maxRecDepth 10000 in
theorem S_eqVals {R : List (Nat × Obj)} {items items' : List Vl} {p p' : Pl} {g : FuncId} (eg : Enters Tryz.prog g) (hg : ∀ x ∈ items, ∀ y ∈ items', PureR Tryz.prog g [x.val, y.val].toArray (.bool (sameV x y)) R) (hl : items.length ≤ 9223372036854775807) (hl' : items'.length ≤ 9223372036854775807) (hs : Seg R items.length (vlsC items) p) (hs' : Seg R items'.length (vlsC items') p') :
    PureR Tryz.prog 94 [plV items.length p, plV items'.length p', fV g].toArray (.bool (sameL items items')) R := by
  refine pureR_of_HC Tryz.func94 rfl rfl fun w => ?_; refine HC_seq fun K1 hK1 => ?_; refine HC_region ?_; refine HL_r rfl rfl rfl rfl (R_assign rfl) ?_; refine HL_nil ?_; refine HQ_then ?_; refine hK1 _ _ _ _ ?_; clear hK1 K1; refine HC_seq fun K2 hK2 => ?_; refine HC_seq fun K3 hK3 => ?_; refine HC_region ?_; refine HL_r rfl rfl rfl rfl (R_move rfl) ?_; refine HL_r rfl rfl rfl rfl (R_lenPl rfl hs rfl) ?_; refine HL_r rfl rfl rfl rfl (R_move rfl) ?_; refine HL_r rfl rfl rfl rfl (R_lenPl rfl hs' rfl) ?_; refine HL_r rfl rfl rfl rfl (R_pure rfl rfl rfl) ?_; refine HL_nil ?_; refine HQ_then ?_; refine hK3 _ _ _ _ ?_; clear hK3 K3; refine HC_cond rfl (fun h4 => ?_) (fun h4 => ?_)
  · try exact Bool.noConfusion h4
    try simp only [Z1, Z2, Z3, Z4, Z5, Z6, Z7, Z8, Z9, Z10, Z11, Z12, Z13] at h4
    refine HC_seq fun K5 hK5 => ?_; refine HC_region ?_; refine HL_r rfl rfl rfl rfl (R_assign rfl) ?_; refine HL_nil ?_; refine HQ_then ?_; refine hK5 _ _ _ _ ?_; clear hK5 K5; refine HC_ret ?_; refine HQ_thenR ?_; clear hK2 K2; refine HQ_post rfl rfl (.cons (res_tmp rfl) .nil) (fun w1 hs1 => ?_); refine ⟨?_, hs1.keep⟩
    (have hse : sameL items items' = false := same_ln (by omega)
     simp [resVal, hse]; done)
  · try exact Bool.noConfusion h4
    try simp only [Z1, Z2, Z3, Z4, Z5, Z6, Z7, Z8, Z9, Z10, Z11, Z12, Z13] at h4
    refine HC_skip ?_; refine HQ_then ?_; refine hK2 _ _ _ _ ?_; clear hK2 K2; refine HC_seq fun K6 hK6 => ?_; refine HC_seq fun K7 hK7 => ?_; refine HC_region ?_; refine HL_r rfl rfl rfl rfl (R_move rfl) ?_; refine HL_r rfl rfl rfl rfl (R_lenPl rfl hs rfl) ?_; refine HL_r rfl rfl rfl rfl (R_move rfl) ?_; refine HL_nil ?_; refine HQ_then ?_; refine hK7 _ _ _ _ ?_; clear hK7 K7; refine HC_block ?_
    have hl2 : items.length = items'.length := by omega
    refine HC_loop (σ := Nat) (fun i => i ≤ items.length ∧ ∀ q, q < i → ∀ x y, items[q]? = some x → items'[q]? = some y → sameV x y = true) (fun i => [(1, plV items'.length p'), (2, fV g), (15, plV items.length p), (16, .int .i64 (items.length : Int)), (17, .int .i64 (i : Int))]) (fun _ => []) (fun _ _ _ => True) (fun i => items.length - i) 0 ⟨by omega, fun j hj => absurd hj (by omega)⟩ (.cons rfl (.cons rfl (.cons rfl (.cons rfl (.cons rfl .nil))))) (List.nil_sublist _) (fun _ _ h => h) ?_; rintro i ⟨hi1, hinv⟩; refine HC_seq fun K8 hK8 => ?_; refine HC_region ?_; refine HL_r rfl rfl rfl rfl (R_pure rfl rfl rfl) ?_; refine HL_nil ?_; refine HQ_then ?_; refine hK8 _ _ _ _ ?_; clear hK8 K8; refine HC_seq fun K9 hK9 => ?_; refine HC_cond rfl (fun h10 => ?_) (fun h10 => ?_)
    · try exact Bool.noConfusion h10
      try simp only [Z1, Z2, Z3, Z4, Z5, Z6, Z7, Z8, Z9, Z10, Z11, Z12, Z13] at h10
      refine HC_skip ?_; refine HQ_then ?_; refine hK9 _ _ _ _ ?_; clear hK9 K9; refine HC_seq fun K11 hK11 => ?_; refine HC_block ?_; refine HC_seq fun K12 hK12 => ?_
      obtain ⟨x, hx, hmx⟩ := getI (show i < items.length by omega)
      obtain ⟨y, hy, hmy⟩ := getI (show i < items'.length by omega)
      refine HC_region ?_; refine HL_r rfl rfl rfl rfl (R_move rfl) ?_; refine HL_r rfl rfl rfl rfl (R_indexPl (j := i) rfl hs rfl rfl rfl rfl (by omega)) ?_; refine HL_r rfl rfl rfl rfl (R_loadVl (fun q hq => Or.inr hq) rfl hs hx rfl rfl) ?_; refine HL_alloc (cs := #[_, _, _, _, _, _, _]) rfl rfl rfl rfl fun r1 => ?_; refine HL_r rfl rfl rfl rfl (R_assign rfl) ?_; refine HL_storeArr (k := 0) (n := 7) (ys := x.cells) rfl rfl rfl rfl rfl x.len rfl x.one rfl ?_; refine HL_nil ?_; refine HQ_then ?_; refine hK12 _ _ _ _ ?_; clear hK12 K12; refine HC_seq fun K13 hK13 => ?_; refine HC_region ?_; refine HL_r rfl rfl rfl rfl (R_move rfl) ?_; refine HL_r rfl rfl rfl rfl (R_move rfl) ?_; refine HL_r rfl rfl rfl rfl (R_indexPl (j := i) rfl hs' rfl rfl rfl rfl (by omega)) ?_; refine HL_r rfl rfl rfl rfl (R_loadVl (fun q hq => Or.inr hq) rfl hs' hy rfl rfl) ?_; refine HL_alloc (cs := #[_, _, _, _, _, _, _]) rfl rfl rfl rfl fun r2 => ?_; refine HL_storeArr (k := 0) (n := 7) (ys := y.cells) rfl rfl rfl rfl rfl y.len rfl y.one rfl ?_; refine HL_nil ?_; refine HQ_then ?_; refine hK13 _ _ _ _ ?_; clear hK13 K13; refine HC_seq fun K14 hK14 => ?_; refine HC_region ?_; refine HL_r rfl rfl rfl rfl (R_move rfl) ?_; refine HL_r rfl rfl rfl rfl (R_loadArr (xs := x.cells) (n := 7) rfl (known_L (k := 1) rfl) rfl rfl x.len) ?_; refine HL_r rfl rfl rfl rfl (R_loadArr (xs := y.cells) (n := 7) rfl (known_L (k := 0) rfl) rfl rfl y.len) ?_; refine HL_callR rfl rfl rfl eg (hg x hmx y hmy) (fun q hq => Or.inr hq) ?_; refine HL_r rfl rfl rfl rfl (R_pure rfl rfl rfl) ?_; refine HL_nil ?_; refine HQ_then ?_; refine hK14 _ _ _ _ ?_; clear hK14 K14; refine HC_cond rfl (fun h15 => ?_) (fun h15 => ?_)
      · try exact Bool.noConfusion h15
        try simp only [Z1, Z2, Z3, Z4, Z5, Z6, Z7, Z8, Z9, Z10, Z11, Z12, Z13] at h15
        refine HC_seq fun K16 hK16 => ?_; refine HC_region ?_; refine HL_r rfl rfl rfl rfl (R_assign rfl) ?_; refine HL_nil ?_; refine HQ_then ?_; refine hK16 _ _ _ _ ?_; clear hK16 K16; refine HC_ret ?_; refine HQ_blockR ?_; refine HQ_thenR ?_; clear hK11 K11; refine HQ_thenR ?_; refine HQ_blockR ?_; refine HQ_thenR ?_; clear hK6 K6; refine HQ_post rfl rfl (.cons (res_tmp rfl) .nil) (fun w1 hs1 => ?_); refine ⟨?_, hs1.keep⟩
        (have hse : sameL items items' = false := same_ne hx hy (by assumption)
         simp [resVal, hse]; done)
      · try exact Bool.noConfusion h15
        try simp only [Z1, Z2, Z3, Z4, Z5, Z6, Z7, Z8, Z9, Z10, Z11, Z12, Z13] at h15
        refine HC_skip ?_; refine HQ_blockN ?_; refine HQ_then ?_; refine hK11 _ _ _ _ ?_; clear hK11 K11; refine HC_region ?_; refine HL_r rfl rfl rfl rfl (R_pure rfl rfl rfl) ?_; refine HL_wrap_i64 (by omega) (by omega) ?_; refine HL_r rfl rfl rfl rfl (R_move rfl) ?_; refine HL_nil ?_; refine HQ_then ?_
        exact HQ_again (i + 1) ⟨by omega, fun q hq u v hu hv => by
          rcases Nat.lt_succ_iff_lt_or_eq.1 hq with hq | rfl
          · exact hinv q hq u v hu hv
          · rw [hx] at hu; rw [hy] at hv; cases hu; cases hv; assumption⟩ (by omega) (.cons rfl (.cons rfl (.cons rfl (.cons rfl (.cons rfl .nil))))) (List.nil_sublist _) (fun _ _ h => h)
    · try exact Bool.noConfusion h10
      try simp only [Z1, Z2, Z3, Z4, Z5, Z6, Z7, Z8, Z9, Z10, Z11, Z12, Z13] at h10
      refine HC_exit ?_; refine HQ_thenE ?_; clear hK9 K9; refine HQ_thenE ?_; refine HQ_blockE ?_; refine HQ_then ?_; refine hK6 _ _ _ _ ?_; clear hK6 K6; refine HC_seq fun K17 hK17 => ?_; refine HC_region ?_; refine HL_r rfl rfl rfl rfl (R_assign rfl) ?_; refine HL_nil ?_; refine HQ_then ?_; refine hK17 _ _ _ _ ?_; clear hK17 K17; refine HC_ret ?_; refine HQ_post rfl rfl (.cons (res_tmp rfl) .nil) (fun w1 hs1 => ?_); refine ⟨?_, hs1.keep⟩
      (have hse : sameL items items' = true := sameL_spec.2 ⟨hl2, fun q x y hx hy => hinv q (by have := (List.getElem?_eq_some_iff.1 hx).1; omega) x y hx hy⟩
       simp [resVal, hse]; done)
set_option maxRecDepth 10000 in
theorem S_rowsB {R : List (Nat × Obj)} {v0 v1 v2 v : Value} (h : PureR Tryz.prog 93 [v0, v1, v2].toArray v R) : PureR Tryz.prog 48 [v0, v1, v2].toArray v R := by
  refine pureR_of_HC Tryz.func48 rfl rfl fun w => ?_; refine HC_seq fun K1 hK1 => ?_; refine HC_region ?_; refine HL_r rfl rfl rfl rfl (R_assign rfl) ?_; refine HL_nil ?_; refine HQ_then ?_; refine hK1 _ _ _ _ ?_; clear hK1 K1; refine HC_seq fun K2 hK2 => ?_; refine HC_region ?_; refine HL_r rfl rfl rfl rfl (R_move rfl) ?_; refine HL_r rfl rfl rfl rfl (R_move rfl) ?_; refine HL_r rfl rfl rfl rfl (R_move rfl) ?_; refine HL_callR rfl rfl rfl (enters_of Tryz.func93 (by kernel_rfl) rfl) h (fun q hq => Or.inr hq) ?_; refine HL_r rfl rfl rfl rfl (R_assign rfl) ?_; refine HL_nil ?_; refine HQ_then ?_; refine hK2 _ _ _ _ ?_; clear hK2 K2; refine HC_ret ?_; refine HQ_post rfl rfl (.cons (res_tmp rfl) .nil) (fun w1 hs1 => ?_); exact ⟨rfl, hs1.keep⟩
set_option maxRecDepth 10000 in
theorem S_rowsV {R : List (Nat × Obj)} {v0 v1 v2 v : Value} (h : PureR Tryz.prog 94 [v0, v1, v2].toArray v R) : PureR Tryz.prog 49 [v0, v1, v2].toArray v R := by
  refine pureR_of_HC Tryz.func49 rfl rfl fun w => ?_; refine HC_seq fun K1 hK1 => ?_; refine HC_region ?_; refine HL_r rfl rfl rfl rfl (R_assign rfl) ?_; refine HL_nil ?_; refine HQ_then ?_; refine hK1 _ _ _ _ ?_; clear hK1 K1; refine HC_seq fun K2 hK2 => ?_; refine HC_region ?_; refine HL_r rfl rfl rfl rfl (R_move rfl) ?_; refine HL_r rfl rfl rfl rfl (R_move rfl) ?_; refine HL_r rfl rfl rfl rfl (R_move rfl) ?_; refine HL_callR rfl rfl rfl (enters_of Tryz.func94 (by kernel_rfl) rfl) h (fun q hq => Or.inr hq) ?_; refine HL_r rfl rfl rfl rfl (R_assign rfl) ?_; refine HL_nil ?_; refine HQ_then ?_; refine hK2 _ _ _ _ ?_; clear hK2 K2; refine HC_ret ?_; refine HQ_post rfl rfl (.cons (res_tmp rfl) .nil) (fun w1 hs1 => ?_); exact ⟨rfl, hs1.keep⟩
set_option maxRecDepth 10000 in
theorem S_Same {R : List (Nat × Obj)} {u : Vl} (hu : u.In R) : ∀ v : Vl, v.In R → PureR Tryz.prog 23 [u.val, v.val].toArray (.bool (sameV u v)) R := by
  induction hu with
  | @mk a b c d bits pb items pi pick ha hb hc hd hlb hsb hl hs hp hi ih =>
  intro v hv
  cases hv with
  | @mk a' b' c' d' bits' pb' items' pi' pick' ha' hb' hc' hd' hlb' hsb' hl' hs' hp' hi' =>
  rw [sameV_mk]
  have h1 := S_rowsB (S_eqBits hlb hlb' hsb hsb')
  have h2 := S_rowsV (S_eqVals (enters_of Tryz.func23 (by kernel_rfl) rfl) (fun x hx y hy => ih x hx y (hi' y hy)) hl hl' hs hs')
  refine pureR_of_HC Tryz.func23 rfl rfl fun w => ?_; refine HC_seq fun K1 hK1 => ?_; refine HC_region ?_; refine HL_box (cs := #[_, _, _, _, _, _, _]) rfl rfl rfl rfl fun r1 => ?_; refine HL_box (cs := #[_, _, _, _, _, _, _]) rfl rfl rfl rfl fun r2 => ?_; refine HL_r rfl rfl rfl rfl (R_assign rfl) ?_; refine HL_nil ?_; refine HQ_then ?_; refine hK1 _ _ _ _ ?_; clear hK1 K1; refine HC_seq fun K2 hK2 => ?_; refine HC_region ?_; refine HL_r rfl rfl rfl rfl (R_assign rfl) ?_; refine HL_nil ?_; refine HQ_then ?_; refine hK2 _ _ _ _ ?_; clear hK2 K2; refine HC_seq fun K3 hK3 => ?_; refine HC_region ?_
  refine HL_r rfl rfl rfl rfl (R_fieldAddr rfl rfl (by first | (simp only [Nat.zero_add, Nat.reduceAdd, Nat.reduceMul, Nat.zero_mul, Nat.mul_one, Nat.add_zero]; exact rfl) | exact rfl)) ?_; refine HL_r rfl rfl rfl rfl (R_loadA (vs := [_, _, _, _]) rfl (known_L (k := 1) rfl) rfl rfl rfl rfl) ?_
  refine HL_r rfl rfl rfl rfl (R_fieldAddr rfl rfl (by first | (simp only [Nat.zero_add, Nat.reduceAdd, Nat.reduceMul, Nat.zero_mul, Nat.mul_one, Nat.add_zero]; exact rfl) | exact rfl)) ?_; refine HL_r rfl rfl rfl rfl (R_loadA (vs := [_, _, _, _]) rfl (known_L (k := 0) rfl) rfl rfl rfl rfl) ?_; refine HL_r rfl rfl rfl rfl (R_eqArr rfl rfl rfl rfl rfl (by kernel_rfl) rfl rfl rfl rfl) ?_
  first | (refine HL_as (congrArg Value.bool (eq_mapU (a := [a, b, c, d]) (b := [a', b', c', d']) rfl)) ?_) | skip
  refine HL_r rfl rfl rfl rfl (R_move rfl) ?_
  refine HL_case 11 rfl (fun hb4 => ?_) (fun hb4 => ?_) <;> (try simp only [Z1, Z2, Z3, Z4, Z5, Z6, Z7, Z8, Z9, Z10, Z11, Z12, Z13] at hb4) <;> first | (refine HL_r rfl rfl rfl rfl (R_fieldAddr rfl rfl (by first | (simp only [Nat.zero_add, Nat.reduceAdd, Nat.reduceMul, Nat.zero_mul, Nat.mul_one, Nat.add_zero]; exact rfl) | exact rfl)) ?_) | (refine HL_skip rfl rfl rfl ?_)
  all_goals first
    | (refine HL_r rfl rfl rfl rfl (R_load rfl (known_L (k := 1) rfl) rfl rfl) ?_)
    | (refine HL_skip rfl rfl rfl ?_)
  all_goals first
    | (refine HL_r rfl rfl rfl rfl (R_fieldAddr rfl rfl (by first | (simp only [Nat.zero_add, Nat.reduceAdd, Nat.reduceMul, Nat.zero_mul, Nat.mul_one, Nat.add_zero]; exact rfl) | exact rfl)) ?_)
    | (refine HL_skip rfl rfl rfl ?_)
  all_goals first
    | (refine HL_r rfl rfl rfl rfl (R_load rfl (known_L (k := 0) rfl) rfl rfl) ?_)
    | (refine HL_skip rfl rfl rfl ?_)
  all_goals first
    | (refine HL_r rfl rfl rfl rfl (R_pure rfl rfl rfl) ?_)
    | (refine HL_skip rfl rfl rfl ?_)
  all_goals first
    | (refine HL_r rfl rfl rfl rfl (R_pickT rfl rfl) ?_)
    | (refine HL_r rfl rfl rfl rfl (R_pickF rfl rfl) ?_)
  all_goals refine HL_r rfl rfl rfl rfl (R_move rfl) ?_
  all_goals first
    | (refine HL_skip rfl rfl rfl ?_)
    | (refine HL_case 18 rfl (fun hb9 => ?_) (fun hb9 => ?_) <;> (try simp only [Z1, Z2, Z3, Z4, Z5, Z6, Z7, Z8, Z9, Z10, Z11, Z12, Z13] at hb9) <;> first | (refine HL_r rfl rfl rfl rfl (R_fieldAddr rfl rfl (by first | (simp only [Nat.zero_add, Nat.reduceAdd, Nat.reduceMul, Nat.zero_mul, Nat.mul_one, Nat.add_zero]; exact rfl) | exact rfl)) ?_) | (refine HL_skip rfl rfl rfl ?_))
  all_goals first
    | (refine HL_r rfl rfl rfl rfl (R_load rfl (known_L (k := 1) rfl) rfl rfl) ?_)
    | (refine HL_skip rfl rfl rfl ?_)
  all_goals first
    | (refine HL_r rfl rfl rfl rfl (R_fieldAddr rfl rfl (by first | (simp only [Nat.zero_add, Nat.reduceAdd, Nat.reduceMul, Nat.zero_mul, Nat.mul_one, Nat.add_zero]; exact rfl) | exact rfl)) ?_)
    | (refine HL_skip rfl rfl rfl ?_)
  all_goals first
    | (refine HL_r rfl rfl rfl rfl (R_load rfl (known_L (k := 0) rfl) rfl rfl) ?_)
    | (refine HL_skip rfl rfl rfl ?_)
  all_goals first
    | (refine HL_r rfl rfl rfl rfl (R_move rfl) ?_)
    | (refine HL_skip rfl rfl rfl ?_)
  all_goals first
    | (refine HL_callR rfl rfl rfl (enters_of Tryz.func48 (by kernel_rfl) rfl) h1 (fun q hq => Or.inr hq) ?_)
    | (refine HL_skip rfl rfl rfl ?_)
  all_goals first
    | (refine HL_r rfl rfl rfl rfl (R_pickT rfl rfl) ?_)
    | (refine HL_r rfl rfl rfl rfl (R_pickF rfl rfl) ?_)
  all_goals refine HL_r rfl rfl rfl rfl (R_move rfl) ?_
  all_goals first
    | (refine HL_skip rfl rfl rfl ?_)
    | (refine HL_case 26 rfl (fun hb15 => ?_) (fun hb15 => ?_) <;> (try simp only [Z1, Z2, Z3, Z4, Z5, Z6, Z7, Z8, Z9, Z10, Z11, Z12, Z13] at hb15) <;> first | (refine HL_r rfl rfl rfl rfl (R_fieldAddr rfl rfl (by first | (simp only [Nat.zero_add, Nat.reduceAdd, Nat.reduceMul, Nat.zero_mul, Nat.mul_one, Nat.add_zero]; exact rfl) | exact rfl)) ?_) | (refine HL_skip rfl rfl rfl ?_))
  all_goals first
    | (refine HL_r rfl rfl rfl rfl (R_load rfl (known_L (k := 1) rfl) rfl rfl) ?_)
    | (refine HL_skip rfl rfl rfl ?_)
  all_goals first
    | (refine HL_r rfl rfl rfl rfl (R_fieldAddr rfl rfl (by first | (simp only [Nat.zero_add, Nat.reduceAdd, Nat.reduceMul, Nat.zero_mul, Nat.mul_one, Nat.add_zero]; exact rfl) | exact rfl)) ?_)
    | (refine HL_skip rfl rfl rfl ?_)
  all_goals first
    | (refine HL_r rfl rfl rfl rfl (R_load rfl (known_L (k := 0) rfl) rfl rfl) ?_)
    | (refine HL_skip rfl rfl rfl ?_)
  all_goals first
    | (refine HL_callR rfl rfl rfl (enters_of Tryz.func49 (by kernel_rfl) rfl) h2 (fun q hq => Or.inr hq) ?_)
    | (refine HL_skip rfl rfl rfl ?_)
  all_goals first
    | (refine HL_r rfl rfl rfl rfl (R_pickT rfl rfl) ?_)
    | (refine HL_r rfl rfl rfl rfl (R_pickF rfl rfl) ?_)
  all_goals refine HL_r rfl rfl rfl rfl (R_assign rfl) ?_
  all_goals refine HL_nil ?_
  all_goals (
   refine HQ_then ?_; refine hK3 _ _ _ _ ?_; clear hK3 K3; refine HC_ret ?_; refine HQ_post rfl rfl (.cons (res_tmp rfl) .nil) (fun w1 hs1 => ?_); refine ⟨?_, hs1.keep⟩
   simp_all [resVal]
   skip)
end Go.Proofs.YtlcbfphioeppaaaGreatDoor
/-! ### Calls that turn a block and read known ones; maps put together in order; keys that are numbers -/
namespace Go.SL
set_option linter.all false
open Go Go.RowKit Go.Shelf
open Go.Proofs (Enters enters_of)
structure PureMR (P : Program) (f : FuncId) (args : Array Value) (v : Value) (r : Nat) (o o' : Obj) (Rl : List (Nat × Obj)) : Prop where
  run : ∀ w, w.heap[r]? = some o → Has Rl w → Calls P f args w fun e w' => e = .returned v ∧ Keep [r] w w' ∧ w'.heap[r]? = some o'
def cxMR (P : Program) (w : World) (r : Nat) (Rl : List (Nat × Obj)) (n : Nat) : Cx := ⟨P, none, w, [r], [], Rl, n⟩
theorem St.startMR {P : Program} {w : World} {r n : Nat} {o : Obj} {Rl : List (Nat × Obj)} (h : w.heap[r]? = some o) (hR : Has Rl w) (hne : ∀ p ∈ Rl, p.1 ≠ r) : St (cxMR P w r Rl n) [(r, o)] (fun _ _ => True) w :=
  ⟨Keep.refl _ _, fun p hp => by rw [List.mem_singleton.1 hp]; exact ⟨.inl List.mem_cons_self, by simp [cxMR], h⟩, List.pairwise_singleton _ _, fun p hp => ⟨by simp [cxMR]; exact hne p hp, by simp [cxMR], hR p hp⟩, by simp [cxMR], ⟨[], by simp, fun _ _ => trivial⟩⟩
theorem pureMR_of_HC {P : Program} {f : FuncId} {fn : Func} {code : Code} {vs : List Value} {v : Value} {r : Nat} {o o' : Obj} {Rl : List (Nat × Obj)} (hne : ∀ p ∈ Rl, p.1 ≠ r) (hf : P.funcs[f]? = some fn) (hb : fn.body = some code) (hlen : Nat.ble vs.length fn.ntmps = true)
    (h : ∀ w, HC (cxMR P w r Rl fn.ntmps) [] (frame0 0 vs) [(r, o)] (fun _ _ => True) code (bodyPostM (FW none) 0 P fn (fun e w' => e = .returned v ∧ ∃ L, (r, o') ∈ L ∧ St (cxMR P w r Rl fn.ntmps) L (fun _ _ => True) w'))) : PureMR P f vs.toArray v r o o' Rl := ⟨fun w hr hR =>
  (calls_of_HC (cxMR P w r Rl fn.ntmps) hf hb rfl rfl rfl hlen (St.startMR hr hR hne) (h w)).mono fun _ _ ⟨he, L, hm, hs⟩ => ⟨he, by have := hs.keep; simpa [cxMR] using this, (hs.own _ hm).2.2⟩⟩
section
variable {c : Cx} {l : List (Nat × Value)} {L : List (Nat × Obj)} {X : XP} {Q : Exit → Act → World → Prop} {d : List Deferred}
variable {ops : Array Oper} {rest : List Oper} {i : Nat} {v : Value} {t : TypeId} {ps : String} {af : Array Edge} {gd : Option (Nat × Bool)} {ty t2 : TypeId}
theorem St.apart {w : World} (hs : St c L X w) {k r : Nat} {o : Obj} (hk : L[k]? = some (r, o)) : ∀ p ∈ c.R, p.1 ≠ r := by
  rintro p hp rfl
  have h1 := (hs.own _ (List.mem_of_getElem? hk)).1
  obtain ⟨h2, _, h3⟩ := hs.ext p hp
  rcases h1 with h1 | h1
  · exact h2 h1
  · have := lt_of_some h3
    exact absurd this (Nat.not_lt.2 h1)
/-- Blocks of R, or of one's own but the one that is turned. -/
theorem HL_callMR {k r : Nat} {o o' : Obj} {L' : List (Nat × Obj)} {Rl : List (Nat × Obj)} {f : Operand} {args : Array Operand} {at_ : Array TypeId} {g : FuncId} {vs : List Value}
    (hg : goes l ops ⟨some i, .call ⟨.value f, args, at_⟩, ty, ps, af, gd⟩ = some true) (hi : Nat.ble (i + 1) c.n = true) (hca : callArgs l f args = some (g, vs)) (eg : Enters c.P g) (hk : L[k]? = some (r, o))
    (hp : (∀ p ∈ Rl, p.1 ≠ r) → PureMR c.P g vs.toArray v r o o' Rl) (hR : ∀ p ∈ Rl, p ∈ c.R) (hL : L.set k (r, o') = L') (h : HL c d ((i, v) :: l) L' X ops rest Q) : HL c d l L X ops (⟨some i, .call ⟨.value f, args, at_⟩, ty, ps, af, gd⟩ :: rest) Q :=
  HL_callE (α := Unit) (V := fun _ => v) (L' := fun _ => L') (X' := fun _ => X) hg hi hca eg (fun w hs => ((hp fun p hq => hs.apart hk p (hR p hq)).run w (hs.get hk) (fun p hq => hs.readR (hR p hq))).mono fun _ _ ⟨he, hkp, ho⟩ => ⟨(), he, hL ▸ hs.set hk hkp ho⟩) (fun _ => h)
theorem HL_makeMap (hg : goes l ops ⟨some i, .makeMap t none, ty, ps, af, gd⟩ = some true) (hi : Nat.ble (i + 1) c.n = true)
    (h : ∀ r, HL c d ((i, .map (some r)) :: l) ((r, .map #[] 0) :: L) X ops rest Q) : HL c d l L X ops (⟨some i, .makeMap t none, ty, ps, af, gd⟩ :: rest) Q :=
  HL_runE (α := Nat) (V := fun r => .map (some r)) (L' := fun r => (r, .map #[] 0) :: L) (X' := fun _ => X) hg rfl rfl hi (fun a w _ hs => ⟨w.heap.size, w.alloc (.map #[] 0), by simp only [execOp, Sem.run_bind, Option.map]; rfl, hs.alloc _⟩) h
theorem HL_insert {m x y : Operand} {kt et r clock q : Nat} {es : Array MapEntry} {key val : Value} {dom : Value → Prop} {eq : Value → Value → Bool} {L' : List (Nat × Obj)} (K : KeyL c.P kt dom eq) (hg : goes l ops ⟨none, .insert t m x y, ty, ps, af, gd⟩ = some true)
    (hm : evl l m = some (.map (some r))) (hx : evl l x = some key) (hy : evl l y = some val) (hq : L[q]? = some (r, .map es clock)) (ht : mapTy c.P t = some (kt, et)) (hk : dom key) (he : ∀ e ∈ es.toList, dom e.key) (hn : mapGet eq key (es.toList.map kvOf) = none)
    (hL : L.set q (r, .map (es.push { key := key, val := val, born := clock }) (clock + 1)) = L') (h : HL c d l L' X ops rest Q) : HL c d l L X ops (⟨none, .insert t m x y, ty, ps, af, gd⟩ :: rest) Q :=
  HL_run0 hg rfl rfl (fun a w hf hs => ⟨_, by
    simp only [execOp, Sem.run_bind]
    rw [hf.eval hm, hf.eval hx, hf.eval hy, run_insert K ht (hs.get hq) hk he hn]; rfl, hL ▸ hs.set hq (Keep.putObj r _) (World.putObj_heap_same (lt_of_some (hs.get hq)))⟩) h
end
/-! ### Keys that are numbers -/
def isI (v : Value) : Prop := ∃ n, v = .int .i64 n
def intEq (x y : Value) : Bool := eqS x y
theorem run_checkKey_i {P : Program} {t : TypeId} (ht : P.underlying t = some (.int .i64)) (b : Bool) (n : Nat) (x : Int) (w : World) : (Instr.checkKey b (n + 1) t (.int .i64 x)).run P w = .ok () w := by
  simp [Instr.checkKey, Sem.run_bind, run_und ht, Result.andThen]
theorem keyI {P : Program} {t : TypeId} (ht : P.underlying t = some (.int .i64)) : KeyL P t isI intEq where
  now := ⟨_, ht, fun a b ⟨a1, ha⟩ ⟨b1, hb⟩ => by subst ha hb; exact .inr (by simp [Instr.sameNow, intEq, eqS])⟩
  equal := by
    rintro _ _ w ⟨a, rfl⟩ ⟨b, rfl⟩
    exact run_eqS (by simp [scalB, ht]) (by simp [scalB, ht]) 9999 w
  check := by
    rintro _ b w ⟨x, rfl⟩
    exact run_checkKey_i ht b 9999 x w
theorem intEq_mk (a b : Int) : intEq (.int .i64 a) (.int .i64 b) = (a == b) := rfl
end Go.SL
namespace Go.Proofs.YtlcbfphioeppaaaGreatDoor
set_option linter.all false
open Go.SL Go.RowKit Go.Shelf
/-! the table of kinds -/
def kfs : List (Nat × Nat × Nat × Bool) := [(139, 142, 145, false), (146, 148, 151, false), (152, 155, 157, false), (159, 160, 0, true),
  (161, 162, 164, false), (165, 166, 0, true), (167, 168, 169, false), (170, 171, 0, true)]
def kAt (k : Int) : Nat × Nat × Nat × Bool := kfs.getD (k - 1).toNat (0, 0, 0, false)
def isK (k : Int) : Bool := decide (1 ≤ k) && decide (k ≤ 8)
def formF (k : Int) : FuncId := (kAt k).1
def ofF (k : Int) : FuncId := (kAt k).2.1
def sizeF (k : Int) : FuncId := (kAt k).2.2.1
def varB (k : Int) : Bool := (kAt k).2.2.2
def fnV (b : Bool) (f : FuncId) : Value := if b then fV f else .nilFunc
def kCells (k : Int) : List Value := [fnV (isK k) (formF k), fnV (isK k) (ofF k), fnV (isK k && !varB k) (sizeF k), .bool (varB k)]
def kEnt (j : Nat) : MapEntry := { key := .int .i64 ((j : Int) + 1), val := .agg (kCells ((j : Int) + 1)).toArray, born := j }
def kMap : Array MapEntry := #[kEnt 0, kEnt 1, kEnt 2, kEnt 3, kEnt 4, kEnt 5, kEnt 6, kEnt 7]
def kObj : Obj := .map kMap 8
theorem kMap_dom : ∀ e ∈ kMap.toList, isI e.key := by
  intro e he; simp only [kMap, List.mem_cons, List.not_mem_nil, or_false] at he
  rcases he with rfl | rfl | rfl | rfl | rfl | rfl | rfl | rfl <;> exact ⟨_, rfl⟩
theorem kMap_get (k : Int) : mapGet intEq (.int .i64 k) (kMap.toList.map kvOf) = if isK k then some (.agg (kCells k).toArray) else none := by
  by_cases h : 1 ≤ k ∧ k ≤ 8
  · have : k = 1 ∨ k = 2 ∨ k = 3 ∨ k = 4 ∨ k = 5 ∨ k = 6 ∨ k = 7 ∨ k = 8 := by omega
    rcases this with rfl | rfl | rfl | rfl | rfl | rfl | rfl | rfl <;> rfl
  · have e : isK k = false := by unfold isK; simp; omega
    rw [e]
    have h1 : k ≠ 1 := by omega
    have h2 : k ≠ 2 := by omega
    have h3 : k ≠ 3 := by omega
    have h4 : k ≠ 4 := by omega
    have h5 : k ≠ 5 := by omega
    have h6 : k ≠ 6 := by omega
    have h7 : k ≠ 7 := by omega
    have h8 : k ≠ 8 := by omega
    simp [kMap, kEnt, kvOf, mapGet, intEq_mk, h1, h2, h3, h4, h5, h6, h7, h8]
theorem kMap_val (k : Int) : (if true = true then Value.tuple #[((mapGet intEq (.int .i64 k) (kMap.toList.map kvOf)).getD (.agg #[.nilFunc, .nilFunc, .nilFunc, .bool false])), .bool (mapGet intEq (.int .i64 k) (kMap.toList.map kvOf)).isSome] else (mapGet intEq (.int .i64 k) (kMap.toList.map kvOf)).getD (.agg #[.nilFunc, .nilFunc, .nilFunc, .bool false])) =
    .tuple #[.agg (kCells k).toArray, .bool (isK k)] := by
  rw [kMap_get, if_pos rfl]
  cases h : isK k with
  | true => rfl
  | false =>
    have : varB k = false := by
      unfold isK at h
      simp at h
      unfold varB kAt
      by_cases h1 : 1 ≤ k
      · have := h h1
        rw [List.getD_eq_getElem?_getD, List.getElem?_eq_none (by show 8 ≤ _; omega)]; rfl
      · have : (k - 1).toNat = 0 := by omega
        rw [this]; rfl
    simp [kCells, fnV, h, this]
theorem kMap_val0 {k : Int} (h : isK k = true) : (if false = true then Value.tuple #[((mapGet intEq (.int .i64 k) (kMap.toList.map kvOf)).getD (.agg #[.nilFunc, .nilFunc, .nilFunc, .bool false])), .bool (mapGet intEq (.int .i64 k) (kMap.toList.map kvOf)).isSome] else (mapGet intEq (.int .i64 k) (kMap.toList.map kvOf)).getD (.agg #[.nilFunc, .nilFunc, .nilFunc, .bool false])) =
    .agg (kCells k).toArray := by
  rw [kMap_get, h]; rfl
set_option maxRecDepth 10000 in
theorem E_kinds : PureE (α := Nat) Tryz.prog 91 [].toArray (fun r => .map (some r)) (fun r => [(r, kObj)]) := by
  refine pureE_of_HC Tryz.func91 rfl rfl fun w => ?_; refine HC_seq fun K1 hK1 => ?_; refine HC_region ?_; refine HL_r rfl rfl rfl rfl (R_assign rfl) ?_; refine HL_nil ?_; refine HQ_then ?_; refine hK1 _ _ _ _ ?_; clear hK1 K1; refine HC_seq fun K2 hK2 => ?_; refine HC_region ?_; refine HL_makeMap rfl rfl fun mr => ?_; refine HL_r rfl rfl rfl rfl (R_build (r := [_, _, _, _]) rfl rfl) ?_; refine HL_insert (q := 0) (key := .int .i64 1) (keyI (t := 3) (by kernel_rfl)) rfl rfl rfl rfl rfl rfl ⟨_, rfl⟩ (by intro e he; simp at he) rfl rfl ?_; refine HL_r rfl rfl rfl rfl (R_build (r := [_, _, _, _]) rfl rfl) ?_
  refine HL_insert (q := 0) (key := .int .i64 2) (keyI (t := 3) (by kernel_rfl)) rfl rfl rfl rfl rfl rfl ⟨_, rfl⟩ (by intro e he; simp at he; rcases he with rfl <;> exact ⟨_, rfl⟩) rfl rfl ?_; refine HL_r rfl rfl rfl rfl (R_build (r := [_, _, _, _]) rfl rfl) ?_
  refine HL_insert (q := 0) (key := .int .i64 3) (keyI (t := 3) (by kernel_rfl)) rfl rfl rfl rfl rfl rfl ⟨_, rfl⟩ (by intro e he; simp at he; rcases he with rfl | rfl <;> exact ⟨_, rfl⟩) rfl rfl ?_; refine HL_r rfl rfl rfl rfl (R_build (r := [_, _, _, _]) rfl rfl) ?_
  refine HL_insert (q := 0) (key := .int .i64 4) (keyI (t := 3) (by kernel_rfl)) rfl rfl rfl rfl rfl rfl ⟨_, rfl⟩ (by intro e he; simp at he; rcases he with rfl | rfl | rfl <;> exact ⟨_, rfl⟩) rfl rfl ?_; refine HL_r rfl rfl rfl rfl (R_build (r := [_, _, _, _]) rfl rfl) ?_
  refine HL_insert (q := 0) (key := .int .i64 5) (keyI (t := 3) (by kernel_rfl)) rfl rfl rfl rfl rfl rfl ⟨_, rfl⟩ (by intro e he; simp at he; rcases he with rfl | rfl | rfl | rfl <;> exact ⟨_, rfl⟩) rfl rfl ?_; refine HL_r rfl rfl rfl rfl (R_build (r := [_, _, _, _]) rfl rfl) ?_
  refine HL_insert (q := 0) (key := .int .i64 6) (keyI (t := 3) (by kernel_rfl)) rfl rfl rfl rfl rfl rfl ⟨_, rfl⟩ (by intro e he; simp at he; rcases he with rfl | rfl | rfl | rfl | rfl <;> exact ⟨_, rfl⟩) rfl rfl ?_; refine HL_r rfl rfl rfl rfl (R_build (r := [_, _, _, _]) rfl rfl) ?_
  refine HL_insert (q := 0) (key := .int .i64 7) (keyI (t := 3) (by kernel_rfl)) rfl rfl rfl rfl rfl rfl ⟨_, rfl⟩ (by intro e he; simp at he; rcases he with rfl | rfl | rfl | rfl | rfl | rfl <;> exact ⟨_, rfl⟩) rfl rfl ?_; refine HL_r rfl rfl rfl rfl (R_build (r := [_, _, _, _]) rfl rfl) ?_
  refine HL_insert (q := 0) (key := .int .i64 8) (keyI (t := 3) (by kernel_rfl)) rfl rfl rfl rfl rfl rfl ⟨_, rfl⟩ (by intro e he; simp at he; rcases he with rfl | rfl | rfl | rfl | rfl | rfl | rfl <;> exact ⟨_, rfl⟩) rfl rfl ?_; refine HL_r rfl rfl rfl rfl (R_move rfl) ?_; refine HL_r rfl rfl rfl rfl (R_assign rfl) ?_; refine HL_nil ?_; refine HQ_then ?_; refine hK2 _ _ _ _ ?_; clear hK2 K2; refine HC_ret ?_; refine HQ_post rfl rfl (.cons (res_tmp rfl) .nil) (fun w1 hs1 => ?_); exact ⟨mr, rfl, hs1⟩
end Go.Proofs.YtlcbfphioeppaaaGreatDoor
namespace Go.Proofs.YtlcbfphioeppaaaGreatDoor
set_option linter.all false
open Go.SL Go.RowKit Go.Shelf
set_option maxRecDepth 10000 in
theorem S_none {R : List (Nat × Obj)} {k n : Int} {p : Pl} {ins : List Ty} (ht : Ty.In R (.mk k n p ins)) : PureR Tryz.prog 140 [Ty.val (.mk k n p ins)].toArray (.bool (decide (ins.length = 0))) R := by
  cases ht with
  | mk hk hn hl hs hi =>
  refine pureR_of_HC Tryz.func140 rfl rfl fun w => ?_; refine HC_seq fun K1 hK1 => ?_; refine HC_region ?_; refine HL_box (cs := #[_, _, _]) rfl rfl rfl rfl fun r1 => ?_; refine HL_r rfl rfl rfl rfl (R_assign rfl) ?_; refine HL_nil ?_; refine HQ_then ?_; refine hK1 _ _ _ _ ?_; clear hK1 K1; refine HC_seq fun K2 hK2 => ?_; refine HC_region ?_
  refine HL_r rfl rfl rfl rfl (R_fieldAddr rfl rfl (by first | (simp only [Nat.zero_add, Nat.reduceAdd, Nat.reduceMul, Nat.zero_mul, Nat.mul_one, Nat.add_zero]; exact rfl) | exact rfl)) ?_; refine HL_r rfl rfl rfl rfl (R_load rfl (known_L (k := 0) rfl) rfl rfl) ?_; refine HL_r rfl rfl rfl rfl (R_lenPl rfl hs rfl) ?_; refine HL_r rfl rfl rfl rfl (R_pure rfl rfl rfl) ?_; refine HL_r rfl rfl rfl rfl (R_assign rfl) ?_; refine HL_nil ?_; refine HQ_then ?_; refine hK2 _ _ _ _ ?_; clear hK2 K2; refine HC_ret ?_; refine HQ_post rfl rfl (.cons (res_tmp rfl) .nil) (fun w1 hs1 => ?_); exact ⟨congrArg (fun b => Ending.returned (Value.bool b)) (by rw [Bool.eq_iff_iff]; simp only [beq_iff_eq, decide_eq_true_eq]; omega), hs1.keep⟩
set_option maxRecDepth 10000 in
theorem S_plain {R : List (Nat × Obj)} {k n : Int} {p : Pl} {ins : List Ty} (ht : Ty.In R (.mk k n p ins)) : PureR Tryz.prog 147 [Ty.val (.mk k n p ins)].toArray (.bool (decide (n = 0))) R := by
  cases ht with
  | mk hk hn hl hs hi =>
  refine pureR_of_HC Tryz.func147 rfl rfl fun w => ?_; refine HC_seq fun K1 hK1 => ?_; refine HC_region ?_; refine HL_box (cs := #[_, _, _]) rfl rfl rfl rfl fun r1 => ?_; refine HL_r rfl rfl rfl rfl (R_assign rfl) ?_; refine HL_nil ?_; refine HQ_then ?_; refine hK1 _ _ _ _ ?_; clear hK1 K1; refine HC_seq fun K2 hK2 => ?_; refine HC_region ?_
  refine HL_r rfl rfl rfl rfl (R_fieldAddr rfl rfl (by first | (simp only [Nat.zero_add, Nat.reduceAdd, Nat.reduceMul, Nat.zero_mul, Nat.mul_one, Nat.add_zero]; exact rfl) | exact rfl)) ?_; refine HL_r rfl rfl rfl rfl (R_load rfl (known_L (k := 0) rfl) rfl rfl) ?_; refine HL_r rfl rfl rfl rfl (R_pure rfl rfl rfl) ?_; refine HL_r rfl rfl rfl rfl (R_assign rfl) ?_; refine HL_nil ?_; refine HQ_then ?_; refine hK2 _ _ _ _ ?_; clear hK2 K2; refine HC_ret ?_; refine HQ_post rfl rfl (.cons (res_tmp rfl) .nil) (fun w1 hs1 => ?_); refine ⟨?_, hs1.keep⟩
  simp_all [resVal]
  first | done | rfl | omega | (rw [Bool.eq_iff_iff]; simp only [Bool.and_eq_true, Bool.or_eq_true, decide_eq_true_eq, beq_iff_eq]; omega) | (simp only [decide_eq_true_eq, decide_eq_false_iff_not]; omega)
set_option maxRecDepth 10000 in
theorem S_row {R : List (Nat × Obj)} {k n : Int} {p : Pl} {ins : List Ty} (ht : Ty.In R (.mk k n p ins)) : PureR Tryz.prog 154 [Ty.val (.mk k n p ins)].toArray (.bool (decide (1 ≤ n) && decide (n ≤ 512))) R := by
  cases ht with
  | mk hk hn hl hs hi =>
  refine pureR_of_HC Tryz.func154 rfl rfl fun w => ?_; refine HC_seq fun K1 hK1 => ?_; refine HC_region ?_; refine HL_box (cs := #[_, _, _]) rfl rfl rfl rfl fun r1 => ?_; refine HL_r rfl rfl rfl rfl (R_assign rfl) ?_; refine HL_nil ?_; refine HQ_then ?_; refine hK1 _ _ _ _ ?_; clear hK1 K1; refine HC_seq fun K2 hK2 => ?_; refine HC_region ?_
  refine HL_r rfl rfl rfl rfl (R_fieldAddr rfl rfl (by first | (simp only [Nat.zero_add, Nat.reduceAdd, Nat.reduceMul, Nat.zero_mul, Nat.mul_one, Nat.add_zero]; exact rfl) | exact rfl)) ?_; refine HL_r rfl rfl rfl rfl (R_load rfl (known_L (k := 0) rfl) rfl rfl) ?_; refine HL_r rfl rfl rfl rfl (R_pure rfl rfl rfl) ?_; refine HL_r rfl rfl rfl rfl (R_move rfl) ?_
  refine HL_case 6 rfl (fun hb3 => ?_) (fun hb3 => ?_) <;> (try simp only [Z1, Z2, Z3, Z4, Z5, Z6, Z7, Z8, Z9, Z10, Z11, Z12, Z13] at hb3) <;> first | (refine HL_r rfl rfl rfl rfl (R_fieldAddr rfl rfl (by first | (simp only [Nat.zero_add, Nat.reduceAdd, Nat.reduceMul, Nat.zero_mul, Nat.mul_one, Nat.add_zero]; exact rfl) | exact rfl)) ?_) | (refine HL_skip rfl rfl rfl ?_)
  all_goals first
    | (refine HL_r rfl rfl rfl rfl (R_load rfl (known_L (k := 0) rfl) rfl rfl) ?_)
    | (refine HL_skip rfl rfl rfl ?_)
  all_goals first
    | (refine HL_r rfl rfl rfl rfl (R_pure rfl rfl rfl) ?_)
    | (refine HL_skip rfl rfl rfl ?_)
  all_goals first
    | (refine HL_r rfl rfl rfl rfl (R_pickT rfl rfl) ?_)
    | (refine HL_r rfl rfl rfl rfl (R_pickF rfl rfl) ?_)
  all_goals refine HL_r rfl rfl rfl rfl (R_assign rfl) ?_
  all_goals refine HL_nil ?_
  all_goals (
   refine HQ_then ?_; refine hK2 _ _ _ _ ?_; clear hK2 K2; refine HC_ret ?_; refine HQ_post rfl rfl (.cons (res_tmp rfl) .nil) (fun w1 hs1 => ?_); refine ⟨?_, hs1.keep⟩
   simp_all [resVal]
   all_goals first | done | rfl | omega | (rw [Bool.eq_iff_iff]; simp only [Bool.and_eq_true, Bool.or_eq_true, decide_eq_true_eq, beq_iff_eq]; omega) | (simp only [decide_eq_true_eq, decide_eq_false_iff_not]; omega)
   skip)
set_option maxRecDepth 10000 in
theorem S_many {R : List (Nat × Obj)} {k n : Int} {p : Pl} {ins : List Ty} (ht : Ty.In R (.mk k n p ins)) (most : Int) : PureR Tryz.prog 153 [Ty.val (.mk k n p ins), .int .i64 most].toArray (.bool (decide (1 ≤ ins.length) && decide ((ins.length : Int) ≤ most))) R := by
  cases ht with
  | mk hk hn hl hs hi =>
  refine pureR_of_HC Tryz.func153 rfl rfl fun w => ?_; refine HC_seq fun K1 hK1 => ?_; refine HC_region ?_; refine HL_box (cs := #[_, _, _]) rfl rfl rfl rfl fun r1 => ?_; refine HL_r rfl rfl rfl rfl (R_assign rfl) ?_; refine HL_nil ?_; refine HQ_then ?_; refine hK1 _ _ _ _ ?_; clear hK1 K1; refine HC_seq fun K2 hK2 => ?_; refine HC_region ?_
  refine HL_r rfl rfl rfl rfl (R_fieldAddr rfl rfl (by first | (simp only [Nat.zero_add, Nat.reduceAdd, Nat.reduceMul, Nat.zero_mul, Nat.mul_one, Nat.add_zero]; exact rfl) | exact rfl)) ?_; refine HL_r rfl rfl rfl rfl (R_load rfl (known_L (k := 0) rfl) rfl rfl) ?_; refine HL_r rfl rfl rfl rfl (R_lenPl rfl hs rfl) ?_; refine HL_r rfl rfl rfl rfl (R_pure rfl rfl rfl) ?_; refine HL_r rfl rfl rfl rfl (R_move rfl) ?_
  refine HL_case 9 rfl (fun hb3 => ?_) (fun hb3 => ?_) <;> (try simp only [Z1, Z2, Z3, Z4, Z5, Z6, Z7, Z8, Z9, Z10, Z11, Z12, Z13] at hb3) <;> first | (refine HL_r rfl rfl rfl rfl (R_fieldAddr rfl rfl (by first | (simp only [Nat.zero_add, Nat.reduceAdd, Nat.reduceMul, Nat.zero_mul, Nat.mul_one, Nat.add_zero]; exact rfl) | exact rfl)) ?_) | (refine HL_skip rfl rfl rfl ?_)
  all_goals first
    | (refine HL_r rfl rfl rfl rfl (R_load rfl (known_L (k := 0) rfl) rfl rfl) ?_)
    | (refine HL_skip rfl rfl rfl ?_)
  all_goals first
    | (refine HL_r rfl rfl rfl rfl (R_lenPl rfl hs rfl) ?_)
    | (refine HL_skip rfl rfl rfl ?_)
  all_goals first
    | (refine HL_r rfl rfl rfl rfl (R_move rfl) ?_)
    | (refine HL_skip rfl rfl rfl ?_)
  all_goals first
    | (refine HL_r rfl rfl rfl rfl (R_pure rfl rfl rfl) ?_)
    | (refine HL_skip rfl rfl rfl ?_)
  all_goals first
    | (refine HL_r rfl rfl rfl rfl (R_pickT rfl rfl) ?_)
    | (refine HL_r rfl rfl rfl rfl (R_pickF rfl rfl) ?_)
  all_goals refine HL_r rfl rfl rfl rfl (R_assign rfl) ?_
  all_goals refine HL_nil ?_
  all_goals (
   refine HQ_then ?_; refine hK2 _ _ _ _ ?_; clear hK2 K2; refine HC_ret ?_; refine HQ_post rfl rfl (.cons (res_tmp rfl) .nil) (fun w1 hs1 => ?_); refine ⟨?_, hs1.keep⟩
   simp_all [resVal]
   first | done | rfl | omega | (rw [Bool.eq_iff_iff]; simp only [Bool.and_eq_true, Bool.or_eq_true, decide_eq_true_eq, beq_iff_eq]; omega) | (simp only [decide_eq_true_eq, decide_eq_false_iff_not]; omega)
   skip)
def idxL : List Int → Int → Int → Int
  | [], _, _ => -1
  | y :: ys, x, j => if x = y then j else idxL ys x (j + 1)
def intsC (l : List Int) : List Value := l.map (Value.int .i64)
set_option maxRecDepth 10000 in
theorem S_Index {R : List (Nat × Obj)} {xs : List Int} {p : Pl} (x : Int) (hl : xs.length ≤ 9223372036854775807) (hs : Seg R xs.length (intsC xs) p) : PureR Tryz.prog 199 [plV xs.length p, .int .i64 x].toArray (.int .i64 (idxL xs x 0)) R := by
  refine pureR_of_HC Tryz.func199 rfl rfl fun w => ?_; refine HC_seq fun K1 hK1 => ?_; refine HC_region ?_; refine HL_r rfl rfl rfl rfl (R_assign rfl) ?_; refine HL_nil ?_; refine HQ_then ?_; refine hK1 _ _ _ _ ?_; clear hK1 K1; refine HC_seq fun K2 hK2 => ?_; refine HC_seq fun K3 hK3 => ?_; refine HC_region ?_; refine HL_r rfl rfl rfl rfl (R_move rfl) ?_; refine HL_r rfl rfl rfl rfl (R_lenPl rfl hs rfl) ?_; refine HL_r rfl rfl rfl rfl (R_move rfl) ?_; refine HL_nil ?_; refine HQ_then ?_; refine hK3 _ _ _ _ ?_; clear hK3 K3; refine HC_block ?_; refine HC_loop (σ := Nat) (fun i => i ≤ xs.length ∧ idxL (xs.drop i) x (i : Int) = idxL xs x 0) (fun i => [(0, plV xs.length p), (1, .int .i64 x), (7, .int .i64 (xs.length : Int)), (8, .int .i64 (i : Int))]) (fun _ => []) (fun _ _ _ => True) (fun i => xs.length - i) 0 ⟨by omega, rfl⟩ (.cons rfl (.cons rfl (.cons rfl (.cons rfl .nil)))) (List.nil_sublist _) (fun _ _ h => h) ?_; rintro i ⟨hi1, hinv⟩; refine HC_seq fun K4 hK4 => ?_; refine HC_region ?_; refine HL_r rfl rfl rfl rfl (R_pure rfl rfl rfl) ?_; refine HL_nil ?_; refine HQ_then ?_; refine hK4 _ _ _ _ ?_; clear hK4 K4; refine HC_seq fun K5 hK5 => ?_; refine HC_cond rfl (fun h6 => ?_) (fun h6 => ?_)
  · try exact Bool.noConfusion h6
    try simp only [Z1, Z2, Z3, Z4, Z5, Z6, Z7, Z8, Z9, Z10, Z11, Z12, Z13] at h6
    refine HC_skip ?_; refine HQ_then ?_; refine hK5 _ _ _ _ ?_; clear hK5 K5; refine HC_seq fun K7 hK7 => ?_; refine HC_block ?_; refine HC_seq fun K8 hK8 => ?_; refine HC_region ?_; refine HL_r rfl rfl rfl rfl (R_move rfl) ?_; refine HL_r rfl rfl rfl rfl (R_assign rfl) ?_; refine HL_nil ?_; refine HQ_then ?_; refine hK8 _ _ _ _ ?_; clear hK8 K8; refine HC_seq fun K9 hK9 => ?_
    obtain ⟨y, hy, hmy⟩ := getI (show i < xs.length by omega)
    rw [dropI hy, idxL] at hinv; refine HC_region ?_; refine HL_r rfl rfl rfl rfl (R_move rfl) ?_; refine HL_r rfl rfl rfl rfl (R_move rfl) ?_; refine HL_r rfl rfl rfl rfl (R_move rfl) ?_; refine HL_r rfl rfl rfl rfl (R_indexPl (j := i) rfl hs rfl rfl rfl rfl (by omega)) ?_; refine HL_r rfl rfl rfl rfl (R_loadPl1 (v := .int .i64 y) (j := i) (fun q hq => Or.inr hq) rfl hs (by omega) rfl (by unfold intsC; rw [List.getElem?_map, hy]; rfl)) ?_; refine HL_r rfl rfl rfl rfl (R_pure rfl rfl rfl) ?_; refine HL_nil ?_; refine HQ_then ?_; refine hK9 _ _ _ _ ?_; clear hK9 K9; refine HC_cond rfl (fun h10 => ?_) (fun h10 => ?_)
    · try exact Bool.noConfusion h10
      try simp only [Z1, Z2, Z3, Z4, Z5, Z6, Z7, Z8, Z9, Z10, Z11, Z12, Z13] at h10
      refine HC_seq fun K11 hK11 => ?_; refine HC_region ?_; refine HL_r rfl rfl rfl rfl (R_move rfl) ?_; refine HL_r rfl rfl rfl rfl (R_assign rfl) ?_; refine HL_nil ?_; refine HQ_then ?_; refine hK11 _ _ _ _ ?_; clear hK11 K11; refine HC_ret ?_; refine HQ_blockR ?_; refine HQ_thenR ?_; clear hK7 K7; refine HQ_thenR ?_; refine HQ_blockR ?_; refine HQ_thenR ?_; clear hK2 K2; refine HQ_post rfl rfl (.cons (res_tmp rfl) .nil) (fun w1 hs1 => ?_); refine ⟨?_, hs1.keep⟩; rw [← hinv, if_pos (by assumption)]; rfl
    · try exact Bool.noConfusion h10
      try simp only [Z1, Z2, Z3, Z4, Z5, Z6, Z7, Z8, Z9, Z10, Z11, Z12, Z13] at h10
      refine HC_skip ?_; refine HQ_blockN ?_; refine HQ_then ?_; refine hK7 _ _ _ _ ?_; clear hK7 K7; refine HC_region ?_; refine HL_r rfl rfl rfl rfl (R_pure rfl rfl rfl) ?_; refine HL_wrap_i64 (by omega) (by omega) ?_; refine HL_r rfl rfl rfl rfl (R_move rfl) ?_; refine HL_nil ?_; refine HQ_then ?_; exact HQ_again (i + 1) ⟨by omega, by rw [if_neg (by assumption)] at hinv; exact hinv⟩ (by omega) (.cons rfl (.cons rfl (.cons rfl (.cons rfl .nil)))) (List.nil_sublist _) (fun _ _ h => h)
  · try exact Bool.noConfusion h6
    try simp only [Z1, Z2, Z3, Z4, Z5, Z6, Z7, Z8, Z9, Z10, Z11, Z12, Z13] at h6
    refine HC_exit ?_; refine HQ_thenE ?_; clear hK5 K5; refine HQ_thenE ?_; refine HQ_blockE ?_; refine HQ_then ?_; refine hK2 _ _ _ _ ?_; clear hK2 K2; refine HC_seq fun K12 hK12 => ?_; refine HC_region ?_; refine HL_r rfl rfl rfl rfl (R_assign rfl) ?_; refine HL_nil ?_; refine HQ_then ?_; refine hK12 _ _ _ _ ?_; clear hK12 K12; refine HC_ret ?_; refine HQ_post rfl rfl (.cons (res_tmp rfl) .nil) (fun w1 hs1 => ?_); refine ⟨?_, hs1.keep⟩; rw [← hinv, List.drop_of_length_le (by omega), idxL]; rfl
set_option maxRecDepth 10000 in
theorem S_Contains {R : List (Nat × Obj)} {xs : List Int} {p : Pl} (x : Int) (hl : xs.length ≤ 9223372036854775807) (hs : Seg R xs.length (intsC xs) p) : PureR Tryz.prog 141 [plV xs.length p, .int .i64 x].toArray (.bool (decide (0 ≤ idxL xs x 0))) R := by
  have h := S_Index x hl hs
  refine pureR_of_HC Tryz.func141 rfl rfl fun w => ?_; refine HC_seq fun K1 hK1 => ?_; refine HC_region ?_; refine HL_r rfl rfl rfl rfl (R_assign rfl) ?_; refine HL_nil ?_; refine HQ_then ?_; refine hK1 _ _ _ _ ?_; clear hK1 K1; refine HC_seq fun K2 hK2 => ?_; refine HC_region ?_; refine HL_r rfl rfl rfl rfl (R_move rfl) ?_; refine HL_r rfl rfl rfl rfl (R_move rfl) ?_; refine HL_callR rfl rfl rfl (enters_of Tryz.func199 (by kernel_rfl) rfl) h (fun q hq => Or.inr hq) ?_; refine HL_r rfl rfl rfl rfl (R_pure rfl rfl rfl) ?_; refine HL_r rfl rfl rfl rfl (R_assign rfl) ?_; refine HL_nil ?_; refine HQ_then ?_; refine hK2 _ _ _ _ ?_; clear hK2 K2; refine HC_ret ?_; refine HQ_post rfl rfl (.cons (res_tmp rfl) .nil) (fun w1 hs1 => ?_); exact ⟨rfl, hs1.keep⟩
theorem idx5 (n : Int) : decide (0 ≤ idxL [1, 2, 4, 8, 32] n 0) = (decide (n = 1) || decide (n = 2) || decide (n = 4) || decide (n = 8) || decide (n = 32)) := by
  simp only [idxL]
  by_cases h1 : n = 1
  · simp [h1]
  by_cases h2 : n = 2
  · simp [h2]
  by_cases h4 : n = 4
  · simp [h4]
  by_cases h8 : n = 8
  · simp [h8]
  by_cases h32 : n = 32
  · simp [h32]
  simp [h1, h2, h4, h8, h32]
set_option maxRecDepth 10000 in
theorem F_1 {R : List (Nat × Obj)} {n : Int} {p : Pl} {ins : List Ty} (ht : Ty.In R (.mk 1 n p ins)) : PureR Tryz.prog 139 [Ty.val (.mk 1 n p ins)].toArray (.bool (okForm 1 n ins.length)) R := by
  have hno := S_none ht
  have hpl := S_plain ht
  have hro := S_row ht
  have hma := fun m => S_many ht m
  cases ht with
  | mk hk hn hl hs hi =>
  refine pureR_of_HC Tryz.func139 rfl rfl fun w => ?_; refine HC_seq fun K1 hK1 => ?_; refine HC_region ?_; refine HL_box (cs := #[_, _, _]) rfl rfl rfl rfl fun r1 => ?_; refine HL_r rfl rfl rfl rfl (R_assign rfl) ?_; refine HL_nil ?_; refine HQ_then ?_; refine hK1 _ _ _ _ ?_; clear hK1 K1; refine HC_seq fun K2 hK2 => ?_; refine HC_region ?_; refine HL_r rfl rfl rfl rfl (R_loadA (vs := [_, _, _]) rfl (known_L (k := 0) rfl) rfl rfl rfl rfl) ?_; refine HL_callR rfl rfl rfl (enters_of Tryz.func140 (by kernel_rfl) rfl) hno (fun q hq => Or.inr hq) ?_; refine HL_r rfl rfl rfl rfl (R_move rfl) ?_
  refine HL_case 5 rfl (fun hb3 => ?_) (fun hb3 => ?_) <;> (try simp only [Z1, Z2, Z3, Z4, Z5, Z6, Z7, Z8, Z9, Z10, Z11, Z12, Z13] at hb3) <;> first | (refine HL_buildSlice (vs := [_, _, _, _, _]) (zs := [_, _, _, _, _]) (r := [_, _, _, _, _]) rfl rfl rfl rfl rfl rfl rfl rfl rfl (by show (madeCells #[_] _).toList = _; rw [made_one]; exact rfl) rfl fun r2 => ?_) | (refine HL_skip rfl rfl rfl ?_)
  all_goals first
    | (refine HL_r rfl rfl rfl rfl (R_fieldAddr rfl rfl (by first | (simp only [Nat.zero_add, Nat.reduceAdd, Nat.reduceMul, Nat.zero_mul, Nat.mul_one, Nat.add_zero]; exact rfl) | exact rfl)) ?_)
    | (refine HL_skip rfl rfl rfl ?_)
  all_goals first
    | (refine HL_r rfl rfl rfl rfl (R_load rfl (known_L (k := 1) rfl) rfl rfl) ?_)
    | (refine HL_skip rfl rfl rfl ?_)
  all_goals first
    | (refine HL_callR rfl rfl rfl (enters_of Tryz.func141 (by kernel_rfl) rfl) (S_Contains (R := [(r2, _)]) (xs := [1, 2, 4, 8, 32]) (p := some (⟨r2, 0, none⟩, 5)) n (by decide) ⟨by decide, fun _ => ⟨rfl, _, _, _, List.mem_cons_self, rfl⟩⟩) (fun q hq => .inl (by rw [List.mem_singleton.1 hq]; exact List.mem_cons_self)) ?_; refine HL_as (congrArg Value.bool (idx5 n)) ?_)
    | (refine HL_skip rfl rfl rfl ?_)
  all_goals first
    | (refine HL_r rfl rfl rfl rfl (R_pickT rfl rfl) ?_)
    | (refine HL_r rfl rfl rfl rfl (R_pickF rfl rfl) ?_)
  all_goals refine HL_r rfl rfl rfl rfl (R_assign rfl) ?_
  all_goals refine HL_nil ?_
  all_goals (
   refine HQ_then ?_; refine hK2 _ _ _ _ ?_; clear hK2 K2; refine HC_ret ?_; refine HQ_post rfl rfl (.cons (res_tmp rfl) .nil) (fun w1 hs1 => ?_); refine ⟨?_, hs1.keep⟩
   unfold okForm
   simp_all [resVal]
   skip)
set_option maxRecDepth 10000 in
theorem F_2 {R : List (Nat × Obj)} {n : Int} {p : Pl} {ins : List Ty} (ht : Ty.In R (.mk 2 n p ins)) : PureR Tryz.prog 146 [Ty.val (.mk 2 n p ins)].toArray (.bool (okForm 2 n ins.length)) R := by
  have hno := S_none ht
  have hpl := S_plain ht
  have hro := S_row ht
  have hma := fun m => S_many ht m
  cases ht with
  | mk hk hn hl hs hi =>
  refine pureR_of_HC Tryz.func146 rfl rfl fun w => ?_; refine HC_seq fun K1 hK1 => ?_; refine HC_region ?_; refine HL_box (cs := #[_, _, _]) rfl rfl rfl rfl fun r1 => ?_; refine HL_r rfl rfl rfl rfl (R_assign rfl) ?_; refine HL_nil ?_; refine HQ_then ?_; refine hK1 _ _ _ _ ?_; clear hK1 K1; refine HC_seq fun K2 hK2 => ?_; refine HC_region ?_; refine HL_r rfl rfl rfl rfl (R_loadA (vs := [_, _, _]) rfl (known_L (k := 0) rfl) rfl rfl rfl rfl) ?_; refine HL_callR rfl rfl rfl (enters_of Tryz.func140 (by kernel_rfl) rfl) hno (fun q hq => Or.inr hq) ?_; refine HL_r rfl rfl rfl rfl (R_move rfl) ?_
  refine HL_case 5 rfl (fun hb3 => ?_) (fun hb3 => ?_) <;> (try simp only [Z1, Z2, Z3, Z4, Z5, Z6, Z7, Z8, Z9, Z10, Z11, Z12, Z13] at hb3) <;> first | (refine HL_r rfl rfl rfl rfl (R_loadA (vs := [_, _, _]) rfl (known_L (k := 0) rfl) rfl rfl rfl rfl) ?_) | (refine HL_skip rfl rfl rfl ?_)
  all_goals first
    | (refine HL_callR rfl rfl rfl (enters_of Tryz.func147 (by kernel_rfl) rfl) hpl (fun q hq => Or.inr hq) ?_)
    | (refine HL_skip rfl rfl rfl ?_)
  all_goals first
    | (refine HL_r rfl rfl rfl rfl (R_pickT rfl rfl) ?_)
    | (refine HL_r rfl rfl rfl rfl (R_pickF rfl rfl) ?_)
  all_goals refine HL_r rfl rfl rfl rfl (R_assign rfl) ?_
  all_goals refine HL_nil ?_
  all_goals (
   refine HQ_then ?_; refine hK2 _ _ _ _ ?_; clear hK2 K2; refine HC_ret ?_; refine HQ_post rfl rfl (.cons (res_tmp rfl) .nil) (fun w1 hs1 => ?_); refine ⟨?_, hs1.keep⟩
   unfold okForm
   simp_all [resVal]
   skip)
set_option maxRecDepth 10000 in
theorem F_3 {R : List (Nat × Obj)} {n : Int} {p : Pl} {ins : List Ty} (ht : Ty.In R (.mk 3 n p ins)) : PureR Tryz.prog 152 [Ty.val (.mk 3 n p ins)].toArray (.bool (okForm 3 n ins.length)) R := by
  have hno := S_none ht
  have hpl := S_plain ht
  have hro := S_row ht
  have hma := fun m => S_many ht m
  cases ht with
  | mk hk hn hl hs hi =>
  refine pureR_of_HC Tryz.func152 rfl rfl fun w => ?_; refine HC_seq fun K1 hK1 => ?_; refine HC_region ?_; refine HL_box (cs := #[_, _, _]) rfl rfl rfl rfl fun r1 => ?_; refine HL_r rfl rfl rfl rfl (R_assign rfl) ?_; refine HL_nil ?_; refine HQ_then ?_; refine hK1 _ _ _ _ ?_; clear hK1 K1; refine HC_seq fun K2 hK2 => ?_; refine HC_region ?_; refine HL_r rfl rfl rfl rfl (R_loadA (vs := [_, _, _]) rfl (known_L (k := 0) rfl) rfl rfl rfl rfl) ?_; refine HL_callR rfl rfl rfl (enters_of Tryz.func153 (by kernel_rfl) rfl) (hma 1) (fun q hq => Or.inr hq) ?_; refine HL_r rfl rfl rfl rfl (R_move rfl) ?_
  refine HL_case 5 rfl (fun hb3 => ?_) (fun hb3 => ?_) <;> (try simp only [Z1, Z2, Z3, Z4, Z5, Z6, Z7, Z8, Z9, Z10, Z11, Z12, Z13] at hb3) <;> first | (refine HL_r rfl rfl rfl rfl (R_loadA (vs := [_, _, _]) rfl (known_L (k := 0) rfl) rfl rfl rfl rfl) ?_) | (refine HL_skip rfl rfl rfl ?_)
  all_goals first
    | (refine HL_callR rfl rfl rfl (enters_of Tryz.func154 (by kernel_rfl) rfl) hro (fun q hq => Or.inr hq) ?_)
    | (refine HL_skip rfl rfl rfl ?_)
  all_goals first
    | (refine HL_r rfl rfl rfl rfl (R_pickT rfl rfl) ?_)
    | (refine HL_r rfl rfl rfl rfl (R_pickF rfl rfl) ?_)
  all_goals refine HL_r rfl rfl rfl rfl (R_assign rfl) ?_
  all_goals refine HL_nil ?_
  all_goals (
   refine HQ_then ?_; refine hK2 _ _ _ _ ?_; clear hK2 K2; refine HC_ret ?_; refine HQ_post rfl rfl (.cons (res_tmp rfl) .nil) (fun w1 hs1 => ?_); refine ⟨?_, hs1.keep⟩
   unfold okForm
   simp_all [resVal]
   first | done | rfl | omega | (rw [Bool.eq_iff_iff]; simp only [Bool.and_eq_true, Bool.or_eq_true, decide_eq_true_eq, beq_iff_eq]; omega) | (simp only [decide_eq_true_eq, decide_eq_false_iff_not]; omega)
   skip)
set_option maxRecDepth 10000 in
theorem F_4 {R : List (Nat × Obj)} {n : Int} {p : Pl} {ins : List Ty} (ht : Ty.In R (.mk 4 n p ins)) : PureR Tryz.prog 159 [Ty.val (.mk 4 n p ins)].toArray (.bool (okForm 4 n ins.length)) R := by
  have hno := S_none ht
  have hpl := S_plain ht
  have hro := S_row ht
  have hma := fun m => S_many ht m
  cases ht with
  | mk hk hn hl hs hi =>
  refine pureR_of_HC Tryz.func159 rfl rfl fun w => ?_; refine HC_seq fun K1 hK1 => ?_; refine HC_region ?_; refine HL_box (cs := #[_, _, _]) rfl rfl rfl rfl fun r1 => ?_; refine HL_r rfl rfl rfl rfl (R_assign rfl) ?_; refine HL_nil ?_; refine HQ_then ?_; refine hK1 _ _ _ _ ?_; clear hK1 K1; refine HC_seq fun K2 hK2 => ?_; refine HC_region ?_; refine HL_r rfl rfl rfl rfl (R_loadA (vs := [_, _, _]) rfl (known_L (k := 0) rfl) rfl rfl rfl rfl) ?_; refine HL_callR rfl rfl rfl (enters_of Tryz.func153 (by kernel_rfl) rfl) (hma 1) (fun q hq => Or.inr hq) ?_; refine HL_r rfl rfl rfl rfl (R_move rfl) ?_
  refine HL_case 5 rfl (fun hb3 => ?_) (fun hb3 => ?_) <;> (try simp only [Z1, Z2, Z3, Z4, Z5, Z6, Z7, Z8, Z9, Z10, Z11, Z12, Z13] at hb3) <;> first | (refine HL_r rfl rfl rfl rfl (R_loadA (vs := [_, _, _]) rfl (known_L (k := 0) rfl) rfl rfl rfl rfl) ?_) | (refine HL_skip rfl rfl rfl ?_)
  all_goals first
    | (refine HL_callR rfl rfl rfl (enters_of Tryz.func154 (by kernel_rfl) rfl) hro (fun q hq => Or.inr hq) ?_)
    | (refine HL_skip rfl rfl rfl ?_)
  all_goals first
    | (refine HL_r rfl rfl rfl rfl (R_pickT rfl rfl) ?_)
    | (refine HL_r rfl rfl rfl rfl (R_pickF rfl rfl) ?_)
  all_goals refine HL_r rfl rfl rfl rfl (R_assign rfl) ?_
  all_goals refine HL_nil ?_
  all_goals (
   refine HQ_then ?_; refine hK2 _ _ _ _ ?_; clear hK2 K2; refine HC_ret ?_; refine HQ_post rfl rfl (.cons (res_tmp rfl) .nil) (fun w1 hs1 => ?_); refine ⟨?_, hs1.keep⟩
   unfold okForm
   simp_all [resVal]
   first | done | rfl | omega | (rw [Bool.eq_iff_iff]; simp only [Bool.and_eq_true, Bool.or_eq_true, decide_eq_true_eq, beq_iff_eq]; omega) | (simp only [decide_eq_true_eq, decide_eq_false_iff_not]; omega)
   skip)
set_option maxRecDepth 10000 in
theorem F_5 {R : List (Nat × Obj)} {n : Int} {p : Pl} {ins : List Ty} (ht : Ty.In R (.mk 5 n p ins)) : PureR Tryz.prog 161 [Ty.val (.mk 5 n p ins)].toArray (.bool (okForm 5 n ins.length)) R := by
  have hno := S_none ht
  have hpl := S_plain ht
  have hro := S_row ht
  have hma := fun m => S_many ht m
  cases ht with
  | mk hk hn hl hs hi =>
  refine pureR_of_HC Tryz.func161 rfl rfl fun w => ?_; refine HC_seq fun K1 hK1 => ?_; refine HC_region ?_; refine HL_box (cs := #[_, _, _]) rfl rfl rfl rfl fun r1 => ?_; refine HL_r rfl rfl rfl rfl (R_assign rfl) ?_; refine HL_nil ?_; refine HQ_then ?_; refine hK1 _ _ _ _ ?_; clear hK1 K1; refine HC_seq fun K2 hK2 => ?_; refine HC_region ?_; refine HL_r rfl rfl rfl rfl (R_loadA (vs := [_, _, _]) rfl (known_L (k := 0) rfl) rfl rfl rfl rfl) ?_; refine HL_callR rfl rfl rfl (enters_of Tryz.func140 (by kernel_rfl) rfl) hno (fun q hq => Or.inr hq) ?_; refine HL_r rfl rfl rfl rfl (R_move rfl) ?_
  refine HL_case 5 rfl (fun hb3 => ?_) (fun hb3 => ?_) <;> (try simp only [Z1, Z2, Z3, Z4, Z5, Z6, Z7, Z8, Z9, Z10, Z11, Z12, Z13] at hb3) <;> first | (refine HL_r rfl rfl rfl rfl (R_loadA (vs := [_, _, _]) rfl (known_L (k := 0) rfl) rfl rfl rfl rfl) ?_) | (refine HL_skip rfl rfl rfl ?_)
  all_goals first
    | (refine HL_callR rfl rfl rfl (enters_of Tryz.func154 (by kernel_rfl) rfl) hro (fun q hq => Or.inr hq) ?_)
    | (refine HL_skip rfl rfl rfl ?_)
  all_goals first
    | (refine HL_r rfl rfl rfl rfl (R_pickT rfl rfl) ?_)
    | (refine HL_r rfl rfl rfl rfl (R_pickF rfl rfl) ?_)
  all_goals refine HL_r rfl rfl rfl rfl (R_assign rfl) ?_
  all_goals refine HL_nil ?_
  all_goals (
   refine HQ_then ?_; refine hK2 _ _ _ _ ?_; clear hK2 K2; refine HC_ret ?_; refine HQ_post rfl rfl (.cons (res_tmp rfl) .nil) (fun w1 hs1 => ?_); refine ⟨?_, hs1.keep⟩
   unfold okForm
   simp_all [resVal]
   skip)
set_option maxRecDepth 10000 in
theorem F_6 {R : List (Nat × Obj)} {n : Int} {p : Pl} {ins : List Ty} (ht : Ty.In R (.mk 6 n p ins)) : PureR Tryz.prog 165 [Ty.val (.mk 6 n p ins)].toArray (.bool (okForm 6 n ins.length)) R := by
  have hno := S_none ht
  have hpl := S_plain ht
  have hro := S_row ht
  have hma := fun m => S_many ht m
  cases ht with
  | mk hk hn hl hs hi =>
  refine pureR_of_HC Tryz.func165 rfl rfl fun w => ?_; refine HC_seq fun K1 hK1 => ?_; refine HC_region ?_; refine HL_box (cs := #[_, _, _]) rfl rfl rfl rfl fun r1 => ?_; refine HL_r rfl rfl rfl rfl (R_assign rfl) ?_; refine HL_nil ?_; refine HQ_then ?_; refine hK1 _ _ _ _ ?_; clear hK1 K1; refine HC_seq fun K2 hK2 => ?_; refine HC_region ?_; refine HL_r rfl rfl rfl rfl (R_loadA (vs := [_, _, _]) rfl (known_L (k := 0) rfl) rfl rfl rfl rfl) ?_; refine HL_callR rfl rfl rfl (enters_of Tryz.func140 (by kernel_rfl) rfl) hno (fun q hq => Or.inr hq) ?_; refine HL_r rfl rfl rfl rfl (R_move rfl) ?_
  refine HL_case 5 rfl (fun hb3 => ?_) (fun hb3 => ?_) <;> (try simp only [Z1, Z2, Z3, Z4, Z5, Z6, Z7, Z8, Z9, Z10, Z11, Z12, Z13] at hb3) <;> first | (refine HL_r rfl rfl rfl rfl (R_loadA (vs := [_, _, _]) rfl (known_L (k := 0) rfl) rfl rfl rfl rfl) ?_) | (refine HL_skip rfl rfl rfl ?_)
  all_goals first
    | (refine HL_callR rfl rfl rfl (enters_of Tryz.func154 (by kernel_rfl) rfl) hro (fun q hq => Or.inr hq) ?_)
    | (refine HL_skip rfl rfl rfl ?_)
  all_goals first
    | (refine HL_r rfl rfl rfl rfl (R_pickT rfl rfl) ?_)
    | (refine HL_r rfl rfl rfl rfl (R_pickF rfl rfl) ?_)
  all_goals refine HL_r rfl rfl rfl rfl (R_assign rfl) ?_
  all_goals refine HL_nil ?_
  all_goals (
   refine HQ_then ?_; refine hK2 _ _ _ _ ?_; clear hK2 K2; refine HC_ret ?_; refine HQ_post rfl rfl (.cons (res_tmp rfl) .nil) (fun w1 hs1 => ?_); refine ⟨?_, hs1.keep⟩
   unfold okForm
   simp_all [resVal]
   skip)
set_option maxRecDepth 10000 in
theorem F_7 {R : List (Nat × Obj)} {n : Int} {p : Pl} {ins : List Ty} (ht : Ty.In R (.mk 7 n p ins)) : PureR Tryz.prog 167 [Ty.val (.mk 7 n p ins)].toArray (.bool (okForm 7 n ins.length)) R := by
  have hno := S_none ht
  have hpl := S_plain ht
  have hro := S_row ht
  have hma := fun m => S_many ht m
  cases ht with
  | mk hk hn hl hs hi =>
  refine pureR_of_HC Tryz.func167 rfl rfl fun w => ?_; refine HC_seq fun K1 hK1 => ?_; refine HC_region ?_; refine HL_box (cs := #[_, _, _]) rfl rfl rfl rfl fun r1 => ?_; refine HL_r rfl rfl rfl rfl (R_assign rfl) ?_; refine HL_nil ?_; refine HQ_then ?_; refine hK1 _ _ _ _ ?_; clear hK1 K1; refine HC_seq fun K2 hK2 => ?_; refine HC_region ?_; refine HL_r rfl rfl rfl rfl (R_loadA (vs := [_, _, _]) rfl (known_L (k := 0) rfl) rfl rfl rfl rfl) ?_; refine HL_callR rfl rfl rfl (enters_of Tryz.func153 (by kernel_rfl) rfl) (hma 16) (fun q hq => Or.inr hq) ?_; refine HL_r rfl rfl rfl rfl (R_move rfl) ?_
  refine HL_case 5 rfl (fun hb3 => ?_) (fun hb3 => ?_) <;> (try simp only [Z1, Z2, Z3, Z4, Z5, Z6, Z7, Z8, Z9, Z10, Z11, Z12, Z13] at hb3) <;> first | (refine HL_r rfl rfl rfl rfl (R_loadA (vs := [_, _, _]) rfl (known_L (k := 0) rfl) rfl rfl rfl rfl) ?_) | (refine HL_skip rfl rfl rfl ?_)
  all_goals first
    | (refine HL_callR rfl rfl rfl (enters_of Tryz.func147 (by kernel_rfl) rfl) hpl (fun q hq => Or.inr hq) ?_)
    | (refine HL_skip rfl rfl rfl ?_)
  all_goals first
    | (refine HL_r rfl rfl rfl rfl (R_pickT rfl rfl) ?_)
    | (refine HL_r rfl rfl rfl rfl (R_pickF rfl rfl) ?_)
  all_goals refine HL_r rfl rfl rfl rfl (R_assign rfl) ?_
  all_goals refine HL_nil ?_
  all_goals (
   refine HQ_then ?_; refine hK2 _ _ _ _ ?_; clear hK2 K2; refine HC_ret ?_; refine HQ_post rfl rfl (.cons (res_tmp rfl) .nil) (fun w1 hs1 => ?_); refine ⟨?_, hs1.keep⟩
   unfold okForm
   simp_all [resVal]
   first | done | rfl | omega | (rw [Bool.eq_iff_iff]; simp only [Bool.and_eq_true, Bool.or_eq_true, decide_eq_true_eq, beq_iff_eq]; omega) | (simp only [decide_eq_true_eq, decide_eq_false_iff_not]; omega)
   skip)
set_option maxRecDepth 10000 in
theorem F_8 {R : List (Nat × Obj)} {n : Int} {p : Pl} {ins : List Ty} (ht : Ty.In R (.mk 8 n p ins)) : PureR Tryz.prog 170 [Ty.val (.mk 8 n p ins)].toArray (.bool (okForm 8 n ins.length)) R := by
  have hno := S_none ht
  have hpl := S_plain ht
  have hro := S_row ht
  have hma := fun m => S_many ht m
  cases ht with
  | mk hk hn hl hs hi =>
  refine pureR_of_HC Tryz.func170 rfl rfl fun w => ?_; refine HC_seq fun K1 hK1 => ?_; refine HC_region ?_; refine HL_box (cs := #[_, _, _]) rfl rfl rfl rfl fun r1 => ?_; refine HL_r rfl rfl rfl rfl (R_assign rfl) ?_; refine HL_nil ?_; refine HQ_then ?_; refine hK1 _ _ _ _ ?_; clear hK1 K1; refine HC_seq fun K2 hK2 => ?_; refine HC_region ?_; refine HL_r rfl rfl rfl rfl (R_loadA (vs := [_, _, _]) rfl (known_L (k := 0) rfl) rfl rfl rfl rfl) ?_; refine HL_callR rfl rfl rfl (enters_of Tryz.func153 (by kernel_rfl) rfl) (hma 8) (fun q hq => Or.inr hq) ?_; refine HL_r rfl rfl rfl rfl (R_move rfl) ?_
  refine HL_case 5 rfl (fun hb3 => ?_) (fun hb3 => ?_) <;> (try simp only [Z1, Z2, Z3, Z4, Z5, Z6, Z7, Z8, Z9, Z10, Z11, Z12, Z13] at hb3) <;> first | (refine HL_r rfl rfl rfl rfl (R_loadA (vs := [_, _, _]) rfl (known_L (k := 0) rfl) rfl rfl rfl rfl) ?_) | (refine HL_skip rfl rfl rfl ?_)
  all_goals first
    | (refine HL_callR rfl rfl rfl (enters_of Tryz.func147 (by kernel_rfl) rfl) hpl (fun q hq => Or.inr hq) ?_)
    | (refine HL_skip rfl rfl rfl ?_)
  all_goals first
    | (refine HL_r rfl rfl rfl rfl (R_pickT rfl rfl) ?_)
    | (refine HL_r rfl rfl rfl rfl (R_pickF rfl rfl) ?_)
  all_goals refine HL_r rfl rfl rfl rfl (R_assign rfl) ?_
  all_goals refine HL_nil ?_
  all_goals (
   refine HQ_then ?_; refine hK2 _ _ _ _ ?_; clear hK2 K2; refine HC_ret ?_; refine HQ_post rfl rfl (.cons (res_tmp rfl) .nil) (fun w1 hs1 => ?_); refine ⟨?_, hs1.keep⟩
   unfold okForm
   simp_all [resVal]
   first | done | rfl | omega | (rw [Bool.eq_iff_iff]; simp only [Bool.and_eq_true, Bool.or_eq_true, decide_eq_true_eq, beq_iff_eq]; omega) | (simp only [decide_eq_true_eq, decide_eq_false_iff_not]; omega)
   skip)
theorem isK_iff {k : Int} : isK k = true ↔ 1 ≤ k ∧ k ≤ 8 := by unfold isK; simp
theorem F_all {R : List (Nat × Obj)} {k n : Int} {p : Pl} {ins : List Ty} (ht : Ty.In R (.mk k n p ins)) (h : isK k = true) : Enters Tryz.prog (formF k) ∧ PureR Tryz.prog (formF k) [Ty.val (.mk k n p ins)].toArray (.bool (okForm k n ins.length)) R := by
  have := isK_iff.1 h
  have : k = 1 ∨ k = 2 ∨ k = 3 ∨ k = 4 ∨ k = 5 ∨ k = 6 ∨ k = 7 ∨ k = 8 := by omega
  rcases this with rfl | rfl | rfl | rfl | rfl | rfl | rfl | rfl
  · exact ⟨enters_of Tryz.func139 (by kernel_rfl) rfl, F_1 ht⟩
  · exact ⟨enters_of Tryz.func146 (by kernel_rfl) rfl, F_2 ht⟩
  · exact ⟨enters_of Tryz.func152 (by kernel_rfl) rfl, F_3 ht⟩
  · exact ⟨enters_of Tryz.func159 (by kernel_rfl) rfl, F_4 ht⟩
  · exact ⟨enters_of Tryz.func161 (by kernel_rfl) rfl, F_5 ht⟩
  · exact ⟨enters_of Tryz.func165 (by kernel_rfl) rfl, F_6 ht⟩
  · exact ⟨enters_of Tryz.func167 (by kernel_rfl) rfl, F_7 ht⟩
  · exact ⟨enters_of Tryz.func170 (by kernel_rfl) rfl, F_8 ht⟩
end Go.Proofs.YtlcbfphioeppaaaGreatDoor
/-! ### A region that draws its order, in an order of one's own: several operations that lay new blocks may be ready at once -/
namespace Go.SL
set_option linter.all false
open Go Go.RowKit Go.Shelf
open Go.Proofs (Enters enters_of)
/-- What lays new blocks: what it names, and the blocks. -/
structure GE where
  α : Type
  V : α → Value
  LL : α → List (Nat × Obj)
  x0 : α
inductive Kb
  | quiet
  | pure
  | grow (e : GE)
  | turn
abbrev Kbs := Nat → Kb
def Kb.isGrow : Kb → Bool
  | .grow _ => true
  | _ => false
def Kb.isTurn : Kb → Bool
  | .turn => true
  | _ => false
def Kb.isQuiet : Kb → Bool
  | .quiet => true
  | _ => false
section
variable {c : Cx} {X : XP} {S : List (Nat × Obj)} {ops : Array Oper} {md : Region.Mode}
def Fresh (LL : List (Nat × Obj)) (w w' : World) : Prop := Keep [] w w' ∧ (∀ p ∈ LL, w.heap.size ≤ p.1 ∧ w'.heap[p.1]? = some p.2) ∧ LL.Pairwise fun p q => p.1 ≠ q.1
def YG (c : Cx) (X : XP) (S : List (Nat × Obj)) (ops : Array Oper) (o : Oper) (e : GE) (a : Act) : Prop :=
  Region.wanted o (yielded ops a.tmps) = true ∧ ∀ E, SubS S E → ∀ w, St c E X w → actAt c o a w fun u w' => ∃ x, u = e.V x ∧ Fresh (e.LL x) w w'
theorem YG.same {o : Oper} {e : GE} {a a' : Act} (hy : YG c X S ops o e a) (he : execOp a'.eval o = execOp a.eval o) (hw : Region.wanted o (yielded ops a'.tmps) = Region.wanted o (yielded ops a.tmps)) : YG c X S ops o e a' :=
  ⟨hw.trans hy.1, fun E hE w hs => (hy.2 E hE w hs).same he⟩
def YT (c : Cx) (E : List (Nat × Obj)) (X : XP) (ops : Array Oper) (o : Oper) {α : Type} (V : α → Value) (G : α → List (Nat × Obj)) (a : Act) : Prop :=
  Region.wanted o (yielded ops a.tmps) = true ∧ ∀ w, St c E X w → actAt c o a w fun u w' => ∃ x, u = V x ∧ St c (G x) X w'
def stB (c : Cx) (X : XP) (S : List (Nat × Obj)) (ops : Array Oper) (tb : Kbs) (i : Nat) (K : List (Nat × Obj) → Act → Prop) (E : List (Nat × Obj)) (a : Act) : Prop :=
  ∃ o, ops[i]? = some o ∧ match tb i with
    | .quiet => ∃ v, YQ c E X ops o v a ∧ K E (a.put o.dst v)
    | .pure => ∃ v, YP c X S ops o v a ∧ K E (a.put o.dst v)
    | .grow e => (YG c X S ops o e a ∧ ∀ x, K (e.LL x ++ E) (a.put o.dst (e.V x))) ∨ (Region.wanted o (yielded ops a.tmps) = false ∧ K E (a.put o.dst undef))
    | .turn => (∃ (α : Type) (V : α → Value) (G : α → List (Nat × Obj)), YT c E X ops o V G a ∧ ∀ x, SubS S (G x) ∧ K (G x) (a.put o.dst (V x))) ∨ (Region.wanted o (yielded ops a.tmps) = false ∧ K E (a.put o.dst undef))
def anyB (c : Cx) (X : XP) (S : List (Nat × Obj)) (ops : Array Oper) (md : Region.Mode) (tb : Kbs) (m : Nat) (T : List (Nat × Obj) → Array Bool → Act → Prop) : Nat → Array Bool → List (Nat × Obj) → Act → Prop
  | 0, listed, E, a => T E listed a
  | f + 1, listed, E, a => Region.ready md ops listed ≠ [] ∧ ∀ i ∈ Region.ready md ops listed, i < m ∧ stB c X S ops tb i (fun E' a' => anyB c X S ops md tb m T f (listed.setIfInBounds i true) E' a') E a
theorem SubS.grow {E LL : List (Nat × Obj)} (h : SubS S E) : SubS S (LL ++ E) := fun p hp => List.mem_append_right _ (h p hp)
theorem YQ.perm {E E' : List (Nat × Obj)} {o : Oper} {v : Value} {a : Act} (hy : YQ c E X ops o v a) (hp : E.Perm E') : YQ c E' X ops o v a := by
  rcases hy with ⟨h1, h2⟩ | h
  · exact .inl ⟨h1, fun w hs => h2 w (hs.perm hp.symm)⟩
  · exact .inr h
theorem anyB_perm {tb : Kbs} {m : Nat} {T : List (Nat × Obj) → Array Bool → Act → Prop} (hTp : ∀ E E' listed a, E.Perm E' → T E listed a → T E' listed a) :
    ∀ (f : Nat) (listed : Array Bool) (E E' : List (Nat × Obj)) (a : Act), E.Perm E' → anyB c X S ops md tb m T f listed E a → anyB c X S ops md tb m T f listed E' a
  | 0, listed, E, E', a, hp, h => hTp _ _ _ _ hp h
  | f + 1, listed, E, E', a, hp, h => by
    refine ⟨h.1, fun i hi => ⟨(h.2 i hi).1, ?_⟩⟩
    obtain ⟨o, ho, hm⟩ := (h.2 i hi).2
    refine ⟨o, ho, ?_⟩
    cases ha : tb i with
    | quiet => rw [ha] at hm; obtain ⟨v, h1, h2⟩ := hm; exact ⟨v, h1.perm hp, anyB_perm hTp f _ _ _ _ hp h2⟩
    | pure => rw [ha] at hm; obtain ⟨v, h1, h2⟩ := hm; exact ⟨v, h1, anyB_perm hTp f _ _ _ _ hp h2⟩
    | grow e =>
      rw [ha] at hm
      rcases hm with ⟨h1, h2⟩ | ⟨h1, h2⟩
      · exact .inl ⟨h1, fun x => anyB_perm hTp f _ _ _ _ (hp.append_left _) (h2 x)⟩
      · exact .inr ⟨h1, anyB_perm hTp f _ _ _ _ hp h2⟩
    | turn =>
      rw [ha] at hm
      rcases hm with ⟨α, V, G, ⟨h1, h2⟩, h3⟩ | ⟨h1, h2⟩
      · exact .inl ⟨α, V, G, ⟨h1, fun w hs => h2 w (hs.perm hp.symm)⟩, h3⟩
      · exact .inr ⟨h1, anyB_perm hTp f _ _ _ _ hp h2⟩
theorem stB_wp {tb : Kbs} {i : Nat} {K : List (Nat × Obj) → Act → Prop} {K' : Act → World → Prop} {Q' : Exit → Act → World → Prop} {E : List (Nat × Obj)} {a : Act} {w : World} (hnd : ∀ (j : Nat) (o : Oper), ops[j]? = some o → noDefer o.op = true)
    (hs : St c E X w) (hE : SubS S E) (h : ∀ E a w', SubS S E → St c E X w' → K E a → K' a w') (hh : stB c X S ops tb i K E a) : wpOpIn (FW c.ro) 0 c.P ops Q' i K' a w := by
  obtain ⟨o, ho, hm⟩ := hh
  have no : Region.wanted o (yielded ops a.tmps) = false → K E (a.put o.dst undef) → wpOpIn (FW c.ro) 0 c.P ops Q' i K' a w := fun hw hk => by
    unfold wpOpIn
    simp only [ho]
    rw [if_neg (by rw [hw]; simp)]
    exact ⟨wide_about, h E _ w hE hs hk⟩
  have yes : ∀ v, YQ c E X ops o v a → K E (a.put o.dst v) → wpOpIn (FW c.ro) 0 c.P ops Q' i K' a w := fun v hy hk => by
    rcases hy with ⟨hw, hq⟩ | ⟨hw, rfl⟩
    · exact act_wp ho (hnd i o ho) hw (hq w hs) fun u w' ⟨e, hk'⟩ => h E _ w' hE (hs.more hk') (e ▸ hk)
    · exact no hw hk
  cases ha : tb i with
  | quiet => rw [ha] at hm; obtain ⟨v, h1, h2⟩ := hm; exact yes v h1 h2
  | pure => rw [ha] at hm; obtain ⟨v, h1, h2⟩ := hm; exact yes v (h1.quiet hE) h2
  | grow e =>
    rw [ha] at hm
    rcases hm with ⟨⟨hw, hr⟩, h2⟩ | ⟨hw, h2⟩
    · exact act_wp ho (hnd i o ho) hw (hr E hE w hs) fun u w' ⟨x, e', hk, hf, hd⟩ => h _ _ w' hE.grow (hs.freshs hk hf hd) (e' ▸ (h2 x))
    · exact no hw h2
  | turn =>
    rw [ha] at hm
    rcases hm with ⟨α, V, G, ⟨hw, hr⟩, h2⟩ | ⟨hw, h2⟩
    · exact act_wp ho (hnd i o ho) hw (hr w hs) fun u w' ⟨x, e', hs'⟩ => h _ _ w' (h2 x).1 hs' (e' ▸ (h2 x).2)
    · exact no hw h2
theorem anyB_wp {tb : Kbs} {m g : Nat} {T : List (Nat × Obj) → Array Bool → Act → Prop} {Q' : Exit → Act → World → Prop} (hnd : ∀ (j : Nat) (o : Oper), ops[j]? = some o → noDefer o.op = true)
    (hT : ∀ E listed a w, SubS S E → St c E X w → T E listed a → wpAnyIn (FW c.ro) 0 c.P md ops Q' g listed a w) :
    ∀ (f : Nat) (listed : Array Bool) (E : List (Nat × Obj)) (a : Act) (w : World), SubS S E → St c E X w → anyB c X S ops md tb m T f listed E a → wpAnyIn (FW c.ro) 0 c.P md ops Q' (f + g) listed a w
  | 0, listed, E, a, w, hE, hw, h => by rw [Nat.zero_add]; exact hT _ _ _ _ hE hw h
  | f + 1, listed, E, a, w, hE, hw, h => by
    rw [show f + 1 + g = (f + g) + 1 from by omega]
    exact ⟨fun h0 => absurd h0 h.1, fun i hi => stB_wp hnd hw hE (fun E' a' w' hE' hw' h' => anyB_wp hnd hT f _ E' a' w' hE' hw' h') (h.2 i hi).2⟩
def BoundB (md : Region.Mode) (ops : Array Oper) (tb : Kbs) (m i : Nat) : Prop :=
  tb i = .quiet → ∀ j, j < m → tb j = .turn → ∀ listed, i ∈ Region.ready md ops listed → j ∈ Region.ready md ops listed → False
/-- Nothing but what lays new blocks can be carried out ahead of i. -/
def okG (md : Region.Mode) (ops : Array Oper) (tb : Kbs) (i : Nat) : Nat → Array Bool → Bool
  | 0, listed => (Region.ready md ops listed).all fun j => j == i
  | f + 1, listed => (Region.ready md ops listed).all fun j => j == i || ((tb j).isGrow && okG md ops tb i f (listed.setIfInBounds j true))
theorem anyB_first {tb : Kbs} {m i : Nat} {oi : Oper} {v : Value} {T : List (Nat × Obj) → Array Bool → Act → Prop} (hi : ops[i]? = some oi) (hai : tb i = .quiet ∨ tb i = .pure) (hsel : ∀ (j : Nat) (o : Oper) cs b, ops[j]? = some o → o.op ≠ .select cs b)
    (hbd : BoundB md ops tb m i)
    (hlt : ∀ listed, HeadInv md ops m listed → listed.getD i true = false → ∀ j ∈ Region.ready md ops listed, j < m)
    (hT : ∀ E listed a, T E listed a → ∀ j ∈ Region.ready md ops listed, m ≤ j) :
    ∀ (f : Nat) (listed : Array Bool) (E : List (Nat × Obj)) (a : Act), HeadInv md ops m listed →
      (∀ j oj, ops[j]? = some oj → j ≠ i → listed.getD j true = false → (∀ e ∈ oj.after, Region.binds md e = true → e.on ≠ i) → oi.apart ops oj = true) →
      SubS S E → i ∈ Region.ready md ops listed → (YQ c E X ops oi v a ∧ (tb i = .pure → YP c X S ops oi v a)) →
      anyB c X S ops md tb m T f (listed.setIfInBounds i true) E (a.put oi.dst v) → anyB c X S ops md tb m T (f + 1) listed E a := by
  have self : ∀ {K : List (Nat × Obj) → Act → Prop} {E : List (Nat × Obj)} {a : Act}, (YQ c E X ops oi v a ∧ (tb i = .pure → YP c X S ops oi v a)) → K E (a.put oi.dst v) → stB c X S ops tb i K E a := by
    intro K E a hy H
    refine ⟨oi, hi, ?_⟩
    rcases hai with h | h <;> rw [h]
    · exact ⟨v, hy.1, H⟩
    · exact ⟨v, hy.2 h, H⟩
  intro f
  induction f with
  | zero =>
    intro listed E a inv _ hSE hr hy H
    refine ⟨fun h => (by rw [h] at hr; cases hr), fun j hj => ⟨hlt _ inv (mem_ready.1 hr).1 j hj, ?_⟩⟩
    by_cases hji : j = i
    · subst hji; exact self hy H
    · have h1 := hT _ _ _ H j (ready_mono hj hji)
      have h2 := hlt _ inv (mem_ready.1 hr).1 j hj
      omega
  | succ f ih =>
    intro listed E a inv hfree hSE hr hy H
    refine ⟨fun h => (by rw [h] at hr; cases hr), fun j hj => ?_⟩
    have hjm := hlt _ inv (mem_ready.1 hr).1 j hj
    refine ⟨hjm, ?_⟩
    by_cases hji : j = i
    · subst hji; exact self hy H
    · obtain ⟨oj, hoj, hm⟩ := (H.2 j (ready_mono hj hji)).2
      obtain ⟨hjun, oj', hoj', hall⟩ := mem_ready.1 hj
      rw [hoj] at hoj'
      cases hoj'
      have hnot : ∀ e ∈ oj.after, Region.binds md e = true → e.on ≠ i := fun e he hb heq => by
        have h2 := hall e he hb
        rw [heq, getD_both (mem_ready.1 hr).1] at h2
        cases h2
      obtain ⟨h1, h2, h3⟩ := Oper.apart_spec (hfree j oj hoj hji hjun hnot)
      have hfree' : ∀ k ok, ops[k]? = some ok → k ≠ i → (listed.setIfInBounds j true).getD k true = false →
          (∀ e ∈ ok.after, Region.binds md e = true → e.on ≠ i) → oi.apart ops ok = true := fun k ok hk hki hun hno => by
        refine hfree k ok hk hki ?_ hno
        by_cases hjk : j = k
        · subst hjk; exact hjun
        · rw [getD_set_ne true hjk] at hun; exact hun
      have back1 := fun u => (execOp_put oj (fun cs b => hsel j oj cs b hoj) a oi.dst u h1)
      have back2 := fun u => (wanted_put oj a oi.dst u h1)
      have forth1 := fun u => (execOp_put oi (fun cs b => hsel i oi cs b hi) a oj.dst u h3)
      have forth2 := fun u => (wanted_put oi a oj.dst u h3)
      have go : ∀ E' u, SubS S E' → (E.Sublist E' ∨ tb i = .pure) → anyB c X S ops md tb m T f ((listed.setIfInBounds i true).setIfInBounds j true) E' ((a.put oi.dst v).put oj.dst u) →
          anyB c X S ops md tb m T (f + 1) (listed.setIfInBounds j true) E' (a.put oj.dst u) := fun E' u hSE' hsub hK => by
        refine ih (listed.setIfInBounds j true) E' (a.put oj.dst u) (inv.set hj hjm) hfree' hSE' (ready_mono hr (Ne.symm hji)) ⟨?_, fun hp => (hy.2 hp).same (forth1 u) (forth2 u)⟩ ?_
        · rcases hsub with hsub | hp
          · exact (hy.1.weak hsub).same (forth1 u) (forth2 u)
          · exact ((hy.2 hp).same (forth1 u) (forth2 u)).quiet hSE'
        · rw [Array.setIfInBounds_comm _ _ hji, ← Act.put_comm a v u h2]
          exact hK
      refine ⟨oj, hoj, ?_⟩
      cases ha : tb j with
      | quiet => rw [ha] at hm; obtain ⟨u, g1, g2⟩ := hm; exact ⟨u, g1.same (back1 v).symm (back2 v).symm, go E u hSE (.inl (List.Sublist.refl _)) g2⟩
      | pure => rw [ha] at hm; obtain ⟨u, g1, g2⟩ := hm; exact ⟨u, g1.same (back1 v).symm (back2 v).symm, go E u hSE (.inl (List.Sublist.refl _)) g2⟩
      | grow e =>
        rw [ha] at hm
        rcases hm with ⟨g1, g2⟩ | ⟨g1, g2⟩
        · exact .inl ⟨g1.same (back1 v).symm (back2 v).symm, fun x => go _ _ hSE.grow (.inl (List.sublist_append_right _ _)) (g2 x)⟩
        · exact .inr ⟨(back2 v).symm.trans g1, go E undef hSE (.inl (List.Sublist.refl _)) g2⟩
      | turn =>
        rw [ha] at hm
        rcases hm with ⟨α, V, G, ⟨g0, g1⟩, g2⟩ | ⟨g1, g2⟩
        · refine .inl ⟨α, V, G, ⟨(back2 v).symm.trans g0, fun w hs => (g1 w hs).same (back1 v).symm⟩, fun x => ⟨(g2 x).1, go _ _ (g2 x).1 ?_ (g2 x).2⟩⟩
          rcases hai with hq | hp
          · exact (hbd hq j hjm ha listed hr hj).elim
          · exact .inr hp
        · exact .inr ⟨(back2 v).symm.trans g1, go E undef hSE (.inl (List.Sublist.refl _)) g2⟩
theorem anyB_off {tb : Kbs} {m i : Nat} {oi : Oper} {ei : GE} {T : List (Nat × Obj) → Array Bool → Act → Prop} (hi : ops[i]? = some oi) (hai : tb i = .grow ei) (hsel : ∀ (j : Nat) (o : Oper) cs b, ops[j]? = some o → o.op ≠ .select cs b)
    (hlt : ∀ listed, HeadInv md ops m listed → listed.getD i true = false → ∀ j ∈ Region.ready md ops listed, j < m)
    (hT : ∀ E listed a, T E listed a → ∀ j ∈ Region.ready md ops listed, m ≤ j) :
    ∀ (f : Nat) (listed : Array Bool) (E : List (Nat × Obj)) (a : Act), HeadInv md ops m listed →
      (∀ j oj, ops[j]? = some oj → j ≠ i → listed.getD j true = false → (∀ e ∈ oj.after, Region.binds md e = true → e.on ≠ i) → oi.apart ops oj = true) →
      SubS S E → i ∈ Region.ready md ops listed → Region.wanted oi (yielded ops a.tmps) = false →
      anyB c X S ops md tb m T f (listed.setIfInBounds i true) E (a.put oi.dst undef) → anyB c X S ops md tb m T (f + 1) listed E a := by
  have self : ∀ {K : List (Nat × Obj) → Act → Prop} {E : List (Nat × Obj)} {a : Act}, Region.wanted oi (yielded ops a.tmps) = false → K E (a.put oi.dst undef) → stB c X S ops tb i K E a := by
    intro K E a hy H
    refine ⟨oi, hi, ?_⟩
    rw [hai]
    exact .inr ⟨hy, H⟩
  intro f
  induction f with
  | zero =>
    intro listed E a inv _ hSE hr hy H
    refine ⟨fun h => (by rw [h] at hr; cases hr), fun j hj => ⟨hlt _ inv (mem_ready.1 hr).1 j hj, ?_⟩⟩
    by_cases hji : j = i
    · subst hji; exact self hy H
    · have h1 := hT _ _ _ H j (ready_mono hj hji)
      have h2 := hlt _ inv (mem_ready.1 hr).1 j hj
      omega
  | succ f ih =>
    intro listed E a inv hfree hSE hr hy H
    refine ⟨fun h => (by rw [h] at hr; cases hr), fun j hj => ?_⟩
    have hjm := hlt _ inv (mem_ready.1 hr).1 j hj
    refine ⟨hjm, ?_⟩
    by_cases hji : j = i
    · subst hji; exact self hy H
    · obtain ⟨oj, hoj, hm⟩ := (H.2 j (ready_mono hj hji)).2
      obtain ⟨hjun, oj', hoj', hall⟩ := mem_ready.1 hj
      rw [hoj] at hoj'
      cases hoj'
      have hnot : ∀ e ∈ oj.after, Region.binds md e = true → e.on ≠ i := fun e he hb heq => by
        have h2 := hall e he hb
        rw [heq, getD_both (mem_ready.1 hr).1] at h2
        cases h2
      obtain ⟨h1, h2, h3⟩ := Oper.apart_spec (hfree j oj hoj hji hjun hnot)
      have hfree' : ∀ k ok, ops[k]? = some ok → k ≠ i → (listed.setIfInBounds j true).getD k true = false →
          (∀ e ∈ ok.after, Region.binds md e = true → e.on ≠ i) → oi.apart ops ok = true := fun k ok hk hki hun hno => by
        refine hfree k ok hk hki ?_ hno
        by_cases hjk : j = k
        · subst hjk; exact hjun
        · rw [getD_set_ne true hjk] at hun; exact hun
      have back1 := fun u => (execOp_put oj (fun cs b => hsel j oj cs b hoj) a oi.dst u h1)
      have back2 := fun u => (wanted_put oj a oi.dst u h1)
      have forth1 := fun u => (execOp_put oi (fun cs b => hsel i oi cs b hi) a oj.dst u h3)
      have forth2 := fun u => (wanted_put oi a oj.dst u h3)
      have go : ∀ E' u, SubS S E' → anyB c X S ops md tb m T f ((listed.setIfInBounds i true).setIfInBounds j true) E' ((a.put oi.dst undef).put oj.dst u) →
          anyB c X S ops md tb m T (f + 1) (listed.setIfInBounds j true) E' (a.put oj.dst u) := fun E' u hSE' hK => by
        refine ih (listed.setIfInBounds j true) E' (a.put oj.dst u) (inv.set hj hjm) hfree' hSE' (ready_mono hr (Ne.symm hji)) ((forth2 u).trans hy) ?_
        rw [Array.setIfInBounds_comm _ _ hji, ← Act.put_comm a undef u h2]
        exact hK
      refine ⟨oj, hoj, ?_⟩
      cases ha : tb j with
      | quiet => rw [ha] at hm; obtain ⟨u, g1, g2⟩ := hm; exact ⟨u, g1.same (back1 undef).symm (back2 undef).symm, go E u hSE g2⟩
      | pure => rw [ha] at hm; obtain ⟨u, g1, g2⟩ := hm; exact ⟨u, g1.same (back1 undef).symm (back2 undef).symm, go E u hSE g2⟩
      | grow e =>
        rw [ha] at hm
        rcases hm with ⟨g1, g2⟩ | ⟨g1, g2⟩
        · exact .inl ⟨g1.same (back1 undef).symm (back2 undef).symm, fun x => go _ _ hSE.grow (g2 x)⟩
        · exact .inr ⟨(back2 undef).symm.trans g1, go E undef hSE g2⟩
      | turn =>
        rw [ha] at hm
        rcases hm with ⟨α, V, G, ⟨g0, g1⟩, g2⟩ | ⟨g1, g2⟩
        · exact .inl ⟨α, V, G, ⟨(back2 undef).symm.trans g0, fun w hs => (g1 w hs).same (back1 undef).symm⟩, fun x => ⟨(g2 x).1, go _ _ (g2 x).1 (g2 x).2⟩⟩
        · exact .inr ⟨(back2 undef).symm.trans g1, go E undef hSE g2⟩
theorem anyB_grow {tb : Kbs} {m i : Nat} {oi : Oper} {ei : GE} {T : List (Nat × Obj) → Array Bool → Act → Prop} (hi : ops[i]? = some oi) (hai : tb i = .grow ei) (hsel : ∀ (j : Nat) (o : Oper) cs b, ops[j]? = some o → o.op ≠ .select cs b)
    (hTp : ∀ E E' listed a, E.Perm E' → T E listed a → T E' listed a)
    (hlt : ∀ listed, HeadInv md ops m listed → listed.getD i true = false → ∀ j ∈ Region.ready md ops listed, j < m)
    (hT : ∀ E listed a, T E listed a → ∀ j ∈ Region.ready md ops listed, m ≤ j) :
    ∀ (f : Nat) (listed : Array Bool) (E : List (Nat × Obj)) (a : Act), HeadInv md ops m listed →
      (∀ j oj, ops[j]? = some oj → j ≠ i → listed.getD j true = false → (∀ e ∈ oj.after, Region.binds md e = true → e.on ≠ i) → oi.apart ops oj = true) →
      SubS S E → i ∈ Region.ready md ops listed → okG md ops tb i f listed = true → YG c X S ops oi ei a →
      (∀ x, anyB c X S ops md tb m T f (listed.setIfInBounds i true) (ei.LL x ++ E) (a.put oi.dst (ei.V x))) → anyB c X S ops md tb m T (f + 1) listed E a := by
  have self : ∀ {K : List (Nat × Obj) → Act → Prop} {E : List (Nat × Obj)} {a : Act}, YG c X S ops oi ei a → (∀ x, K (ei.LL x ++ E) (a.put oi.dst (ei.V x))) → stB c X S ops tb i K E a := by
    intro K E a hy H
    refine ⟨oi, hi, ?_⟩
    rw [hai]
    exact .inl ⟨hy, H⟩
  intro f
  induction f with
  | zero =>
    intro listed E a inv _ hSE hr hok hy H
    refine ⟨fun h => (by rw [h] at hr; cases hr), fun j hj => ⟨hlt _ inv (mem_ready.1 hr).1 j hj, ?_⟩⟩
    by_cases hji : j = i
    · subst hji; exact self hy H
    · have h1 := hT _ _ _ (H ei.x0) j (ready_mono hj hji)
      have h2 := hlt _ inv (mem_ready.1 hr).1 j hj
      omega
  | succ f ih =>
    intro listed E a inv hfree hSE hr hok hy H
    refine ⟨fun h => (by rw [h] at hr; cases hr), fun j hj => ?_⟩
    have hjm := hlt _ inv (mem_ready.1 hr).1 j hj
    refine ⟨hjm, ?_⟩
    by_cases hji : j = i
    · subst hji; exact self hy H
    · unfold okG at hok
      have hokj := List.all_eq_true.1 hok j hj
      simp only [Bool.or_eq_true, beq_iff_eq, hji, false_or, Bool.and_eq_true] at hokj
      obtain ⟨hgj, hok'⟩ := hokj
      obtain ⟨ej, ha⟩ : ∃ ej, tb j = .grow ej := by
        cases h : tb j with
        | grow e => exact ⟨e, rfl⟩
        | _ => rw [h] at hgj; cases hgj
      obtain ⟨hjun, oj, hoj, hall⟩ := mem_ready.1 hj
      have hnot : ∀ e ∈ oj.after, Region.binds md e = true → e.on ≠ i := fun e he hb heq => by
        have h2 := hall e he hb
        rw [heq, getD_both (mem_ready.1 hr).1] at h2
        cases h2
      obtain ⟨h1, h2, h3⟩ := Oper.apart_spec (hfree j oj hoj hji hjun hnot)
      have hfree' : ∀ k ok, ops[k]? = some ok → k ≠ i → (listed.setIfInBounds j true).getD k true = false →
          (∀ e ∈ ok.after, Region.binds md e = true → e.on ≠ i) → oi.apart ops ok = true := fun k ok hk hki hun hno => by
        refine hfree k ok hk hki ?_ hno
        by_cases hjk : j = k
        · subst hjk; exact hjun
        · rw [getD_set_ne true hjk] at hun; exact hun
      have back1 := fun u => (execOp_put oj (fun cs b => hsel j oj cs b hoj) a oi.dst u h1)
      have back2 := fun u => (wanted_put oj a oi.dst u h1)
      have forth1 := fun u => (execOp_put oi (fun cs b => hsel i oi cs b hi) a oj.dst u h3)
      have forth2 := fun u => (wanted_put oi a oj.dst u h3)
      have hstep : ∀ x, (YG c X S ops oj ej (a.put oi.dst (ei.V x)) ∧ ∀ y, anyB c X S ops md tb m T f ((listed.setIfInBounds i true).setIfInBounds j true) (ej.LL y ++ (ei.LL x ++ E)) ((a.put oi.dst (ei.V x)).put oj.dst (ej.V y))) ∨
          (Region.wanted oj (yielded ops (a.put oi.dst (ei.V x)).tmps) = false ∧ anyB c X S ops md tb m T f ((listed.setIfInBounds i true).setIfInBounds j true) (ei.LL x ++ E) ((a.put oi.dst (ei.V x)).put oj.dst undef)) := fun x => by
        obtain ⟨o', ho', hm⟩ := ((H x).2 j (ready_mono hj hji)).2
        rw [hoj] at ho'
        cases ho'
        rw [ha] at hm
        exact hm
      refine ⟨oj, hoj, ?_⟩
      rw [ha]
      cases hw : Region.wanted oj (yielded ops a.tmps) with
      | true =>
        have hpos : ∀ x, YG c X S ops oj ej (a.put oi.dst (ei.V x)) ∧ ∀ y, anyB c X S ops md tb m T f ((listed.setIfInBounds i true).setIfInBounds j true) (ej.LL y ++ (ei.LL x ++ E)) ((a.put oi.dst (ei.V x)).put oj.dst (ej.V y)) := fun x => by
          rcases hstep x with h | h
          · exact h
          · have := (back2 (ei.V x)).symm.trans h.1; rw [hw] at this; cases this
        refine .inl ⟨(hpos ei.x0).1.same (back1 _).symm (back2 _).symm, fun y => ?_⟩
        refine ih (listed.setIfInBounds j true) (ej.LL y ++ E) (a.put oj.dst (ej.V y)) (inv.set hj hjm) hfree' hSE.grow (ready_mono hr (Ne.symm hji)) hok' (hy.same (forth1 _) (forth2 _)) fun x => ?_
        rw [Array.setIfInBounds_comm _ _ hji, ← Act.put_comm a _ _ h2]
        refine anyB_perm hTp f _ _ _ _ ?_ ((hpos x).2 y)
        rw [← List.append_assoc, ← List.append_assoc]
        exact List.Perm.append_right _ List.perm_append_comm
      | false =>
        have hneg : ∀ x, anyB c X S ops md tb m T f ((listed.setIfInBounds i true).setIfInBounds j true) (ei.LL x ++ E) ((a.put oi.dst (ei.V x)).put oj.dst undef) := fun x => by
          rcases hstep x with h | h
          · have := (back2 (ei.V x)).symm.trans h.1.1; rw [hw] at this; cases this
          · exact h.2
        refine .inr ⟨rfl, ?_⟩
        refine ih (listed.setIfInBounds j true) E (a.put oj.dst undef) (inv.set hj hjm) hfree' hSE (ready_mono hr (Ne.symm hji)) hok' (hy.same (forth1 _) (forth2 _)) fun x => ?_
        rw [Array.setIfInBounds_comm _ _ hji, ← Act.put_comm a _ _ h2]
        exact hneg x
/-- The head in an order of one's own. -/
def wlkB (c : Cx) (X : XP) (S : List (Nat × Obj)) (ops : Array Oper) (tb : Kbs) (T : List (Nat × Obj) → Act → Prop) : List Nat → List (Nat × Obj) → Act → Prop
  | [], E, a => T E a
  | k :: rest, E, a => stB c X S ops tb k (fun E' a' => wlkB c X S ops tb T rest E' a') E a
def lexB (md : Region.Mode) (ops : Array Oper) (tb : Kbs) (m g : Nat) : List Nat → Array Bool → Bool
  | [], listed => Region.seqB md ops g m listed
  | k :: r, listed => Nat.blt k m && (match (tb k).isTurn with
      | true => decide (Region.ready md ops listed = [k])
      | false => (Region.ready md ops listed).contains k && Region.free md ops listed k && (!(tb k).isGrow || okG md ops tb k r.length listed)) && lexB md ops tb m g r (listed.setIfInBounds k true)
theorem anyB_lex {tb : Kbs} {m g : Nat} {T : List (Nat × Obj) → Act → Prop} (hsel : Region.noSelect ops = true) (hTp : ∀ E E' a, E.Perm E' → T E a → T E' a) (hbd : ∀ i, i < m → BoundB md ops tb m i) (hlt : ∀ i, i < m → ∀ listed, HeadInv md ops m listed → listed.getD i true = false → ∀ j ∈ Region.ready md ops listed, j < m)
    (hseq : ∀ listed, Region.seqB md ops g m listed = true → ∀ j ∈ Region.ready md ops listed, m ≤ j) :
    ∀ (l : List Nat) (listed : Array Bool) (E : List (Nat × Obj)) (a : Act), HeadInv md ops m listed → SubS S E →
    lexB md ops tb m g l listed = true → wlkB c X S ops tb T l E a →
    anyB c X S ops md tb m (fun E' listed' a' => Region.seqB md ops g m listed' = true ∧ T E' a') l.length listed E a
  | [], listed, E, a, _, _, hB, h => ⟨by simpa [lexB] using hB, h⟩
  | k :: l, listed, E, a, inv, hSE, hB, h => by
    simp only [lexB, Bool.and_eq_true] at hB
    obtain ⟨⟨hkm, hr⟩, hB'⟩ := hB
    have hkm : k < m := by
      have : k + 1 ≤ m := Nat.le_of_ble_eq_true hkm
      omega
    have hr' : k ∈ Region.ready md ops listed := by
      cases ht : (tb k).isTurn with
      | true => rw [ht] at hr; simp only [decide_eq_true_eq] at hr; rw [hr]; exact List.mem_cons_self
      | false => rw [ht] at hr; simp only [Bool.and_eq_true] at hr; simpa using hr.1.1
    have next : ∀ E' a', SubS S E' → wlkB c X S ops tb T l E' a' → anyB c X S ops md tb m (fun E' listed' a' => Region.seqB md ops g m listed' = true ∧ T E' a') l.length (listed.setIfInBounds k true) E' a' := fun E' a' hSE' hw =>
      anyB_lex hsel hTp hbd hlt hseq l _ E' a' (inv.set hr' hkm) hSE' hB' hw
    obtain ⟨o, h0, hm⟩ := h
    have quiet : (tb k).isTurn = false → ∀ v, (tb k = .quiet ∨ tb k = .pure) → (YQ c E X ops o v a ∧ (tb k = .pure → YP c X S ops o v a)) → wlkB c X S ops tb T l E (a.put o.dst v) →
        anyB c X S ops md tb m (fun E' listed' a' => Region.seqB md ops g m listed' = true ∧ T E' a') (l.length + 1) listed E a := fun hnt v hai hy hw => by
      rw [hnt] at hr
      simp only [Bool.and_eq_true] at hr
      exact anyB_first h0 hai (Region.noSelect_spec hsel) (hbd k hkm) (hlt k hkm) (fun E' listed' a' hL => hseq _ hL.1) l.length listed E a inv (Region.free_spec h0 hr.1.2) hSE hr' hy (next _ _ hSE hw)
    cases ha : tb k with
    | quiet => rw [ha] at hm; obtain ⟨v, hy, hw⟩ := hm; exact quiet (by rw [ha]; rfl) v (.inl ha) ⟨hy, fun e => by rw [ha] at e; cases e⟩ hw
    | pure => rw [ha] at hm; obtain ⟨v, hy, hw⟩ := hm; exact quiet (by rw [ha]; rfl) v (.inr ha) ⟨hy.quiet hSE, fun _ => hy⟩ hw
    | grow e =>
      rw [ha] at hm hr
      simp only [Kb.isTurn, Kb.isGrow, Bool.not_true, Bool.false_or, Bool.and_eq_true] at hr
      rcases hm with ⟨h1, h2⟩ | ⟨h1, h2⟩
      · exact anyB_grow h0 ha (Region.noSelect_spec hsel) (fun E E' listed a hp hT => ⟨hT.1, hTp _ _ _ hp hT.2⟩) (hlt k hkm) (fun E' listed' a' hL => hseq _ hL.1) l.length listed E a inv (Region.free_spec h0 hr.1.2) hSE hr' hr.2 h1 fun x => next _ _ hSE.grow (h2 x)
      · exact anyB_off h0 ha (Region.noSelect_spec hsel) (hlt k hkm) (fun E' listed' a' hL => hseq _ hL.1) l.length listed E a inv (Region.free_spec h0 hr.1.2) hSE hr' h1 (next _ _ hSE h2)
    | turn =>
      rw [ha] at hm hr
      simp only [Kb.isTurn, decide_eq_true_eq] at hr
      refine ⟨fun e => (by rw [e] at hr'; cases hr'), fun i hi => ?_⟩
      rw [hr] at hi
      have hik : i = k := by simpa using hi
      subst hik
      refine ⟨hkm, o, h0, ?_⟩
      rw [ha]
      rcases hm with ⟨α, V, G, h1, h2⟩ | ⟨h1, h2⟩
      · exact .inl ⟨α, V, G, h1, fun x => ⟨(h2 x).1, next _ _ (h2 x).1 (h2 x).2⟩⟩
      · exact .inr ⟨h1, next _ _ hSE h2⟩
/-- The closed facts. -/
def lookKb : List (Nat × Kb) → Kbs
  | [], _ => .quiet
  | (j, p) :: r, k => match Nat.beq k j with | true => p | false => lookKb r k
def crossBB (md : Region.Mode) (ops : Array Oper) (tb : Kbs) (m : Nat) : Bool :=
  (List.range m).all fun j => if (tb j).isTurn then (List.range m).all fun i => !(tb i).isQuiet || onB md ops j i || onB md ops i j else true
theorem cross_boundB {tb : Kbs} {m : Nat} (h : crossBB md ops tb m = true) {i : Nat} (hi : i < m) : BoundB md ops tb m i := fun hq j hj he listed hir hjr => by
  have h1 := List.all_eq_true.1 h j (List.mem_range.2 hj)
  rw [he] at h1
  simp only [Kb.isTurn, if_true] at h1
  have h2 := List.all_eq_true.1 h1 i (List.mem_range.2 hi)
  rw [hq] at h2
  simp only [Kb.isQuiet, Bool.not_true, Bool.false_or, Bool.or_eq_true] at h2
  rcases h2 with h2 | h2
  · exact on_not h2 hjr hir
  · exact on_not h2 hir hjr
end
section
variable {c : Cx} {l : List (Nat × Value)} {L E : List (Nat × Obj)} {X : XP} {Q : Exit → Act → World → Prop} {d : List Deferred}
variable {ops : Array Oper} {rest : List Nat} {i k : Nat} {v : Value} {o : Oper} {tb : Kbs} {S : List (Nat × Obj)} {T : List (Nat × Obj) → Act → Prop}
def HB (c : Cx) (d : List Deferred) (l : List (Nat × Value)) (E : List (Nat × Obj)) (X : XP) (S : List (Nat × Obj)) (ops : Array Oper) (tb : Kbs) (rest : List Nat) (T : List (Nat × Obj) → Act → Prop) : Prop :=
  ∀ a, Fr c.n d l a → wlkB c X S ops tb T rest E a
def drawBB (ops : List Oper) (tb : Kbs) (m : Nat) (order : List Nat) : Bool :=
  (ops.all fun o => noDefer o.op) && Region.noSelect ops.toArray && Nat.ble m ops.length && Nat.beq order.length m &&
  (Nat.beq m ops.length || (Region.sinkB .any ops.toArray m && Region.chainB .any ops.toArray m)) && crossBB .any ops.toArray tb m &&
  lexB .any ops.toArray tb m (ops.length - m) order (Array.replicate ops.length false)
theorem HC_drawB {id : Nat} {ops : List Oper} (S : List (Nat × Obj)) (tab : List (Nat × Kb)) (m : Nat) (order : List Nat) (hm : c.P.follows .mixedOrders = true) (hB : drawBB ops (lookKb tab) m order = true) (hSL : SubS S L)
    (h : HB c d l L X S ops.toArray (lookKb tab) order (fun E a' => ∀ w, St c E X w → wpListIn (FW c.ro) 0 c.P ops.toArray Q (ops.drop m) a' w)) : HC c d l L X (.region id ops.toArray true) Q := fun a w hf hs => by
  simp only [drawBB, Bool.and_eq_true, Bool.or_eq_true] at hB
  obtain ⟨⟨⟨⟨⟨⟨h1, hsel⟩, hle⟩, hol⟩, hsc⟩, hcr⟩, hlex⟩ := hB
  have hle' := Nat.le_of_ble_eq_true hle
  have hol' := Nat.eq_of_beq_eq_true hol
  have hnd : ∀ (j : Nat) (o : Oper), ops.toArray[j]? = some o → noDefer o.op = true := fun j o ho => List.all_eq_true.1 h1 o (List.mem_of_getElem? (by simpa using ho))
  have hdl : (ops.drop m).length = ops.length - m := by simp
  have hlt : ∀ i, i < m → ∀ listed, HeadInv .any ops.toArray m listed → listed.getD i true = false → ∀ j ∈ Region.ready .any ops.toArray listed, j < m := by
    intro i hi listed inv hun j hj
    rcases Nat.lt_or_ge j m with hjm | hjm
    · exact hjm
    · have hjs : j < ops.length := by obtain ⟨_, oj, hoj, _⟩ := mem_ready.1 hj; simpa using (Array.getElem?_eq_some_iff.1 hoj).1
      rcases hsc with h0 | ⟨h2, h3⟩
      · have := Nat.eq_of_beq_eq_true h0; omega
      · exact absurd hj (tail_waits h2 h3 (by simpa using (show m < ops.length by omega)) inv _ i rfl hi hun j hjm)
  have inv0 : HeadInv .any ops.toArray m (Array.replicate ops.length false) :=
    ⟨by simp, fun j oj _ hl => (by rw [getD_replicate_false] at hl; cases hl), fun t _ ht => getD_in (by simpa using ht) (getD_replicate_false _ _)⟩
  have H := anyB_lex (c := c) (X := X) (md := .any) (g := ops.length - m) hsel (fun E E' a hp hT w hs => hT w (hs.perm hp.symm)) (fun i hi => cross_boundB hcr hi) hlt (fun listed hq => seqB_ready hq) order _ L a inv0 hSL hlex (h a hf)
  refine wpIn_region_any hm ?_
  have := anyB_wp (Q' := Q) (g := ops.length - m) hnd (fun E' listed a' w' _ hw' hL => by
    have := anyIn_of_seq (ro := c.ro) (P := c.P) (md := .any) (Q' := Q) (ops.drop m) m listed a' w' (fun j => by simp [List.getElem?_drop]) (by rw [hdl]; exact hL.1) (hL.2 w' hw')
    rwa [hdl] at this) _ _ _ _ _ hSL (show St c L X w.drew from hs.drew) H
  rw [hol', show m + (ops.length - m) = ops.toArray.size from by simp; omega] at this
  simpa using this
theorem HB_end {tail : List Oper} (h : HL c d l E X ops tail Q) : HB c d l E X S ops tb [] (fun E' a' => ∀ w, St c E' X w → wpListIn (FW c.ro) 0 c.P ops Q tail a' w) :=
  fun a hf w hs => h a w hf hs
theorem HB_r (hk : nth ops.toList k = some o) (hg : goes l ops o = some true) (hd : o.dst = some i) (hi : Nat.ble (i + 1) c.n = true) (hA : tb k = .quiet) (hr : RunsTo c d l E X o v) (h : HB c d ((i, v) :: l) E X S ops tb rest T) : HB c d l E X S ops tb (k :: rest) T := fun a hf => by
  refine ⟨o, nth_arr hk, ?_⟩
  rw [hA]
  refine ⟨v, .inl ⟨goes_wanted hf hg, fun w hs => act_run (hr a w hf hs) ⟨rfl, Keep.refl _ _⟩⟩, ?_⟩
  rw [hd]; exact h _ (hf.put (Nat.le_of_ble_eq_true hi))
theorem HB_p (hk : nth ops.toList k = some o) (hg : goes l ops o = some true) (hd : o.dst = some i) (hi : Nat.ble (i + 1) c.n = true) (hA : tb k = .pure) (hr : ∀ E', SubS S E' → RunsTo c d l E' X o v) (h : HB c d ((i, v) :: l) E X S ops tb rest T) : HB c d l E X S ops tb (k :: rest) T := fun a hf => by
  refine ⟨o, nth_arr hk, ?_⟩
  rw [hA]
  refine ⟨v, .inl ⟨goes_wanted hf hg, fun E' hE' w hs => act_run (hr E' hE' a w hf hs) ⟨rfl, Keep.refl _ _⟩⟩, ?_⟩
  rw [hd]; exact h _ (hf.put (Nat.le_of_ble_eq_true hi))
/-- What is passed over. -/
theorem HB_skip (hk : nth ops.toList k = some o) (hg : goes l ops o = some false) (hd : o.dst = some i) (hi : Nat.ble (i + 1) c.n = true) (h : HB c d ((i, undef) :: l) E X S ops tb rest T) : HB c d l E X S ops tb (k :: rest) T := fun a hf => by
  refine ⟨o, nth_arr hk, ?_⟩
  have hw := goes_wanted hf hg
  have hn : wlkB c X S ops tb T rest E (a.put o.dst undef) := by rw [hd]; exact h _ (hf.put (Nat.le_of_ble_eq_true hi))
  cases tb k with
  | quiet => exact ⟨undef, .inr ⟨hw, rfl⟩, hn⟩
  | pure => exact ⟨undef, .inr ⟨hw, rfl⟩, hn⟩
  | grow e => exact .inr ⟨hw, hn⟩
  | turn => exact .inr ⟨hw, hn⟩
theorem HB_case {b : Bool} (t : Nat) (ht : look l t = some (.bool b)) (h1 : b = true → HB c d ((t, .bool true) :: l) E X S ops tb rest T) (h0 : b = false → HB c d ((t, .bool false) :: l) E X S ops tb rest T) : HB c d l E X S ops tb rest T := fun a hf => by
  cases hb : b with
  | true => exact h1 hb a (fr_case hf ht hb.symm)
  | false => exact h0 hb a (fr_case hf ht hb.symm)
theorem HB_as {v' : Value} (e : v = v') (h : HB c d ((i, v') :: l) E X S ops tb rest T) : HB c d ((i, v) :: l) E X S ops tb rest T := e ▸ h
theorem HB_callR {f : Operand} {args : Array Operand} {at_ : Array TypeId} {g : FuncId} {vs : List Value} {Rl : List (Nat × Obj)} {ty : TypeId} {ps : String} {af : Array Edge} {gd : Option (Nat × Bool)}
    (hk : nth ops.toList k = some ⟨some i, .call ⟨.value f, args, at_⟩, ty, ps, af, gd⟩) (hg : goes l ops ⟨some i, .call ⟨.value f, args, at_⟩, ty, ps, af, gd⟩ = some true) (hi : Nat.ble (i + 1) c.n = true) (hA : tb k = .quiet) (hca : callArgs l f args = some (g, vs)) (eg : Enters c.P g)
    (hp : PureR c.P g vs.toArray v Rl) (hR : ∀ p ∈ Rl, known c E p.1 p.2) (h : HB c d ((i, v) :: l) E X S ops tb rest T) : HB c d l E X S ops tb (k :: rest) T := fun a hf => by
  refine ⟨_, nth_arr hk, ?_⟩
  rw [hA]
  exact ⟨v, .inl ⟨goes_wanted hf hg, fun w hs => act_call hf hca eg ((hp.run w fun p hp => hs.known (hR p hp)).mono fun _ _ ⟨he, hk⟩ => ⟨v, he, rfl, hk⟩)⟩, h _ (hf.put (Nat.le_of_ble_eq_true hi))⟩
def geNew (V : Nat → Value) (ob : Obj) : GE := ⟨Nat, V, fun r => [(r, ob)], 0⟩
def geCall {α : Type} (x0 : α) (V : α → Value) (LL : α → List (Nat × Obj)) : GE := ⟨α, V, LL, x0⟩
theorem HB_grow {e : GE} (hk : nth ops.toList k = some o) (hg : goes l ops o = some true) (hd : o.dst = some i) (hi : Nat.ble (i + 1) c.n = true) (hA : tb k = .grow e) (hr : ∀ E', SubS S E' → ∀ a w, Fr c.n d l a → St c E' X w → actAt c o a w fun u w' => ∃ x, u = e.V x ∧ Fresh (e.LL x) w w')
    (h : ∀ x, HB c d ((i, e.V x) :: l) (e.LL x ++ E) X S ops tb rest T) : HB c d l E X S ops tb (k :: rest) T := fun a hf => by
  refine ⟨o, nth_arr hk, ?_⟩
  rw [hA]
  refine .inl ⟨⟨goes_wanted hf hg, fun E' hE' w hs => hr E' hE' a w hf hs⟩, fun x => ?_⟩
  rw [hd]; exact h x _ (hf.put (Nat.le_of_ble_eq_true hi))
theorem HB_new {V : Nat → Value} {ob : Obj} (hk : nth ops.toList k = some o) (hg : goes l ops o = some true) (hd : o.dst = some i) (hi : Nat.ble (i + 1) c.n = true) (hA : tb k = .grow (geNew V ob)) (hr : ∀ a w, Fr c.n d l a → (execOp a.eval o).run c.P w = .ok (.value (V w.heap.size)) (w.alloc ob))
    (h : ∀ r, HB c d ((i, V r) :: l) ((r, ob) :: E) X S ops tb rest T) : HB c d l E X S ops tb (k :: rest) T :=
  HB_grow (e := geNew V ob) hk hg hd hi hA (fun E' _ a w hf hs => act_run (hr a w hf) ⟨w.heap.size, rfl, Keep.alloc ob, fun p hp => by rw [List.mem_singleton.1 hp]; exact ⟨Nat.le_refl _, (MapKept.heap_alloc w _).1⟩, List.pairwise_singleton _ _⟩) h
theorem HB_alloc {z : Value} {cs : Array Value} {t ty : TypeId} {ps : String} {af : Array Edge} {gd : Option (Nat × Bool)} (hk : nth ops.toList k = some ⟨some i, .alloc t, ty, ps, af, gd⟩) (hg : goes l ops ⟨some i, .alloc t, ty, ps, af, gd⟩ = some true) (hi : Nat.ble (i + 1) c.n = true) (hA : tb k = .grow (geNew ptrV (.cells cs t (0, 0)))) (hz : zeroOf c.P t = some z) (hc : z.cells = cs)
    (h : ∀ r, HB c d ((i, .pointer (some ⟨r, 0, none⟩)) :: l) ((r, .cells cs t (0, 0)) :: E) X S ops tb rest T) : HB c d l E X S ops tb (k :: rest) T :=
  HB_new (V := ptrV) hk hg rfl hi hA (fun a w hf => by simp [execOp, Instr.alloc, Sem.run_bind, run_zero hz, Result.andThen, newVar, newRow, hc, ptrV]) h
theorem HB_callPE {α : Type} {x0 : α} {V : α → Value} {LL : α → List (Nat × Obj)} {f : Operand} {args : Array Operand} {at_ : Array TypeId} {g : FuncId} {vs : List Value} {ty : TypeId} {ps : String} {af : Array Edge} {gd : Option (Nat × Bool)}
    (hk : nth ops.toList k = some ⟨some i, .call ⟨.value f, args, at_⟩, ty, ps, af, gd⟩) (hg : goes l ops ⟨some i, .call ⟨.value f, args, at_⟩, ty, ps, af, gd⟩ = some true) (hi : Nat.ble (i + 1) c.n = true) (hA : tb k = .grow (geCall x0 V LL)) (hca : callArgs l f args = some (g, vs)) (eg : Enters c.P g)
    (hp : PureE c.P g vs.toArray V LL) (h : ∀ x, HB c d ((i, V x) :: l) (LL x ++ E) X S ops tb rest T) : HB c d l E X S ops tb (k :: rest) T :=
  HB_grow (e := geCall x0 V LL) hk hg rfl hi hA (fun E' _ a w hf hs => act_call hf hca eg ((hp.run w).mono fun _ _ ⟨x, he, hk, h1, h2⟩ => ⟨V x, he, x, rfl, hk, h1, h2⟩)) h
/-- A store, and anything else that turns blocks, once nothing else is ready. -/
theorem HB_turn0 {E' : List (Nat × Obj)} (hk : nth ops.toList k = some o) (hg : goes l ops o = some true) (hd : o.dst = none) (hA : tb k = .turn) (hr : ∀ a w, Fr c.n d l a → St c E X w → ∃ w', (execOp a.eval o).run c.P w = .ok .skip w' ∧ St c E' X w') (hS : SubS S E')
    (h : HB c d l E' X S ops tb rest T) : HB c d l E X S ops tb (k :: rest) T := fun a hf => by
  refine ⟨o, nth_arr hk, ?_⟩
  rw [hA]
  refine .inl ⟨Unit, fun _ => undef, fun _ => E', ⟨goes_wanted hf hg, fun w hs => ?_⟩, fun _ => ⟨hS, ?_⟩⟩
  · obtain ⟨w', h1, h2⟩ := hr a w hf hs
    exact act_run0 h1 ⟨(), rfl, h2⟩
  · rw [hd]; exact h _ hf
theorem HB_storeArr {t ty : TypeId} {ps : String} {af : Array Edge} {gd : Option (Nat × Bool)} {x y : Operand} {q r n : Nat} {cs : Array Value} {ys : List Value} {e : TypeId} {E' : List (Nat × Obj)} (hko : nth ops.toList k = some ⟨none, .store t x y, ty, ps, af, gd⟩) (hg : goes l ops ⟨none, .store t x y, ty, ps, af, gd⟩ = some true) (hA : tb k = .turn)
    (hx : evl l x = some (.pointer (some ⟨r, 0, none⟩))) (hk : E[q]? = some (r, .cells cs e (0, 0))) (hy : evl l y = some (.agg ys.toArray)) (ht : szOf c.P t = some n) (hn : ys.length = n) (hcz : cs.size = n) (ho : ys.all oneB = true) (hL : E.set q (r, .cells ys.toArray e (0, 0)) = E') (hS : SubS S E')
    (h : HB c d l E' X S ops tb rest T) : HB c d l E X S ops tb (k :: rest) T :=
  HB_turn0 hko hg rfl hA (fun a w hf hst => ⟨w.setRow r ys.toArray, by
    have hcs : (cs.toList.take 0 ++ ys.toArray.toList ++ cs.toList.drop (0 + n)).toArray = ys.toArray := by
      apply Array.toList_inj.1
      simp [← hcz]
    simp only [execOp]; rw [hf.eval hx, hf.eval hy]
    have h1 := run_storeCells_at (P := c.P) r 0 e ys.toArray.toList 0 cs w (hst.get hk) (by simp [hn]; omega) (fun u hu => by rw [oneB_eq]; exact List.all_eq_true.1 ho u (by simpa using hu))
    simp only [Nat.add_zero, Array.length_toList, List.size_toArray, hn] at h1
    rw [hcs] at h1
    simp [Instr.storeAt, Instr.sureAddr, Sem.run_bind, Result.andThen, storeVar, run_sz ht, Value.cells, hn, h1], by
    subst hL
    exact hst.set hk (Keep.setRow r ys.toArray) (setRow_heap _ _ _ _ _ _ (hst.get hk))⟩) hS h
theorem HB_store {t ty : TypeId} {ps : String} {af : Array Edge} {gd : Option (Nat × Bool)} {x y : Operand} {q r off : Nat} {cs cs' : Array Value} {e : TypeId} {E' : List (Nat × Obj)} (hko : nth ops.toList k = some ⟨none, .store t x y, ty, ps, af, gd⟩) (hg : goes l ops ⟨none, .store t x y, ty, ps, af, gd⟩ = some true) (hA : tb k = .turn)
    (hx : evl l x = some (.pointer (some ⟨r, off, none⟩))) (hk : E[q]? = some (r, .cells cs e (0, 0))) (hy : evl l y = some v) (ht : szOf c.P t = some 1) (ho : oneB v = true) (hc : (cs[off]?).isSome = true)
    (hcs : cs.setIfInBounds off v = cs') (hL : E.set q (r, .cells cs' e (0, 0)) = E') (hS : SubS S E')
    (h : HB c d l E' X S ops tb rest T) : HB c d l E X S ops tb (k :: rest) T :=
  HB_turn0 hko hg rfl hA (fun a w hf hs => ⟨w.setCell ⟨r, off, none⟩ v, by
    simp only [execOp]; rw [hf.eval hx, hf.eval hy]
    obtain ⟨old, hold⟩ := Option.isSome_iff_exists.1 hc
    have h1 := run_store c.P w ⟨r, off, none⟩ v .plain (by rw [oneB_eq]; exact ho)
    rw [cell_at (hs.get hk), hold, frozen_at (hs.get hk) (frB0 off)] at h1
    have hcell : v.cells = #[v] := by cases v <;> first | rfl | cases ho
    simp [Instr.storeAt, Instr.sureAddr, Sem.run_bind, Result.andThen, storeVar, run_sz ht, hcell, storeCells, Addr.add, h1], by
    subst hL; subst hcs
    exact hs.set hk (Keep.setCell r off v) (heap_setCell_same v (hs.get hk))⟩) hS h
end
end Go.SL
namespace Go.Proofs.YtlcbfphioeppaaaGreatDoor
set_option linter.all false
open Go.SL Go.RowKit Go.Shelf
theorem kCells_one (k : Int) : (kCells k).all oneB = true := by
  unfold kCells fnV
  cases isK k <;> cases varB k <;> rfl
theorem isK_false {k : Int} (h : isK k = false) : k < 1 ∨ 8 < k := by unfold isK at h; simp at h; omega
theorem fnV_t {b : Bool} {f : FuncId} (h : b = true) : fnV b f = .func (.func f) #[] #[] := by rw [h]; rfl
theorem varB_eq {k : Int} (h : isK k = true) : varB k = (decide (k = 4) || decide (k = 6) || decide (k = 8)) := by
  have := isK_iff.1 h
  have : k = 1 ∨ k = 2 ∨ k = 3 ∨ k = 4 ∨ k = 5 ∨ k = 6 ∨ k = 7 ∨ k = 8 := by omega
  rcases this with rfl | rfl | rfl | rfl | rfl | rfl | rfl | rfl <;> rfl
set_option maxRecDepth 10000 in
theorem S_check {R : List (Nat × Obj)} {t : Ty} (ht : t.In R) : ∀ d : Int, 0 ≤ d → d ≤ 1000 → PureR Tryz.prog 80 [t.val, .int .i64 d].toArray (.int .i64 (chk t d)) R := by
  induction ht with
  | @mk k n p ins hk hn hl hs hi ih =>
  intro d hd0 hd1
  have hF := fun h => F_all (.mk hk hn hl hs hi : Ty.In R (.mk k n p ins)) h
  refine pureR_of_HC Tryz.func80 rfl rfl fun w => ?_; refine HC_seq fun K1 hK1 => ?_; refine HC_region ?_; refine HL_box (cs := #[_, _, _]) rfl rfl rfl rfl fun r1 => ?_; refine HL_r rfl rfl rfl rfl (R_assign rfl) ?_; refine HL_nil ?_; refine HQ_then ?_; refine hK1 _ _ _ _ ?_; clear hK1 K1; refine HC_seq fun K2 hK2 => ?_
  refine HC_drawB [] [(0, .grow (geCall 0 (fun r : Nat => Value.map (some r)) (fun r => [(r, kObj)]))), (1, .pure), (4, .pure), (5, .pure), (6, .pure), (7, .grow (geNew ptrV (.cells #[.nilFunc, .nilFunc, .nilFunc, .bool false] 97 (0, 0)))), (8, .turn), (9, .pure)] 10 [1, 2, 0, 3, 4, 5, 6, 7, 8, 9] (by kernel_rfl) (by kernel_rfl) (by first | exact (fun _ h => nomatch h) | simp [SubS] | (intro p hp; simp [hp])) ?_
  refine HB_p (k := 1) rfl rfl rfl rfl rfl (fun _ hS => (R_fieldAddr rfl rfl (by first | (simp only [Nat.zero_add, Nat.reduceAdd, Nat.reduceMul, Nat.zero_mul, Nat.mul_one, Nat.add_zero]; exact rfl) | exact rfl))) ?_; refine HB_r (k := 2) rfl rfl rfl rfl rfl (R_load rfl (known_L (k := 0) rfl) rfl rfl) ?_; refine HB_callPE (k := 0) rfl rfl rfl rfl rfl (enters_of Tryz.func91 (by kernel_rfl) rfl) E_kinds fun mr => ?_; refine HB_r (k := 3) rfl rfl rfl rfl rfl (R_lookup (keyI (t := 3) (by kernel_rfl)) rfl rfl (known_L (k := 0) rfl) rfl rfl ⟨_, rfl⟩ kMap_dom (kMap_val k)) ?_; refine HB_p (k := 4) rfl rfl rfl rfl rfl (fun _ hS => (R_move rfl)) ?_; refine HB_p (k := 5) rfl rfl rfl rfl rfl (fun _ hS => (R_extract rfl rfl)) ?_; refine HB_p (k := 6) rfl rfl rfl rfl rfl (fun _ hS => (R_extract rfl rfl)) ?_; refine HB_alloc (k := 7) (cs := #[_, _, _, _]) rfl rfl rfl rfl rfl rfl fun r2 => ?_
  refine HB_storeArr (k := 8) (q := 0) (n := 4) (ys := kCells k) rfl rfl rfl rfl rfl rfl rfl rfl rfl (kCells_one k) (by first | (simp only [List.set_cons_zero, List.set_cons_succ]; exact rfl) | exact rfl) (by first | exact (fun _ h => nomatch h) | simp [SubS]) ?_; refine HB_p (k := 9) rfl rfl rfl rfl rfl (fun _ hS => (R_assign rfl)) ?_; refine HB_end ?_; refine HL_nil ?_; refine HQ_then ?_; refine hK2 _ _ _ _ ?_; clear hK2 K2; refine HC_seq fun K3 hK3 => ?_; refine HC_block ?_; refine HC_seq fun K4 hK4 => ?_; refine HC_region ?_; refine HL_r rfl rfl rfl rfl (R_move rfl) ?_; refine HL_r rfl rfl rfl rfl (R_pure rfl rfl rfl) ?_; refine HL_r rfl rfl rfl rfl (R_assign rfl) ?_; refine HL_nil ?_; refine HQ_then ?_; refine hK4 _ _ _ _ ?_; clear hK4 K4; refine HC_cond rfl (fun h5 => ?_) (fun h5 => ?_)
  · try exact Bool.noConfusion h5
    try simp only [Z1, Z2, Z3, Z4, Z5, Z6, Z7, Z8, Z9, Z10, Z11, Z12, Z13] at h5
    refine HC_seq fun K6 hK6 => ?_; refine HC_region ?_; refine HL_r rfl rfl rfl rfl (R_assign rfl) ?_; refine HL_nil ?_; refine HQ_then ?_; refine hK6 _ _ _ _ ?_; clear hK6 K6; refine HC_ret ?_; refine HQ_blockR ?_; refine HQ_thenR ?_; clear hK3 K3; refine HQ_post rfl rfl (.cons (res_tmp rfl) .nil) (fun w1 hs1 => ?_); refine ⟨?_, hs1.keep⟩; rw [chk, if_pos (isK_false (by assumption))]; rfl
  · try exact Bool.noConfusion h5
    try simp only [Z1, Z2, Z3, Z4, Z5, Z6, Z7, Z8, Z9, Z10, Z11, Z12, Z13] at h5
    refine HC_seq fun K7 hK7 => ?_; refine HC_region ?_
    refine HL_r rfl rfl rfl rfl (R_fieldAddr rfl rfl (by first | (simp only [Nat.zero_add, Nat.reduceAdd, Nat.reduceMul, Nat.zero_mul, Nat.mul_one, Nat.add_zero]; exact rfl) | exact rfl)) ?_; refine HL_r rfl rfl rfl rfl (R_load rfl (known_L (k := 0) rfl) rfl rfl) ?_; refine HL_as (fnV_t (by assumption)) ?_; refine HL_r rfl rfl rfl rfl (R_loadA (vs := [_, _, _]) rfl (known_L (k := 2) rfl) rfl rfl rfl rfl) ?_; refine HL_callR rfl rfl rfl (hF (by assumption)).1 (hF (by assumption)).2 (fun q hq => Or.inr hq) ?_; refine HL_r rfl rfl rfl rfl (R_pure rfl rfl rfl) ?_; refine HL_r rfl rfl rfl rfl (R_assign rfl) ?_; refine HL_nil ?_; refine HQ_then ?_; refine hK7 _ _ _ _ ?_; clear hK7 K7; refine HC_cond rfl (fun h8 => ?_) (fun h8 => ?_)
    · try exact Bool.noConfusion h8
      try simp only [Z1, Z2, Z3, Z4, Z5, Z6, Z7, Z8, Z9, Z10, Z11, Z12, Z13] at h8
      refine HC_seq fun K9 hK9 => ?_; refine HC_region ?_; refine HL_r rfl rfl rfl rfl (R_assign rfl) ?_; refine HL_nil ?_; refine HQ_then ?_; refine hK9 _ _ _ _ ?_; clear hK9 K9; refine HC_ret ?_; refine HQ_blockR ?_; refine HQ_thenR ?_; clear hK3 K3; refine HQ_post rfl rfl (.cons (res_tmp rfl) .nil) (fun w1 hs1 => ?_); refine ⟨?_, hs1.keep⟩
      first
        | (rw [chk, if_pos (isK_false (by assumption))]; rfl)
        | (have hkk := isK_iff.1 (by assumption)
           rw [chk, if_neg (by omega)]
           first
           | (rw [if_pos (by assumption)]; rfl)
           | (rw [if_neg (by simp_all), if_pos (by omega)]; rfl)
           | (rw [if_neg (by simp_all), if_neg (by omega), ← hinv, if_neg (by assumption)]; rfl)
           | (rw [if_neg (by simp_all), if_neg (by omega), ← hinv, List.drop_of_length_le (by omega), chkL]; rfl))
    · try exact Bool.noConfusion h8
      try simp only [Z1, Z2, Z3, Z4, Z5, Z6, Z7, Z8, Z9, Z10, Z11, Z12, Z13] at h8
      refine HC_seq fun K10 hK10 => ?_; refine HC_region ?_; refine HL_r rfl rfl rfl rfl (R_move rfl) ?_; refine HL_r rfl rfl rfl rfl (R_pure rfl rfl rfl) ?_; refine HL_r rfl rfl rfl rfl (R_assign rfl) ?_; refine HL_nil ?_; refine HQ_then ?_; refine hK10 _ _ _ _ ?_; clear hK10 K10; refine HC_cond rfl (fun h11 => ?_) (fun h11 => ?_)
      · try exact Bool.noConfusion h11
        try simp only [Z1, Z2, Z3, Z4, Z5, Z6, Z7, Z8, Z9, Z10, Z11, Z12, Z13] at h11
        refine HC_seq fun K12 hK12 => ?_; refine HC_region ?_; refine HL_r rfl rfl rfl rfl (R_assign rfl) ?_; refine HL_nil ?_; refine HQ_then ?_; refine hK12 _ _ _ _ ?_; clear hK12 K12; refine HC_ret ?_; refine HQ_blockR ?_; refine HQ_thenR ?_; clear hK3 K3; refine HQ_post rfl rfl (.cons (res_tmp rfl) .nil) (fun w1 hs1 => ?_); refine ⟨?_, hs1.keep⟩
        first
          | (rw [chk, if_pos (isK_false (by assumption))]; rfl)
          | (have hkk := isK_iff.1 (by assumption)
             rw [chk, if_neg (by omega)]
             first
             | (rw [if_pos (by assumption)]; rfl)
             | (rw [if_neg (by simp_all), if_pos (by omega)]; rfl)
             | (rw [if_neg (by simp_all), if_neg (by omega), ← hinv, if_neg (by assumption)]; rfl)
             | (rw [if_neg (by simp_all), if_neg (by omega), ← hinv, List.drop_of_length_le (by omega), chkL]; rfl))
      · try exact Bool.noConfusion h11
        try simp only [Z1, Z2, Z3, Z4, Z5, Z6, Z7, Z8, Z9, Z10, Z11, Z12, Z13] at h11
        refine HC_skip ?_; refine HQ_blockN ?_; refine HQ_then ?_; refine hK3 _ _ _ _ ?_; clear hK3 K3; refine HC_seq fun K13 hK13 => ?_; refine HC_seq fun K14 hK14 => ?_; refine HC_region ?_
        refine HL_r rfl rfl rfl rfl (R_fieldAddr rfl rfl (by first | (simp only [Nat.zero_add, Nat.reduceAdd, Nat.reduceMul, Nat.zero_mul, Nat.mul_one, Nat.add_zero]; exact rfl) | exact rfl)) ?_; refine HL_r rfl rfl rfl rfl (R_load rfl (known_L (k := 2) rfl) rfl rfl) ?_; refine HL_r rfl rfl rfl rfl (R_lenPl rfl hs rfl) ?_; refine HL_r rfl rfl rfl rfl (R_move rfl) ?_; refine HL_nil ?_; refine HQ_then ?_; refine hK14 _ _ _ _ ?_; clear hK14 K14; refine HC_block ?_; refine HC_loop (σ := Nat) (fun i => i ≤ ins.length ∧ chkL (ins.drop i) (d + 1) = chkL ins (d + 1)) (fun i => [(1, .int .i64 d), (30, plV ins.length p), (31, .int .i64 (ins.length : Int)), (32, .int .i64 (i : Int))]) (fun _ => []) (fun _ _ _ => True) (fun i => ins.length - i) 0 ⟨by omega, rfl⟩ (.cons rfl (.cons rfl (.cons rfl (.cons rfl .nil)))) (List.nil_sublist _) (fun _ _ h => h) ?_; rintro i ⟨hi1, hinv⟩; refine HC_seq fun K15 hK15 => ?_; refine HC_region ?_; refine HL_r rfl rfl rfl rfl (R_pure rfl rfl rfl) ?_; refine HL_nil ?_; refine HQ_then ?_; refine hK15 _ _ _ _ ?_; clear hK15 K15; refine HC_seq fun K16 hK16 => ?_; refine HC_cond rfl (fun h17 => ?_) (fun h17 => ?_)
        · try exact Bool.noConfusion h17
          try simp only [Z1, Z2, Z3, Z4, Z5, Z6, Z7, Z8, Z9, Z10, Z11, Z12, Z13] at h17
          refine HC_skip ?_; refine HQ_then ?_; refine hK16 _ _ _ _ ?_; clear hK16 K16; refine HC_seq fun K18 hK18 => ?_; refine HC_block ?_; refine HC_seq fun K19 hK19 => ?_
          obtain ⟨y, hy, hmem⟩ := getI (show i < ins.length by omega)
          rw [dropI hy, chkL] at hinv; refine HC_region ?_; refine HL_r rfl rfl rfl rfl (R_indexPl (j := i) rfl hs rfl rfl rfl rfl (by omega)) ?_; refine HL_r rfl rfl rfl rfl (R_loadTy (fun q hq => Or.inr hq) rfl hs hy rfl rfl) ?_; refine HL_alloc (cs := #[_, _, _]) rfl rfl rfl rfl fun r3 => ?_; refine HL_storeArr (k := 0) (n := 3) (ys := y.cells) rfl rfl rfl rfl rfl y.len rfl y.one rfl ?_; refine HL_nil ?_; refine HQ_then ?_; refine hK19 _ _ _ _ ?_; clear hK19 K19; refine HC_seq fun K20 hK20 => ?_; refine HC_region ?_; refine HL_r rfl rfl rfl rfl (R_loadArr (xs := y.cells) (n := 3) rfl (known_L (k := 0) rfl) rfl rfl y.len) ?_; refine HL_r rfl rfl rfl rfl (R_move rfl) ?_; refine HL_r rfl rfl rfl rfl (R_pure rfl rfl rfl) ?_; refine HL_wrap_i64 (by omega) (by omega) ?_; refine HL_callR rfl rfl rfl (enters_of Tryz.func80 (by kernel_rfl) rfl) (ih y hmem (d + 1) (by omega) (by omega)) (fun q hq => Or.inr hq) ?_; refine HL_r rfl rfl rfl rfl (R_assign rfl) ?_; refine HL_nil ?_; refine HQ_then ?_; refine hK20 _ _ _ _ ?_; clear hK20 K20; refine HC_seq fun K21 hK21 => ?_; refine HC_region ?_; refine HL_r rfl rfl rfl rfl (R_move rfl) ?_; refine HL_r rfl rfl rfl rfl (R_pure rfl rfl rfl) ?_; refine HL_nil ?_; refine HQ_then ?_; refine hK21 _ _ _ _ ?_; clear hK21 K21; refine HC_cond rfl (fun h22 => ?_) (fun h22 => ?_)
          · try exact Bool.noConfusion h22
            try simp only [Z1, Z2, Z3, Z4, Z5, Z6, Z7, Z8, Z9, Z10, Z11, Z12, Z13] at h22
            refine HC_seq fun K23 hK23 => ?_; refine HC_region ?_; refine HL_r rfl rfl rfl rfl (R_move rfl) ?_; refine HL_r rfl rfl rfl rfl (R_assign rfl) ?_; refine HL_nil ?_; refine HQ_then ?_; refine hK23 _ _ _ _ ?_; clear hK23 K23; refine HC_ret ?_; refine HQ_blockR ?_; refine HQ_thenR ?_; clear hK18 K18; refine HQ_thenR ?_; refine HQ_blockR ?_; refine HQ_thenR ?_; clear hK13 K13; refine HQ_post rfl rfl (.cons (res_tmp rfl) .nil) (fun w1 hs1 => ?_); refine ⟨?_, hs1.keep⟩
            first
              | (rw [chk, if_pos (isK_false (by assumption))]; rfl)
              | (have hkk := isK_iff.1 (by assumption)
                 rw [chk, if_neg (by omega)]
                 first
                 | (rw [if_pos (by assumption)]; rfl)
                 | (rw [if_neg (by simp_all), if_pos (by omega)]; rfl)
                 | (rw [if_neg (by simp_all), if_neg (by omega), ← hinv, if_neg (by assumption)]; rfl)
                 | (rw [if_neg (by simp_all), if_neg (by omega), ← hinv, List.drop_of_length_le (by omega), chkL]; rfl))
          · try exact Bool.noConfusion h22
            try simp only [Z1, Z2, Z3, Z4, Z5, Z6, Z7, Z8, Z9, Z10, Z11, Z12, Z13] at h22
            refine HC_skip ?_; refine HQ_blockN ?_; refine HQ_then ?_; refine hK18 _ _ _ _ ?_; clear hK18 K18; refine HC_region ?_; refine HL_r rfl rfl rfl rfl (R_pure rfl rfl rfl) ?_; refine HL_wrap_i64 (by omega) (by omega) ?_; refine HL_r rfl rfl rfl rfl (R_move rfl) ?_; refine HL_nil ?_; refine HQ_then ?_; exact HQ_again (i + 1) ⟨by omega, by rw [if_pos (by assumption)] at hinv; exact hinv⟩ (by omega) (.cons rfl (.cons rfl (.cons rfl (.cons rfl .nil)))) (List.nil_sublist _) (fun _ _ h => h)
        · try exact Bool.noConfusion h17
          try simp only [Z1, Z2, Z3, Z4, Z5, Z6, Z7, Z8, Z9, Z10, Z11, Z12, Z13] at h17
          refine HC_exit ?_; refine HQ_thenE ?_; clear hK16 K16; refine HQ_thenE ?_; refine HQ_blockE ?_; refine HQ_then ?_; refine hK13 _ _ _ _ ?_; clear hK13 K13; refine HC_seq fun K24 hK24 => ?_; refine HC_region ?_; refine HL_r rfl rfl rfl rfl (R_assign rfl) ?_; refine HL_nil ?_; refine HQ_then ?_; refine hK24 _ _ _ _ ?_; clear hK24 K24; refine HC_ret ?_; refine HQ_post rfl rfl (.cons (res_tmp rfl) .nil) (fun w1 hs1 => ?_); refine ⟨?_, hs1.keep⟩
          (have hkk := isK_iff.1 (by assumption)
           rw [chk, if_neg (by omega)]
           first
           | (rw [if_pos (by assumption)]; rfl)
           | (rw [if_neg (by simp_all), if_pos (by omega)]; rfl)
           | (rw [if_neg (by simp_all), if_neg (by omega), ← hinv, if_neg (by assumption)]; rfl)
           | (rw [if_neg (by simp_all), if_neg (by omega), ← hinv, List.drop_of_length_le (by omega), chkL]; rfl))
set_option maxRecDepth 10000 in
theorem S_Check {R : List (Nat × Obj)} {t : Ty} (ht : t.In R) : PureR Tryz.prog 41 [t.val].toArray (.int .i64 (chk t 0)) R := by
  have h1 := S_check ht 0 (by omega) (by omega)
  obtain ⟨k, n, p, ins⟩ := t
  refine pureR_of_HC Tryz.func41 rfl rfl fun w => ?_; refine HC_seq fun K1 hK1 => ?_; refine HC_region ?_; refine HL_box (cs := #[_, _, _]) rfl rfl rfl rfl fun r1 => ?_; refine HL_r rfl rfl rfl rfl (R_assign rfl) ?_; refine HL_nil ?_; refine HQ_then ?_; refine hK1 _ _ _ _ ?_; clear hK1 K1; refine HC_seq fun K2 hK2 => ?_; refine HC_region ?_; refine HL_r rfl rfl rfl rfl (R_loadA (vs := [_, _, _]) rfl (known_L (k := 0) rfl) rfl rfl rfl rfl) ?_; refine HL_callR rfl rfl rfl (enters_of Tryz.func80 (by kernel_rfl) rfl) h1 (fun q hq => Or.inr hq) ?_; refine HL_r rfl rfl rfl rfl (R_assign rfl) ?_; refine HL_nil ?_; refine HQ_then ?_; refine hK2 _ _ _ _ ?_; clear hK2 K2; refine HC_ret ?_; refine HQ_post rfl rfl (.cons (res_tmp rfl) .nil) (fun w1 hs1 => ?_); exact ⟨rfl, hs1.keep⟩
def idxF {α : Type} (b : α → Bool) : List α → Int → Int
  | [], _ => -1
  | y :: ys, j => if b y = true then j else idxF b ys (j + 1)
theorem idxF_any {α : Type} {b : α → Bool} : ∀ {l : List α} {j : Int}, 0 ≤ j → decide (0 ≤ idxF b l j) = l.any b
  | [], _, _ => rfl
  | y :: ys, j, h => by
    rw [idxF, List.any_cons]
    split
    · rename_i hb; rw [hb]; simp [h]
    · rename_i hb; rw [idxF_any (by omega)]; simp [hb]
set_option maxRecDepth 10000 in
theorem S_IndexFuncT {R : List (Nat × Obj)} {ins : List Ty} {p : Pl} {g : FuncId} {b : Ty → Bool} (eg : Enters Tryz.prog g) (hg : ∀ x ∈ ins, PureR Tryz.prog g [x.val].toArray (.bool (b x)) R) (hl : ins.length ≤ 9223372036854775807) (hs : Seg R ins.length (tysC ins) p) :
    PureR Tryz.prog 174 [plV ins.length p, fV g].toArray (.int .i64 (idxF b ins 0)) R := by
  refine pureR_of_HC Tryz.func174 rfl rfl fun w => ?_; refine HC_seq fun K1 hK1 => ?_; refine HC_region ?_; refine HL_r rfl rfl rfl rfl (R_assign rfl) ?_; refine HL_nil ?_; refine HQ_then ?_; refine hK1 _ _ _ _ ?_; clear hK1 K1; refine HC_seq fun K2 hK2 => ?_; refine HC_seq fun K3 hK3 => ?_; refine HC_region ?_; refine HL_r rfl rfl rfl rfl (R_move rfl) ?_; refine HL_r rfl rfl rfl rfl (R_lenPl rfl hs rfl) ?_; refine HL_r rfl rfl rfl rfl (R_move rfl) ?_; refine HL_nil ?_; refine HQ_then ?_; refine hK3 _ _ _ _ ?_; clear hK3 K3; refine HC_block ?_; refine HC_loop (σ := Nat) (fun i => i ≤ ins.length ∧ idxF b (ins.drop i) (i : Int) = idxF b ins 0) (fun i => [(0, plV ins.length p), (1, fV g), (7, .int .i64 (ins.length : Int)), (8, .int .i64 (i : Int))]) (fun _ => []) (fun _ _ _ => True) (fun i => ins.length - i) 0 ⟨by omega, rfl⟩ (.cons rfl (.cons rfl (.cons rfl (.cons rfl .nil)))) (List.nil_sublist _) (fun _ _ h => h) ?_; rintro i ⟨hi1, hinv⟩; refine HC_seq fun K4 hK4 => ?_; refine HC_region ?_; refine HL_r rfl rfl rfl rfl (R_pure rfl rfl rfl) ?_; refine HL_nil ?_; refine HQ_then ?_; refine hK4 _ _ _ _ ?_; clear hK4 K4; refine HC_seq fun K5 hK5 => ?_; refine HC_cond rfl (fun h6 => ?_) (fun h6 => ?_)
  · try exact Bool.noConfusion h6
    try simp only [Z1, Z2, Z3, Z4, Z5, Z6, Z7, Z8, Z9, Z10, Z11, Z12, Z13] at h6
    refine HC_skip ?_; refine HQ_then ?_; refine hK5 _ _ _ _ ?_; clear hK5 K5; refine HC_seq fun K7 hK7 => ?_; refine HC_block ?_; refine HC_seq fun K8 hK8 => ?_; refine HC_region ?_; refine HL_r rfl rfl rfl rfl (R_move rfl) ?_; refine HL_r rfl rfl rfl rfl (R_assign rfl) ?_; refine HL_nil ?_; refine HQ_then ?_; refine hK8 _ _ _ _ ?_; clear hK8 K8; refine HC_seq fun K9 hK9 => ?_
    obtain ⟨y, hy, hmem⟩ := getI (show i < ins.length by omega)
    rw [dropI hy, idxF] at hinv; refine HC_region ?_; refine HL_r rfl rfl rfl rfl (R_move rfl) ?_; refine HL_r rfl rfl rfl rfl (R_move rfl) ?_; refine HL_r rfl rfl rfl rfl (R_move rfl) ?_; refine HL_r rfl rfl rfl rfl (R_indexPl (j := i) rfl hs rfl rfl rfl rfl (by omega)) ?_; refine HL_r rfl rfl rfl rfl (R_loadTy (fun q hq => Or.inr hq) rfl hs hy rfl rfl) ?_; refine HL_callR rfl rfl rfl eg (hg y hmem) (fun q hq => Or.inr hq) ?_; refine HL_nil ?_; refine HQ_then ?_; refine hK9 _ _ _ _ ?_; clear hK9 K9; refine HC_cond rfl (fun h10 => ?_) (fun h10 => ?_)
    · try exact Bool.noConfusion h10
      try simp only [Z1, Z2, Z3, Z4, Z5, Z6, Z7, Z8, Z9, Z10, Z11, Z12, Z13] at h10
      refine HC_seq fun K11 hK11 => ?_; refine HC_region ?_; refine HL_r rfl rfl rfl rfl (R_move rfl) ?_; refine HL_r rfl rfl rfl rfl (R_assign rfl) ?_; refine HL_nil ?_; refine HQ_then ?_; refine hK11 _ _ _ _ ?_; clear hK11 K11; refine HC_ret ?_; refine HQ_blockR ?_; refine HQ_thenR ?_; clear hK7 K7; refine HQ_thenR ?_; refine HQ_blockR ?_; refine HQ_thenR ?_; clear hK2 K2; refine HQ_post rfl rfl (.cons (res_tmp rfl) .nil) (fun w1 hs1 => ?_); refine ⟨?_, hs1.keep⟩; rw [← hinv, if_pos (by assumption)]; rfl
    · try exact Bool.noConfusion h10
      try simp only [Z1, Z2, Z3, Z4, Z5, Z6, Z7, Z8, Z9, Z10, Z11, Z12, Z13] at h10
      refine HC_skip ?_; refine HQ_blockN ?_; refine HQ_then ?_; refine hK7 _ _ _ _ ?_; clear hK7 K7; refine HC_region ?_; refine HL_r rfl rfl rfl rfl (R_pure rfl rfl rfl) ?_; refine HL_wrap_i64 (by omega) (by omega) ?_; refine HL_r rfl rfl rfl rfl (R_move rfl) ?_; refine HL_nil ?_; refine HQ_then ?_; exact HQ_again (i + 1) ⟨by omega, by rw [if_neg (by simp_all)] at hinv; exact hinv⟩ (by omega) (.cons rfl (.cons rfl (.cons rfl (.cons rfl .nil)))) (List.nil_sublist _) (fun _ _ h => h)
  · try exact Bool.noConfusion h6
    try simp only [Z1, Z2, Z3, Z4, Z5, Z6, Z7, Z8, Z9, Z10, Z11, Z12, Z13] at h6
    refine HC_exit ?_; refine HQ_thenE ?_; clear hK5 K5; refine HQ_thenE ?_; refine HQ_blockE ?_; refine HQ_then ?_; refine hK2 _ _ _ _ ?_; clear hK2 K2; refine HC_seq fun K12 hK12 => ?_; refine HC_region ?_; refine HL_r rfl rfl rfl rfl (R_assign rfl) ?_; refine HL_nil ?_; refine HQ_then ?_; refine hK12 _ _ _ _ ?_; clear hK12 K12; refine HC_ret ?_; refine HQ_post rfl rfl (.cons (res_tmp rfl) .nil) (fun w1 hs1 => ?_); refine ⟨?_, hs1.keep⟩; rw [← hinv, List.drop_of_length_le (by omega), idxF]; rfl
set_option maxRecDepth 10000 in
theorem S_ContainsFuncT {R : List (Nat × Obj)} {ins : List Ty} {p : Pl} {g : FuncId} {b : Ty → Bool} (eg : Enters Tryz.prog g) (hg : ∀ x ∈ ins, PureR Tryz.prog g [x.val].toArray (.bool (b x)) R) (hl : ins.length ≤ 9223372036854775807) (hs : Seg R ins.length (tysC ins) p) :
    PureR Tryz.prog 95 [plV ins.length p, fV g].toArray (.bool (ins.any b)) R := by
  have h := S_IndexFuncT (b := b) eg hg hl hs
  rw [← idxF_any (b := b) (l := ins) (Int.le_refl 0)]; refine pureR_of_HC Tryz.func95 rfl rfl fun w => ?_; refine HC_seq fun K1 hK1 => ?_; refine HC_region ?_; refine HL_r rfl rfl rfl rfl (R_assign rfl) ?_; refine HL_nil ?_; refine HQ_then ?_; refine hK1 _ _ _ _ ?_; clear hK1 K1; refine HC_seq fun K2 hK2 => ?_; refine HC_region ?_; refine HL_r rfl rfl rfl rfl (R_move rfl) ?_; refine HL_r rfl rfl rfl rfl (R_move rfl) ?_; refine HL_callR rfl rfl rfl (enters_of Tryz.func174 (by kernel_rfl) rfl) h (fun q hq => Or.inr hq) ?_; refine HL_r rfl rfl rfl rfl (R_pure rfl rfl rfl) ?_; refine HL_r rfl rfl rfl rfl (R_assign rfl) ?_; refine HL_nil ?_; refine HQ_then ?_; refine hK2 _ _ _ _ ?_; clear hK2 K2; refine HC_ret ?_; refine HQ_post rfl rfl (.cons (res_tmp rfl) .nil) (fun w1 hs1 => ?_); exact ⟨rfl, hs1.keep⟩
theorem fix_any : ∀ ins : List Ty, (ins.any fun x => !fixT x) = !fixL ins
  | [] => rfl
  | x :: xs => by rw [List.any_cons, fix_any xs, fixL, Bool.not_and]
set_option maxRecDepth 10000 in
theorem S_still {R : List (Nat × Obj)} {t : Ty} (ht : t.In R) : ∀ d : Int, chk t d = 0 → PureR Tryz.prog 50 [t.val].toArray (.bool (fixT t)) R := by
  induction ht with
  | @mk k n p ins hk hn hl hs hi ih =>
  intro d hc
  obtain ⟨hk8, ho, h6, hci⟩ := chk_mk hc
  have hkk := isK_iff.2 hk8
  have hcl : ∀ x ∈ ins, PureR Tryz.prog 96 [x.val].toArray (.bool (!fixT x)) R := fun x hx => by
    have h1 := ih x hx (d + 1) (hci x hx)
    obtain ⟨xk, xn, xp, xi⟩ := x
    refine pureR_of_HC Tryz.func96 rfl rfl fun w => ?_; refine HC_seq fun K1 hK1 => ?_; refine HC_region ?_; refine HL_box (cs := #[_, _, _]) rfl rfl rfl rfl fun r1 => ?_; refine HL_r rfl rfl rfl rfl (R_assign rfl) ?_; refine HL_nil ?_; refine HQ_then ?_; refine hK1 _ _ _ _ ?_; clear hK1 K1; refine HC_seq fun K2 hK2 => ?_; refine HC_region ?_; refine HL_r rfl rfl rfl rfl (R_loadA (vs := [_, _, _]) rfl (known_L (k := 0) rfl) rfl rfl rfl rfl) ?_; refine HL_callR rfl rfl rfl (enters_of Tryz.func50 (by kernel_rfl) rfl) h1 (fun q hq => Or.inr hq) ?_; refine HL_r rfl rfl rfl rfl (R_pure rfl rfl rfl) ?_; refine HL_r rfl rfl rfl rfl (R_assign rfl) ?_; refine HL_nil ?_; refine HQ_then ?_; refine hK2 _ _ _ _ ?_; clear hK2 K2; refine HC_ret ?_; refine HQ_post rfl rfl (.cons (res_tmp rfl) .nil) (fun w1 hs1 => ?_); exact ⟨rfl, hs1.keep⟩
  have hany := S_ContainsFuncT (b := fun x => !fixT x) (enters_of Tryz.func96 (by kernel_rfl) rfl) hcl hl hs
  rw [fix_any] at hany
  have hvb := varB_eq hkk
  rw [fixT]; refine pureR_of_HC Tryz.func50 rfl rfl fun w => ?_; refine HC_seq fun K1 hK1 => ?_; refine HC_region ?_; refine HL_box (cs := #[_, _, _]) rfl rfl rfl rfl fun r1 => ?_; refine HL_r rfl rfl rfl rfl (R_assign rfl) ?_; refine HL_nil ?_; refine HQ_then ?_; refine hK1 _ _ _ _ ?_; clear hK1 K1; refine HC_seq fun K2 hK2 => ?_
  refine HC_drawB [] [(0, .grow (geCall 0 (fun r : Nat => Value.map (some r)) (fun r => [(r, kObj)]))), (1, .pure), (4, .pure), (5, .pure), (6, .pure), (7, .pure), (10, .pure), (11, .pure), (12, .pure)] 13 [1, 2, 0, 3, 4, 5, 6, 7, 8, 9, 10, 11, 12] (by kernel_rfl) (by kernel_rfl) (by first | exact (fun _ h => nomatch h) | simp [SubS] | (intro p hp; simp [hp])) ?_
  refine HB_p (k := 1) rfl rfl rfl rfl rfl (fun _ hS => (R_fieldAddr rfl rfl (by first | (simp only [Nat.zero_add, Nat.reduceAdd, Nat.reduceMul, Nat.zero_mul, Nat.mul_one, Nat.add_zero]; exact rfl) | exact rfl))) ?_; refine HB_r (k := 2) rfl rfl rfl rfl rfl (R_load rfl (known_L (k := 0) rfl) rfl rfl) ?_; refine HB_callPE (k := 0) rfl rfl rfl rfl rfl (enters_of Tryz.func91 (by kernel_rfl) rfl) E_kinds fun mr => ?_; refine HB_r (k := 3) rfl rfl rfl rfl rfl (R_lookup (keyI (t := 3) (by kernel_rfl)) rfl rfl (known_L (k := 0) rfl) rfl rfl ⟨_, rfl⟩ kMap_dom (kMap_val0 hkk)) ?_; refine HB_p (k := 4) rfl rfl rfl rfl rfl (fun _ hS => (R_pure rfl rfl rfl)) ?_; refine HB_p (k := 5) rfl rfl rfl rfl rfl (fun _ hS => (R_pure rfl rfl rfl)) ?_; refine HB_p (k := 6) rfl rfl rfl rfl rfl (fun _ hS => (R_move rfl)) ?_
  refine HB_case 9 rfl (fun hb3 => ?_) (fun hb3 => ?_) <;> (try simp only [Z1, Z2, Z3, Z4, Z5, Z6, Z7, Z8, Z9, Z10, Z11, Z12, Z13] at hb3) <;> first | (refine HB_p (k := 7) rfl rfl rfl rfl rfl (fun _ hS => (R_fieldAddr rfl rfl (by first | (simp only [Nat.zero_add, Nat.reduceAdd, Nat.reduceMul, Nat.zero_mul, Nat.mul_one, Nat.add_zero]; exact rfl) | exact rfl))) ?_) | (refine HB_skip (k := 7) rfl rfl rfl rfl ?_)
  all_goals first
    | (refine HB_r (k := 8) rfl rfl rfl rfl rfl (R_load rfl (known_L (k := 1) rfl) rfl rfl) ?_)
    | (refine HB_skip (k := 8) rfl rfl rfl rfl ?_)
  all_goals first
    | (refine HB_callR (k := 9) rfl rfl rfl rfl rfl (enters_of Tryz.func95 (by kernel_rfl) rfl) hany (fun q hq => Or.inr hq) ?_)
    | (refine HB_skip (k := 9) rfl rfl rfl rfl ?_)
  all_goals first
    | (refine HB_p (k := 10) rfl rfl rfl rfl rfl (fun _ hS => (R_pure rfl rfl rfl)) ?_)
    | (refine HB_skip (k := 10) rfl rfl rfl rfl ?_)
  all_goals first
    | (refine HB_p (k := 11) rfl rfl rfl rfl rfl (fun _ hS => (R_pickT rfl rfl)) ?_)
    | (refine HB_p (k := 11) rfl rfl rfl rfl rfl (fun _ hS => (R_pickF rfl rfl)) ?_)
  all_goals refine HB_p (k := 12) rfl rfl rfl rfl rfl (fun _ hS => (R_assign rfl)) ?_
  all_goals refine HB_end ?_
  all_goals refine HL_nil ?_
  all_goals (
   refine HQ_then ?_; refine hK2 _ _ _ _ ?_; clear hK2 K2; refine HC_ret ?_; refine HQ_post rfl rfl (.cons (res_tmp rfl) .nil) (fun w1 hs1 => ?_); refine ⟨?_, hs1.keep⟩
   simp_all [resVal]
   all_goals first | done | (intros; omega)
   skip)
set_option maxRecDepth 10000 in
theorem S_Fixed {R : List (Nat × Obj)} {t : Ty} (ht : t.In R) : PureR Tryz.prog 24 [t.val].toArray (.bool (isFix t)) R := by
  have h1 := S_Check ht
  have h2 := S_still ht 0
  obtain ⟨k, n, p, ins⟩ := t
  refine pureR_of_HC Tryz.func24 rfl rfl fun w => ?_; refine HC_seq fun K1 hK1 => ?_; refine HC_region ?_; refine HL_box (cs := #[_, _, _]) rfl rfl rfl rfl fun r1 => ?_; refine HL_r rfl rfl rfl rfl (R_assign rfl) ?_; refine HL_nil ?_; refine HQ_then ?_; refine hK1 _ _ _ _ ?_; clear hK1 K1; refine HC_seq fun K2 hK2 => ?_; refine HC_region ?_; refine HL_r rfl rfl rfl rfl (R_loadA (vs := [_, _, _]) rfl (known_L (k := 0) rfl) rfl rfl rfl rfl) ?_; refine HL_callR rfl rfl rfl (enters_of Tryz.func41 (by kernel_rfl) rfl) h1 (fun q hq => Or.inr hq) ?_; refine HL_r rfl rfl rfl rfl (R_pure rfl rfl rfl) ?_; refine HL_r rfl rfl rfl rfl (R_move rfl) ?_
  refine HL_case 6 rfl (fun hb3 => ?_) (fun hb3 => ?_) <;> (try simp only [Z1, Z2, Z3, Z4, Z5, Z6, Z7, Z8, Z9, Z10, Z11, Z12, Z13] at hb3) <;> first | (refine HL_r rfl rfl rfl rfl (R_loadA (vs := [_, _, _]) rfl (known_L (k := 0) rfl) rfl rfl rfl rfl) ?_) | (refine HL_skip rfl rfl rfl ?_)
  all_goals first
    | (refine HL_callR rfl rfl rfl (enters_of Tryz.func50 (by kernel_rfl) rfl) (h2 (by assumption)) (fun q hq => Or.inr hq) ?_)
    | (refine HL_skip rfl rfl rfl ?_)
  all_goals first
    | (refine HL_r rfl rfl rfl rfl (R_pickT rfl rfl) ?_)
    | (refine HL_r rfl rfl rfl rfl (R_pickF rfl rfl) ?_)
  all_goals refine HL_r rfl rfl rfl rfl (R_assign rfl) ?_
  all_goals refine HL_nil ?_
  all_goals (
   refine HQ_then ?_; refine hK2 _ _ _ _ ?_; clear hK2 K2; refine HC_ret ?_; refine HQ_post rfl rfl (.cons (res_tmp rfl) .nil) (fun w1 hs1 => ?_); refine ⟨?_, hs1.keep⟩
   simp_all [isFix, resVal]
   skip)
set_option maxRecDepth 10000 in
theorem S_parts {R : List (Nat × Obj)} {k n : Int} {p : Pl} {ins : List Ty} (ht : Ty.In R (.mk k n p ins)) (hsub : ∀ x ∈ ins, PureR Tryz.prog 51 [x.val].toArray (.int .i64 (sizT x)) R) (hpos : ∀ x ∈ ins, 1 ≤ sizT x) (hb : sizL ins ≤ 2251799813685248) :
    PureR Tryz.prog 158 [Ty.val (.mk k n p ins)].toArray (.int .i64 (sizL ins)) R := by
  cases ht with
  | mk hk hn hl hs hi =>
  have hdp : ∀ i, 0 ≤ sizL (ins.drop i) := fun i => by
    have : ∀ l : List Ty, (∀ x ∈ l, 1 ≤ sizT x) → 0 ≤ sizL l := by
      intro l
      induction l with
      | nil => intro _; rw [sizL]; omega
      | cons x xs ih => intro h; rw [sizL]; have h1 := h x (by simp); have h2 := ih fun y hy => h y (by simp [hy]); omega
    exact this _ fun x hx => hpos x (List.mem_of_mem_drop hx)
  refine pureR_of_HC Tryz.func158 rfl rfl fun w => ?_; refine HC_seq fun K1 hK1 => ?_; refine HC_region ?_; refine HL_box (cs := #[_, _, _]) rfl rfl rfl rfl fun r1 => ?_; refine HL_r rfl rfl rfl rfl (R_assign rfl) ?_; refine HL_nil ?_; refine HQ_then ?_; refine hK1 _ _ _ _ ?_; clear hK1 K1; refine HC_seq fun K2 hK2 => ?_; refine HC_region ?_; refine HL_r rfl rfl rfl rfl (R_assign rfl) ?_; refine HL_nil ?_; refine HQ_then ?_; refine hK2 _ _ _ _ ?_; clear hK2 K2; refine HC_seq fun K3 hK3 => ?_; refine HC_seq fun K4 hK4 => ?_; refine HC_region ?_
  refine HL_r rfl rfl rfl rfl (R_fieldAddr rfl rfl (by first | (simp only [Nat.zero_add, Nat.reduceAdd, Nat.reduceMul, Nat.zero_mul, Nat.mul_one, Nat.add_zero]; exact rfl) | exact rfl)) ?_; refine HL_r rfl rfl rfl rfl (R_load rfl (known_L (k := 0) rfl) rfl rfl) ?_; refine HL_r rfl rfl rfl rfl (R_lenPl rfl hs rfl) ?_; refine HL_r rfl rfl rfl rfl (R_move rfl) ?_; refine HL_nil ?_; refine HQ_then ?_; refine hK4 _ _ _ _ ?_; clear hK4 K4; refine HC_block ?_; refine HC_loop (σ := Nat × Int) (fun s => s.1 ≤ ins.length ∧ 0 ≤ s.2 ∧ s.2 + sizL (ins.drop s.1) = sizL ins) (fun s => [(3, .int .i64 s.2), (7, plV ins.length p), (8, .int .i64 (ins.length : Int)), (9, .int .i64 (s.1 : Int))]) (fun _ => []) (fun _ _ _ => True) (fun s => ins.length - s.1) (0, 0) ⟨by omega, by omega, by simp⟩ (.cons rfl (.cons rfl (.cons rfl (.cons rfl .nil)))) (List.nil_sublist _) (fun _ _ h => h) ?_; rintro ⟨i, m⟩ ⟨hi1, hm, hinv⟩; simp only at hinv hi1 hm; refine HC_seq fun K5 hK5 => ?_; refine HC_region ?_; refine HL_r rfl rfl rfl rfl (R_pure rfl rfl rfl) ?_; refine HL_nil ?_; refine HQ_then ?_; refine hK5 _ _ _ _ ?_; clear hK5 K5; refine HC_seq fun K6 hK6 => ?_; refine HC_cond rfl (fun h7 => ?_) (fun h7 => ?_)
  · try exact Bool.noConfusion h7
    try simp only [Z1, Z2, Z3, Z4, Z5, Z6, Z7, Z8, Z9, Z10, Z11, Z12, Z13] at h7
    refine HC_skip ?_; refine HQ_then ?_; refine hK6 _ _ _ _ ?_; clear hK6 K6; refine HC_seq fun K8 hK8 => ?_; refine HC_block ?_; refine HC_seq fun K9 hK9 => ?_
    obtain ⟨y, hy, hmem⟩ := getI (show i < ins.length by omega)
    have hdi := hdp (i + 1)
    have hyp := hpos y hmem
    rw [dropI hy, sizL] at hinv; refine HC_region ?_; refine HL_r rfl rfl rfl rfl (R_indexPl (j := i) rfl hs rfl rfl rfl rfl (by omega)) ?_; refine HL_r rfl rfl rfl rfl (R_loadTy (fun q hq => Or.inr hq) rfl hs hy rfl rfl) ?_; refine HL_alloc (cs := #[_, _, _]) rfl rfl rfl rfl fun r2 => ?_; refine HL_storeArr (k := 0) (n := 3) (ys := y.cells) rfl rfl rfl rfl rfl y.len rfl y.one rfl ?_; refine HL_nil ?_; refine HQ_then ?_; refine hK9 _ _ _ _ ?_; clear hK9 K9; refine HC_region ?_; refine HL_r rfl rfl rfl rfl (R_move rfl) ?_; refine HL_r rfl rfl rfl rfl (R_loadArr (xs := y.cells) (n := 3) rfl (known_L (k := 0) rfl) rfl rfl y.len) ?_; refine HL_callR rfl rfl rfl (enters_of Tryz.func51 (by kernel_rfl) rfl) (hsub y hmem) (fun q hq => Or.inr hq) ?_; refine HL_r rfl rfl rfl rfl (R_pure rfl rfl rfl) ?_; refine HL_wrap_i64 (by omega) (by omega) ?_; refine HL_r rfl rfl rfl rfl (R_assign rfl) ?_; refine HL_nil ?_; refine HQ_blockN ?_; refine HQ_then ?_; refine hK8 _ _ _ _ ?_; clear hK8 K8; refine HC_region ?_; refine HL_r rfl rfl rfl rfl (R_pure rfl rfl rfl) ?_; refine HL_wrap_i64 (by omega) (by omega) ?_; refine HL_r rfl rfl rfl rfl (R_move rfl) ?_; refine HL_nil ?_; refine HQ_then ?_; exact HQ_again (i + 1, m + sizT y) ⟨by omega, by simp only; omega, by simp only; omega⟩ (by simp only; omega) (.cons rfl (.cons rfl (.cons rfl (.cons rfl .nil)))) (List.nil_sublist _) (fun _ _ h => h)
  · try exact Bool.noConfusion h7
    try simp only [Z1, Z2, Z3, Z4, Z5, Z6, Z7, Z8, Z9, Z10, Z11, Z12, Z13] at h7
    refine HC_exit ?_; refine HQ_thenE ?_; clear hK6 K6; refine HQ_thenE ?_; refine HQ_blockE ?_; refine HQ_then ?_; refine hK3 _ _ _ _ ?_; clear hK3 K3; refine HC_seq fun K10 hK10 => ?_; refine HC_region ?_; refine HL_r rfl rfl rfl rfl (R_move rfl) ?_; refine HL_r rfl rfl rfl rfl (R_assign rfl) ?_; refine HL_nil ?_; refine HQ_then ?_; refine hK10 _ _ _ _ ?_; clear hK10 K10; refine HC_ret ?_; refine HQ_post rfl rfl (.cons (res_tmp rfl) .nil) (fun w1 hs1 => ?_); refine ⟨?_, hs1.keep⟩; rw [← hinv, List.drop_of_length_le (by omega), sizL, Int.add_zero]; rfl
theorem sizL_le2 {k n : Int} {p : Pl} {ins : List Ty} {d : Int} (hd : 0 ≤ d) (hc : chk (.mk k n p ins) d = 0) (hf : fixT (.mk k n p ins) = true) : (∀ x ∈ ins, 1 ≤ sizT x) ∧ sizL ins ≤ 2251799813685248 ∧ (k = 3 → 0 ≤ n * sizL ins ∧ n * sizL ins ≤ 2251799813685248) := by
  have hsz := siz_le _ d hd hc hf
  have hb5 := bnd_le (show (5 - d).toNat ≤ 5 by omega)
  obtain ⟨hk8, ho, h6, hci⟩ := chk_mk hc
  rw [fixT, Bool.and_eq_true] at hf
  have hfi := fixL_mem.1 hf.2
  have hsub : ∀ x ∈ ins, 1 ≤ sizT x ∧ sizT x ≤ bnd (5 - (d + 1)).toNat := fun x hx => siz_le x (d + 1) (by omega) (hci x hx) (hfi x hx)
  have hL := sizL_le hsub
  refine ⟨fun x hx => (hsub x hx).1, ?_, fun h3 => ?_⟩
  · by_cases he : ins = []
    · subst he; rw [sizL]; omega
    · have hd5 : d < 5 := by
        obtain ⟨x, hx⟩ := List.exists_mem_of_ne_nil _ he
        cases x with
        | mk a b c e => have := (chk_mk (hci _ hx)).2.2.1; omega
      have hlen : ins.length ≤ 16 := by
        have h9 : k = 1 ∨ k = 2 ∨ k = 3 ∨ k = 4 ∨ k = 5 ∨ k = 6 ∨ k = 7 ∨ k = 8 := by omega
        unfold okForm at ho
        rcases h9 with rfl | rfl | rfl | rfl | rfl | rfl | rfl | rfl <;> simp [he] at ho <;> omega
      have e : (5 - d).toNat = (5 - (d + 1)).toNat + 1 := by omega
      rw [e, bnd] at hb5
      have hb2 := bnd_pos (5 - (d + 1)).toNat
      generalize bnd (5 - (d + 1)).toNat = B at *
      have : (ins.length : Int) * B ≤ 16 * B := Int.mul_le_mul_of_nonneg_right (by omega) (by omega)
      omega
  · subst h3
    have : sizT (.mk 3 n p ins) = n * sizL ins := by rw [sizT, if_neg (by decide), if_neg (by decide), if_neg (by decide), if_pos rfl]
    rw [this] at hsz; omega
set_option maxRecDepth 10000 in
theorem Z_all {R : List (Nat × Obj)} {k n : Int} {p : Pl} {ins : List Ty} {d : Int} (ht : Ty.In R (.mk k n p ins)) (hd : 0 ≤ d) (hc : chk (.mk k n p ins) d = 0) (hf : fixT (.mk k n p ins) = true)
    (hsub : ∀ x ∈ ins, PureR Tryz.prog 51 [x.val].toArray (.int .i64 (sizT x)) R) : Enters Tryz.prog (sizeF k) ∧ PureR Tryz.prog (sizeF k) [Ty.val (.mk k n p ins)].toArray (.int .i64 (sizT (.mk k n p ins))) R := by
  obtain ⟨hpos, hb, h3⟩ := sizL_le2 hd hc hf
  have hp := S_parts ht hsub hpos hb
  obtain ⟨hk8, ho, h6, hci⟩ := chk_mk hc
  rw [fixT, Bool.and_eq_true] at hf
  have hne : (k ≠ 4 ∧ k ≠ 6) ∧ k ≠ 8 := by simpa using hf.1
  have h9 : k = 1 ∨ k = 2 ∨ k = 3 ∨ k = 5 ∨ k = 7 := by omega
  rcases h9 with rfl | rfl | rfl | rfl | rfl
  · refine ⟨enters_of Tryz.func145 (by kernel_rfl) rfl, ?_⟩
    show PureR Tryz.prog 145 _ _ R
    rw [sizT, if_pos rfl]; refine pureR_of_HC Tryz.func145 rfl rfl fun w => ?_; refine HC_seq fun K1 hK1 => ?_; refine HC_region ?_; refine HL_box (cs := #[_, _, _]) rfl rfl rfl rfl fun r1 => ?_; refine HL_r rfl rfl rfl rfl (R_assign rfl) ?_; refine HL_nil ?_; refine HQ_then ?_; refine hK1 _ _ _ _ ?_; clear hK1 K1; refine HC_seq fun K2 hK2 => ?_; refine HC_region ?_
    refine HL_r rfl rfl rfl rfl (R_fieldAddr rfl rfl (by first | (simp only [Nat.zero_add, Nat.reduceAdd, Nat.reduceMul, Nat.zero_mul, Nat.mul_one, Nat.add_zero]; exact rfl) | exact rfl)) ?_; refine HL_r rfl rfl rfl rfl (R_load rfl (known_L (k := 0) rfl) rfl rfl) ?_; refine HL_r rfl rfl rfl rfl (R_assign rfl) ?_; refine HL_nil ?_; refine HQ_then ?_; refine hK2 _ _ _ _ ?_; clear hK2 K2; refine HC_ret ?_; refine HQ_post rfl rfl (.cons (res_tmp rfl) .nil) (fun w1 hs1 => ?_); exact ⟨rfl, hs1.keep⟩
  · refine ⟨enters_of Tryz.func151 (by kernel_rfl) rfl, ?_⟩
    show PureR Tryz.prog 151 _ _ R
    rw [sizT, if_neg (by decide), if_pos rfl]; refine pureR_of_HC Tryz.func151 rfl rfl fun w => ?_; refine HC_seq fun K1 hK1 => ?_; refine HC_region ?_; refine HL_box (cs := #[_, _, _]) rfl rfl rfl rfl fun r1 => ?_; refine HL_r rfl rfl rfl rfl (R_assign rfl) ?_; refine HL_nil ?_; refine HQ_then ?_; refine hK1 _ _ _ _ ?_; clear hK1 K1; refine HC_seq fun K2 hK2 => ?_; refine HC_region ?_; refine HL_r rfl rfl rfl rfl (R_assign rfl) ?_; refine HL_nil ?_; refine HQ_then ?_; refine hK2 _ _ _ _ ?_; clear hK2 K2; refine HC_ret ?_; refine HQ_post rfl rfl (.cons (res_tmp rfl) .nil) (fun w1 hs1 => ?_); exact ⟨rfl, hs1.keep⟩
  · refine ⟨enters_of Tryz.func157 (by kernel_rfl) rfl, ?_⟩
    show PureR Tryz.prog 157 _ _ R
    have h3' := h3 rfl
    rw [sizT, if_neg (by decide), if_neg (by decide), if_neg (by decide), if_pos rfl]; refine pureR_of_HC Tryz.func157 rfl rfl fun w => ?_; refine HC_seq fun K1 hK1 => ?_; refine HC_region ?_; refine HL_box (cs := #[_, _, _]) rfl rfl rfl rfl fun r1 => ?_; refine HL_r rfl rfl rfl rfl (R_assign rfl) ?_; refine HL_nil ?_; refine HQ_then ?_; refine hK1 _ _ _ _ ?_; clear hK1 K1; refine HC_seq fun K2 hK2 => ?_; refine HC_draw 6 (by kernel_rfl) (by kernel_rfl) ?_
    refine HD_r rfl rfl rfl (R_fieldAddr rfl rfl (by first | (simp only [Nat.zero_add, Nat.reduceAdd, Nat.reduceMul, Nat.zero_mul, Nat.mul_one, Nat.add_zero]; exact rfl) | exact rfl)) ?_; refine HD_r rfl rfl rfl (R_load rfl (known_L (k := 0) rfl) rfl rfl) ?_; refine HD_r rfl rfl rfl (R_loadA (vs := [_, _, _]) rfl (known_L (k := 0) rfl) rfl rfl rfl rfl) ?_; refine HD_callR rfl rfl rfl (enters_of Tryz.func158 (by kernel_rfl) rfl) hp (fun q hq => Or.inr hq) ?_; refine HD_r rfl rfl rfl (R_pure rfl rfl rfl) ?_; refine HD_wrap_i64 (by omega) (by omega) ?_; refine HD_r rfl rfl rfl (R_assign rfl) ?_; refine HD_end ?_; refine HL_nil ?_; refine HQ_then ?_; refine hK2 _ _ _ _ ?_; clear hK2 K2; refine HC_ret ?_; refine HQ_post rfl rfl (.cons (res_tmp rfl) .nil) (fun w1 hs1 => ?_); exact ⟨rfl, hs1.keep⟩
  · refine ⟨enters_of Tryz.func164 (by kernel_rfl) rfl, ?_⟩
    show PureR Tryz.prog 164 _ _ R
    have hbit : 1 ≤ n ∧ n ≤ 512 := by simp [okForm] at ho; omega
    rw [sizT, if_neg (by decide), if_neg (by decide), if_pos rfl]; refine pureR_of_HC Tryz.func164 rfl rfl fun w => ?_; refine HC_seq fun K1 hK1 => ?_; refine HC_region ?_; refine HL_box (cs := #[_, _, _]) rfl rfl rfl rfl fun r1 => ?_; refine HL_r rfl rfl rfl rfl (R_assign rfl) ?_; refine HL_nil ?_; refine HQ_then ?_; refine hK1 _ _ _ _ ?_; clear hK1 K1; refine HC_seq fun K2 hK2 => ?_; refine HC_region ?_
    refine HL_r rfl rfl rfl rfl (R_fieldAddr rfl rfl (by first | (simp only [Nat.zero_add, Nat.reduceAdd, Nat.reduceMul, Nat.zero_mul, Nat.mul_one, Nat.add_zero]; exact rfl) | exact rfl)) ?_; refine HL_r rfl rfl rfl rfl (R_load rfl (known_L (k := 0) rfl) rfl rfl) ?_; refine HL_r rfl rfl rfl rfl (R_pure rfl rfl rfl) ?_; refine HL_wrap_i64 (by omega) (by omega) ?_; refine HL_r rfl rfl rfl rfl (R_pure rfl rfl rfl) ?_; refine HL_wrap_i64 (by omega) (by omega) ?_; refine HL_r rfl rfl rfl rfl (R_pure rfl rfl rfl) ?_; refine HL_quo (by omega) (by omega) (by omega) ?_; refine HL_r rfl rfl rfl rfl (R_assign rfl) ?_; refine HL_nil ?_; refine HQ_then ?_; refine hK2 _ _ _ _ ?_; clear hK2 K2; refine HC_ret ?_; refine HQ_post rfl rfl (.cons (res_tmp rfl) .nil) (fun w1 hs1 => ?_); exact ⟨congrArg (fun z => Ending.returned (Value.int .i64 z)) (by omega), hs1.keep⟩
  · refine ⟨enters_of Tryz.func169 (by kernel_rfl) rfl, ?_⟩
    show PureR Tryz.prog 169 _ _ R
    rw [sizT, if_neg (by decide), if_neg (by decide), if_neg (by decide), if_neg (by decide)]; refine pureR_of_HC Tryz.func169 rfl rfl fun w => ?_; refine HC_seq fun K1 hK1 => ?_; refine HC_region ?_; refine HL_box (cs := #[_, _, _]) rfl rfl rfl rfl fun r1 => ?_; refine HL_r rfl rfl rfl rfl (R_assign rfl) ?_; refine HL_nil ?_; refine HQ_then ?_; refine hK1 _ _ _ _ ?_; clear hK1 K1; refine HC_seq fun K2 hK2 => ?_; refine HC_region ?_; refine HL_r rfl rfl rfl rfl (R_loadA (vs := [_, _, _]) rfl (known_L (k := 0) rfl) rfl rfl rfl rfl) ?_; refine HL_callR rfl rfl rfl (enters_of Tryz.func158 (by kernel_rfl) rfl) hp (fun q hq => Or.inr hq) ?_; refine HL_r rfl rfl rfl rfl (R_assign rfl) ?_; refine HL_nil ?_; refine HQ_then ?_; refine hK2 _ _ _ _ ?_; clear hK2 K2; refine HC_ret ?_; refine HQ_post rfl rfl (.cons (res_tmp rfl) .nil) (fun w1 hs1 => ?_); exact ⟨rfl, hs1.keep⟩
set_option maxRecDepth 10000 in
theorem S_size {R : List (Nat × Obj)} {t : Ty} (ht : t.In R) : ∀ d : Int, 0 ≤ d → chk t d = 0 → fixT t = true → PureR Tryz.prog 51 [t.val].toArray (.int .i64 (sizT t)) R := by
  induction ht with
  | @mk k n p ins hk hn hl hs hi ih =>
  intro d hd hc hf
  obtain ⟨hk8, ho, h6, hci⟩ := chk_mk hc
  have hkk := isK_iff.2 hk8
  have hf0 := hf
  rw [fixT, Bool.and_eq_true] at hf0
  have hfi := fixL_mem.1 hf0.2
  have hz := Z_all (.mk hk hn hl hs hi : Ty.In R (.mk k n p ins)) hd hc hf fun x hx => ih x hx (d + 1) (by omega) (hci x hx) (hfi x hx)
  have hvb : (isK k && !varB k) = true := by rw [hkk, varB_eq hkk]; exact hf0.1
  refine pureR_of_HC Tryz.func51 rfl rfl fun w => ?_; refine HC_seq fun K1 hK1 => ?_; refine HC_region ?_; refine HL_box (cs := #[_, _, _]) rfl rfl rfl rfl fun r1 => ?_; refine HL_r rfl rfl rfl rfl (R_assign rfl) ?_; refine HL_nil ?_; refine HQ_then ?_; refine hK1 _ _ _ _ ?_; clear hK1 K1; refine HC_seq fun K2 hK2 => ?_
  refine HC_drawB [] [(0, .grow (geCall 0 (fun r : Nat => Value.map (some r)) (fun r => [(r, kObj)]))), (1, .pure), (4, .pure), (7, .pure)] 8 [1, 2, 5, 0, 3, 4, 6, 7] (by kernel_rfl) (by kernel_rfl) (by first | exact (fun _ h => nomatch h) | simp [SubS] | (intro p hp; simp [hp])) ?_
  refine HB_p (k := 1) rfl rfl rfl rfl rfl (fun _ hS => (R_fieldAddr rfl rfl (by first | (simp only [Nat.zero_add, Nat.reduceAdd, Nat.reduceMul, Nat.zero_mul, Nat.mul_one, Nat.add_zero]; exact rfl) | exact rfl))) ?_; refine HB_r (k := 2) rfl rfl rfl rfl rfl (R_load rfl (known_L (k := 0) rfl) rfl rfl) ?_; refine HB_r (k := 5) rfl rfl rfl rfl rfl (R_loadA (vs := [_, _, _]) rfl (known_L (k := 0) rfl) rfl rfl rfl rfl) ?_; refine HB_callPE (k := 0) rfl rfl rfl rfl rfl (enters_of Tryz.func91 (by kernel_rfl) rfl) E_kinds fun mr => ?_; refine HB_r (k := 3) rfl rfl rfl rfl rfl (R_lookup (keyI (t := 3) (by kernel_rfl)) rfl rfl (known_L (k := 0) rfl) rfl rfl ⟨_, rfl⟩ kMap_dom (kMap_val0 hkk)) ?_; refine HB_p (k := 4) rfl rfl rfl rfl rfl (fun _ hS => (R_pure rfl rfl rfl)) ?_; refine HB_as (fnV_t hvb) ?_; refine HB_callR (k := 6) rfl rfl rfl rfl rfl hz.1 hz.2 (fun q hq => Or.inr hq) ?_; refine HB_p (k := 7) rfl rfl rfl rfl rfl (fun _ hS => (R_assign rfl)) ?_; refine HB_end ?_; refine HL_nil ?_; refine HQ_then ?_; refine hK2 _ _ _ _ ?_; clear hK2 K2; refine HC_ret ?_; refine HQ_post rfl rfl (.cons (res_tmp rfl) .nil) (fun w1 hs1 => ?_); exact ⟨rfl, hs1.keep⟩
set_option maxRecDepth 10000 in
theorem S_Size {R : List (Nat × Obj)} {t : Ty} (ht : t.In R) : PureR Tryz.prog 25 [t.val].toArray (.int .i64 (sizeT t)) R := by
  have h1 := S_Fixed ht
  have h2 := S_size ht 0 (by omega)
  obtain ⟨k, n, p, ins⟩ := t
  refine pureR_of_HC Tryz.func25 rfl rfl fun w => ?_; refine HC_seq fun K1 hK1 => ?_; refine HC_region ?_; refine HL_box (cs := #[_, _, _]) rfl rfl rfl rfl fun r1 => ?_; refine HL_r rfl rfl rfl rfl (R_assign rfl) ?_; refine HL_nil ?_; refine HQ_then ?_; refine hK1 _ _ _ _ ?_; clear hK1 K1; refine HC_seq fun K2 hK2 => ?_; refine HC_seq fun K3 hK3 => ?_; refine HC_region ?_; refine HL_r rfl rfl rfl rfl (R_loadA (vs := [_, _, _]) rfl (known_L (k := 0) rfl) rfl rfl rfl rfl) ?_; refine HL_callR rfl rfl rfl (enters_of Tryz.func24 (by kernel_rfl) rfl) h1 (fun q hq => Or.inr hq) ?_; refine HL_r rfl rfl rfl rfl (R_pure rfl rfl rfl) ?_; refine HL_nil ?_; refine HQ_then ?_; refine hK3 _ _ _ _ ?_; clear hK3 K3; refine HC_cond rfl (fun h4 => ?_) (fun h4 => ?_)
  · try exact Bool.noConfusion h4
    try simp only [Z1, Z2, Z3, Z4, Z5, Z6, Z7, Z8, Z9, Z10, Z11, Z12, Z13] at h4
    refine HC_seq fun K5 hK5 => ?_; refine HC_region ?_; refine HL_r rfl rfl rfl rfl (R_assign rfl) ?_; refine HL_nil ?_; refine HQ_then ?_; refine hK5 _ _ _ _ ?_; clear hK5 K5; refine HC_ret ?_; refine HQ_thenR ?_; clear hK2 K2; refine HQ_post rfl rfl (.cons (res_tmp rfl) .nil) (fun w1 hs1 => ?_); refine ⟨?_, hs1.keep⟩
    simp_all [sizeT, resVal]
  · try exact Bool.noConfusion h4
    try simp only [Z1, Z2, Z3, Z4, Z5, Z6, Z7, Z8, Z9, Z10, Z11, Z12, Z13] at h4
    refine HC_skip ?_; refine HQ_then ?_; refine hK2 _ _ _ _ ?_; clear hK2 K2; refine HC_seq fun K6 hK6 => ?_; refine HC_region ?_; refine HL_r rfl rfl rfl rfl (R_loadA (vs := [_, _, _]) rfl (known_L (k := 0) rfl) rfl rfl rfl rfl) ?_; refine HL_callR rfl rfl rfl (enters_of Tryz.func51 (by kernel_rfl) rfl) (h2 (isFix_iff.1 (by assumption)).1 (isFix_iff.1 (by assumption)).2) (fun q hq => Or.inr hq) ?_; refine HL_r rfl rfl rfl rfl (R_assign rfl) ?_; refine HL_nil ?_; refine HQ_then ?_; refine hK6 _ _ _ _ ?_; clear hK6 K6; refine HC_ret ?_; refine HQ_post rfl rfl (.cons (res_tmp rfl) .nil) (fun w1 hs1 => ?_); refine ⟨?_, hs1.keep⟩
    simp_all [sizeT, resVal]
end Go.Proofs.YtlcbfphioeppaaaGreatDoor
namespace Go.Proofs.YtlcbfphioeppaaaGreatDoor
set_option linter.all false
open Go.SL Go.RowKit Go.Shelf
/-! values of some of their parts alone -/
def vBlk (r : Nat) (v : Vl) : Nat × Obj := (r, .cells v.cells.toArray 31 (0, 0))
def zVl : Vl := .mk 0 0 0 0 [] none [] none 0
def clV (f : FuncId) (r : Nat) : Value := .func (.func f) #[] #[.pointer (some ⟨r, 0, none⟩)]
/-- What a part that is kept owes. -/
def Keeps (f : FuncId) (v out : Vl) : Prop := ∀ r1 rr : Nat, r1 ≠ rr → PureMR Tryz.prog f [.pointer (some ⟨rr, 0, none⟩), .pointer (some ⟨r1, 0, none⟩)].toArray (.tuple #[]) rr (vBlk rr zVl).2 (vBlk rr out).2 [vBlk r1 v]
set_option maxRecDepth 10000 in
theorem K_number (a b c d : Nat) (bits : List Bool) (pb : Pl) (items : List Vl) (pi : Pl) (pick : Int) : Keeps 201 (.mk a b c d bits pb items pi pick) (.mk a b c d [] none [] none 0) := fun r1 rr hne => by
  refine pureMR_of_HC (fun p hp => by rw [List.mem_singleton.1 hp]; exact hne) Tryz.func201 rfl rfl fun w => ?_; refine HC_region ?_; refine HL_r rfl rfl rfl rfl (R_move rfl) ?_
  refine HL_r rfl rfl rfl rfl (R_fieldAddr rfl rfl (by first | (simp only [Nat.zero_add, Nat.reduceAdd, Nat.reduceMul, Nat.zero_mul, Nat.mul_one, Nat.add_zero]; exact rfl) | exact rfl)) ?_; refine HL_r rfl rfl rfl rfl (R_loadA (vs := [_, _, _, _]) rfl (known_R (k := 0) rfl) rfl rfl rfl rfl) ?_; refine HL_r rfl rfl rfl rfl (R_pure rfl rfl rfl) ?_
  refine HL_r rfl rfl rfl rfl (R_fieldAddr rfl rfl (by first | (simp only [Nat.zero_add, Nat.reduceAdd, Nat.reduceMul, Nat.zero_mul, Nat.mul_one, Nat.add_zero]; exact rfl) | exact rfl)) ?_
  refine HL_storeA (k := 0) (n := 4) (vs := #[_, _, _, _]) rfl rfl rfl rfl rfl rfl rfl (by exact Nat.le_of_ble_eq_true rfl) (by first | (simp only [List.take_zero, List.nil_append, Array.toList_toArray, List.drop_succ_cons, List.drop_zero, List.take_succ_cons, List.cons_append, Nat.zero_add, Nat.reduceAdd, List.append_nil, List.drop_nil]; exact rfl) | exact rfl) (by first | (simp only [List.set_cons_zero, List.set_cons_succ]; exact rfl) | exact rfl) ?_; refine HL_nil ?_; refine HQ_postN rfl rfl .nil (fun w1 hs1 => ?_); exact ⟨rfl, _, List.mem_cons_self, hs1⟩
set_option maxRecDepth 10000 in
theorem K_items (a b c d : Nat) (bits : List Bool) (pb : Pl) (items : List Vl) (pi : Pl) (pick : Int) : Keeps 204 (.mk a b c d bits pb items pi pick) (.mk 0 0 0 0 [] none items pi 0) := fun r1 rr hne => by
  refine pureMR_of_HC (fun p hp => by rw [List.mem_singleton.1 hp]; exact hne) Tryz.func204 rfl rfl fun w => ?_; refine HC_region ?_; refine HL_r rfl rfl rfl rfl (R_move rfl) ?_
  refine HL_r rfl rfl rfl rfl (R_fieldAddr rfl rfl (by first | (simp only [Nat.zero_add, Nat.reduceAdd, Nat.reduceMul, Nat.zero_mul, Nat.mul_one, Nat.add_zero]; exact rfl) | exact rfl)) ?_; refine HL_r rfl rfl rfl rfl (R_load rfl (known_R (k := 0) rfl) rfl rfl) ?_; refine HL_r rfl rfl rfl rfl (R_pure rfl rfl rfl) ?_
  refine HL_r rfl rfl rfl rfl (R_fieldAddr rfl rfl (by first | (simp only [Nat.zero_add, Nat.reduceAdd, Nat.reduceMul, Nat.zero_mul, Nat.mul_one, Nat.add_zero]; exact rfl) | exact rfl)) ?_
  refine HL_store (k := 0) rfl rfl rfl rfl rfl rfl rfl rfl (by first | (simp only [List.setIfInBounds_toArray, List.set_cons_zero, List.set_cons_succ]; exact rfl) | exact rfl) (by first | (simp only [List.set_cons_zero, List.set_cons_succ]; exact rfl) | exact rfl) ?_; refine HL_nil ?_; refine HQ_postN rfl rfl .nil (fun w1 hs1 => ?_); exact ⟨rfl, _, List.mem_cons_self, hs1⟩
set_option maxRecDepth 10000 in
theorem K_bits (a b c d : Nat) (bits : List Bool) (pb : Pl) (items : List Vl) (pi : Pl) (pick : Int) : Keeps 205 (.mk a b c d bits pb items pi pick) (.mk 0 0 0 0 bits pb [] none 0) := fun r1 rr hne => by
  refine pureMR_of_HC (fun p hp => by rw [List.mem_singleton.1 hp]; exact hne) Tryz.func205 rfl rfl fun w => ?_; refine HC_region ?_; refine HL_r rfl rfl rfl rfl (R_move rfl) ?_
  refine HL_r rfl rfl rfl rfl (R_fieldAddr rfl rfl (by first | (simp only [Nat.zero_add, Nat.reduceAdd, Nat.reduceMul, Nat.zero_mul, Nat.mul_one, Nat.add_zero]; exact rfl) | exact rfl)) ?_; refine HL_r rfl rfl rfl rfl (R_load rfl (known_R (k := 0) rfl) rfl rfl) ?_; refine HL_r rfl rfl rfl rfl (R_pure rfl rfl rfl) ?_
  refine HL_r rfl rfl rfl rfl (R_fieldAddr rfl rfl (by first | (simp only [Nat.zero_add, Nat.reduceAdd, Nat.reduceMul, Nat.zero_mul, Nat.mul_one, Nat.add_zero]; exact rfl) | exact rfl)) ?_
  refine HL_store (k := 0) rfl rfl rfl rfl rfl rfl rfl rfl (by first | (simp only [List.setIfInBounds_toArray, List.set_cons_zero, List.set_cons_succ]; exact rfl) | exact rfl) (by first | (simp only [List.set_cons_zero, List.set_cons_succ]; exact rfl) | exact rfl) ?_; refine HL_nil ?_; refine HQ_postN rfl rfl .nil (fun w1 hs1 => ?_); exact ⟨rfl, _, List.mem_cons_self, hs1⟩
set_option maxRecDepth 10000 in
theorem K_pick (a b c d : Nat) (bits : List Bool) (pb : Pl) (items : List Vl) (pi : Pl) (pick : Int) : Keeps 206 (.mk a b c d bits pb items pi pick) (.mk 0 0 0 0 [] none items pi pick) := fun r1 rr hne => by
  refine pureMR_of_HC (fun p hp => by rw [List.mem_singleton.1 hp]; exact hne) Tryz.func206 rfl rfl fun w => ?_
  refine HC_drawB [] [(0, .pure), (1, .pure), (2, .pure), (3, .pure), (4, .pure), (5, .pure), (6, .pure), (7, .pure), (8, .turn), (9, .pure), (10, .pure), (11, .turn)] 12 [0, 1, 2, 3, 4, 5, 6, 7, 8, 9, 10, 11] (by kernel_rfl) (by kernel_rfl) (by first | exact (fun _ h => nomatch h) | simp [SubS] | (intro p hp; simp [hp])) ?_; refine HB_p (k := 0) rfl rfl rfl rfl rfl (fun _ hS => (R_move rfl)) ?_; refine HB_p (k := 1) rfl rfl rfl rfl rfl (fun _ hS => (R_move rfl)) ?_
  refine HB_p (k := 2) rfl rfl rfl rfl rfl (fun _ hS => (R_fieldAddr rfl rfl (by first | (simp only [Nat.zero_add, Nat.reduceAdd, Nat.reduceMul, Nat.zero_mul, Nat.mul_one, Nat.add_zero]; exact rfl) | exact rfl))) ?_; refine HB_p (k := 3) rfl rfl rfl rfl rfl (fun _ hS => (R_load rfl (known_R (k := 0) rfl) rfl rfl)) ?_
  refine HB_p (k := 4) rfl rfl rfl rfl rfl (fun _ hS => (R_fieldAddr rfl rfl (by first | (simp only [Nat.zero_add, Nat.reduceAdd, Nat.reduceMul, Nat.zero_mul, Nat.mul_one, Nat.add_zero]; exact rfl) | exact rfl))) ?_; refine HB_p (k := 5) rfl rfl rfl rfl rfl (fun _ hS => (R_load rfl (known_R (k := 0) rfl) rfl rfl)) ?_; refine HB_p (k := 6) rfl rfl rfl rfl rfl (fun _ hS => (R_pure rfl rfl rfl)) ?_
  refine HB_p (k := 7) rfl rfl rfl rfl rfl (fun _ hS => (R_fieldAddr rfl rfl (by first | (simp only [Nat.zero_add, Nat.reduceAdd, Nat.reduceMul, Nat.zero_mul, Nat.mul_one, Nat.add_zero]; exact rfl) | exact rfl))) ?_
  refine HB_store (k := 8) (q := 0) rfl rfl rfl rfl rfl rfl rfl rfl rfl (by first | (simp only [List.setIfInBounds_toArray, List.set_cons_zero, List.set_cons_succ]; exact rfl) | exact rfl) (by first | (simp only [List.set_cons_zero, List.set_cons_succ]; exact rfl) | exact rfl) (by first | exact (fun _ h => nomatch h) | simp [SubS] | (intro p hp; simp [hp])) ?_; refine HB_p (k := 9) rfl rfl rfl rfl rfl (fun _ hS => (R_pure rfl rfl rfl)) ?_
  refine HB_p (k := 10) rfl rfl rfl rfl rfl (fun _ hS => (R_fieldAddr rfl rfl (by first | (simp only [Nat.zero_add, Nat.reduceAdd, Nat.reduceMul, Nat.zero_mul, Nat.mul_one, Nat.add_zero]; exact rfl) | exact rfl))) ?_
  refine HB_store (k := 11) (q := 0) rfl rfl rfl rfl rfl rfl rfl rfl rfl (by first | (simp only [List.setIfInBounds_toArray, List.set_cons_zero, List.set_cons_succ]; exact rfl) | exact rfl) (by first | (simp only [List.set_cons_zero, List.set_cons_succ]; exact rfl) | exact rfl) (by first | exact (fun _ h => nomatch h) | simp [SubS] | (intro p hp; simp [hp])) ?_; refine HB_end ?_; refine HL_nil ?_; refine HQ_postN rfl rfl .nil (fun w1 hs1 => ?_); exact ⟨rfl, _, List.mem_cons_self, hs1⟩
set_option maxRecDepth 10000 in
theorem S_bare {R : List (Nat × Obj)} {v out : Vl} {f : FuncId} {rv : Nat} (ef : Enters Tryz.prog f) (hv : v.In R) (ho : out.In R) (hk : Keeps f v out) (hr : vBlk rv v ∈ R) : PureR Tryz.prog 200 [v.val, clV f rv].toArray (.bool (sameV v out)) R := by
  have hsm := S_Same hv out ho
  obtain ⟨a, b, c, d, bits, pb, items, pi, pick⟩ := v
  obtain ⟨a', b', c', d', bits', pb', items', pi', pick'⟩ := out
  refine pureR_of_HC Tryz.func200 rfl rfl fun w => ?_; refine HC_seq fun K1 hK1 => ?_; refine HC_region ?_; refine HL_box (cs := #[_, _, _, _, _, _, _]) rfl rfl rfl rfl fun r1 => ?_; refine HL_r rfl rfl rfl rfl (R_assign rfl) ?_; refine HL_nil ?_; refine HQ_then ?_; refine hK1 _ _ _ _ ?_; clear hK1 K1; refine HC_seq fun K2 hK2 => ?_; refine HC_region ?_; refine HL_alloc (cs := #[_, _, _, _, _, _, _]) rfl rfl rfl rfl fun r2 => ?_; refine HL_nil ?_; refine HQ_then ?_; refine hK2 _ _ _ _ ?_; clear hK2 K2; refine HC_seq fun K3 hK3 => ?_; refine HC_region ?_; refine HL_r rfl rfl rfl rfl (R_move rfl) ?_; refine HL_callMR (k := 0) rfl rfl rfl ef rfl (fun hne => hk rv r2 (hne _ List.mem_cons_self)) (fun q hq => by rw [List.mem_singleton.1 hq]; exact hr) rfl ?_; refine HL_nil ?_; refine HQ_then ?_; refine hK3 _ _ _ _ ?_; clear hK3 K3; refine HC_seq fun K4 hK4 => ?_; refine HC_region ?_; refine HL_r rfl rfl rfl rfl (R_loadA (vs := [_, _, _, _, _, _, _]) rfl (known_L (k := 1) rfl) rfl rfl rfl rfl) ?_; refine HL_r rfl rfl rfl rfl (R_loadA (vs := [_, _, _, _, _, _, _]) rfl (known_L (k := 0) rfl) rfl rfl rfl rfl) ?_; refine HL_callR rfl rfl rfl (enters_of Tryz.func23 (by kernel_rfl) rfl) hsm (fun q hq => Or.inr hq) ?_; refine HL_r rfl rfl rfl rfl (R_assign rfl) ?_; refine HL_nil ?_; refine HQ_then ?_; refine hK4 _ _ _ _ ?_; clear hK4 K4; refine HC_ret ?_; refine HQ_post rfl rfl (.cons (res_tmp rfl) .nil) (fun w1 hs1 => ?_); exact ⟨rfl, hs1.keep⟩
theorem In_bits {R : List (Nat × Obj)} {a b c d : Nat} {bits : List Bool} {pb : Pl} {items : List Vl} {pi : Pl} {pick : Int} (h : Vl.In R (.mk a b c d bits pb items pi pick)) : Vl.In R (.mk a b c d [] none [] none 0) ∧ Vl.In R (.mk 0 0 0 0 [] none items pi 0) ∧ Vl.In R (.mk 0 0 0 0 bits pb [] none 0) ∧ Vl.In R (.mk 0 0 0 0 [] none items pi pick) := by
  cases h with
  | mk ha hb hc hd hlb hsb hl hs hp hi =>
  have z : U64 0 := by unfold U64; omega
  have i0 : I64 0 := by unfold I64; omega
  refine ⟨.mk ha hb hc hd (by simp) rfl (by simp) rfl i0 (by simp), .mk z z z z (by simp) rfl hl hs i0 hi, .mk z z z z hlb hsb (by simp) rfl i0 (by simp), .mk z z z z (by simp) rfl hl hs hp hi⟩
theorem sameL_refl (l : List Vl) : sameL l l = true := sameL_spec.2 ⟨rfl, fun i x y hx hy => by rw [hx] at hy; cases hy; exact sameV_refl x⟩
theorem sameL_nil (l : List Vl) : sameL l [] = decide (l.length = 0) := by cases l <;> simp [sameL]
theorem bare_number {a b c d : Nat} {bits : List Bool} {pb : Pl} {items : List Vl} {pi : Pl} {pick : Int} : sameV (.mk a b c d bits pb items pi pick) (.mk a b c d [] none [] none 0) = onlyB (.mk a b c d bits pb items pi pick) true false false false := by
  rw [sameV_mk, onlyB_mk, sameL_nil]
  by_cases h1 : bits = [] <;> by_cases h2 : items = [] <;> by_cases h3 : pick = 0 <;> simp [h1, h2, h3]
theorem bare_items {a b c d : Nat} {bits : List Bool} {pb : Pl} {items : List Vl} {pi : Pl} {pick : Int} : sameV (.mk a b c d bits pb items pi pick) (.mk 0 0 0 0 [] none items pi 0) = onlyB (.mk a b c d bits pb items pi pick) false false true false := by
  rw [sameV_mk, onlyB_mk, sameL_refl]
  by_cases h1 : bits = [] <;> by_cases h3 : pick = 0 <;> simp [h1, h3]
theorem bare_bits {a b c d : Nat} {bits : List Bool} {pb : Pl} {items : List Vl} {pi : Pl} {pick : Int} : sameV (.mk a b c d bits pb items pi pick) (.mk 0 0 0 0 bits pb [] none 0) = onlyB (.mk a b c d bits pb items pi pick) false true false false := by
  rw [sameV_mk, onlyB_mk, sameL_nil]
  by_cases h2 : items = [] <;> by_cases h3 : pick = 0 <;> simp [h2, h3]
theorem bare_pick {a b c d : Nat} {bits : List Bool} {pb : Pl} {items : List Vl} {pi : Pl} {pick : Int} : sameV (.mk a b c d bits pb items pi pick) (.mk 0 0 0 0 [] none items pi pick) = onlyB (.mk a b c d bits pb items pi pick) false false true true := by
  rw [sameV_mk, onlyB_mk, sameL_refl]
  by_cases h1 : bits = [] <;> simp [h1]
set_option maxRecDepth 10000 in
theorem S_number {R : List (Nat × Obj)} {v : Vl} (hv : v.In R) : PureR Tryz.prog 143 [v.val].toArray (.bool (onlyB v true false false false)) R := by
  obtain ⟨a, b, c, d, bits, pb, items, pi, pick⟩ := v
  have hb4 := In_bits hv
  refine pureR_of_HC Tryz.func143 rfl rfl fun w => ?_; rw [← bare_number (pb := pb) (pi := pi)]; refine HC_seq fun K1 hK1 => ?_; refine HC_region ?_; refine HL_box (cs := #[_, _, _, _, _, _, _]) rfl rfl rfl rfl fun r1 => ?_; refine HL_r rfl rfl rfl rfl (R_assign rfl) ?_; refine HL_nil ?_; refine HQ_then ?_; refine hK1 _ _ _ _ ?_; clear hK1 K1; refine HC_seq fun K2 hK2 => ?_; refine HC_region ?_; refine HL_r rfl rfl rfl rfl (R_loadA (vs := [_, _, _, _, _, _, _]) rfl (known_L (k := 0) rfl) rfl rfl rfl rfl) ?_; refine HL_r rfl rfl rfl rfl (R_makeFunc rfl rfl) ?_
  refine HL_callR (Rl := vBlk r1 (.mk a b c d bits pb items pi pick) :: R) rfl rfl rfl (enters_of Tryz.func200 (by kernel_rfl) rfl) (S_bare (enters_of Tryz.func201 (by kernel_rfl) rfl) (hv.mono fun q hq => List.mem_cons_of_mem _ hq) (hb4.1.mono fun q hq => List.mem_cons_of_mem _ hq) (K_number a b c d bits pb items pi pick) List.mem_cons_self) (fun q hq => by rcases List.mem_cons.1 hq with rfl | hq; exact .inl List.mem_cons_self; exact .inr hq) ?_; refine HL_r rfl rfl rfl rfl (R_assign rfl) ?_; refine HL_nil ?_; refine HQ_then ?_; refine hK2 _ _ _ _ ?_; clear hK2 K2; refine HC_ret ?_; refine HQ_post rfl rfl (.cons (res_tmp rfl) .nil) (fun w1 hs1 => ?_); exact ⟨rfl, hs1.keep⟩
set_option maxRecDepth 10000 in
theorem S_items {R : List (Nat × Obj)} {v : Vl} (hv : v.In R) : PureR Tryz.prog 156 [v.val].toArray (.bool (onlyB v false false true false)) R := by
  obtain ⟨a, b, c, d, bits, pb, items, pi, pick⟩ := v
  have hb4 := In_bits hv
  refine pureR_of_HC Tryz.func156 rfl rfl fun w => ?_; rw [← bare_items (pb := pb) (pi := pi)]; refine HC_seq fun K1 hK1 => ?_; refine HC_region ?_; refine HL_box (cs := #[_, _, _, _, _, _, _]) rfl rfl rfl rfl fun r1 => ?_; refine HL_r rfl rfl rfl rfl (R_assign rfl) ?_; refine HL_nil ?_; refine HQ_then ?_; refine hK1 _ _ _ _ ?_; clear hK1 K1; refine HC_seq fun K2 hK2 => ?_; refine HC_region ?_; refine HL_r rfl rfl rfl rfl (R_loadA (vs := [_, _, _, _, _, _, _]) rfl (known_L (k := 0) rfl) rfl rfl rfl rfl) ?_; refine HL_r rfl rfl rfl rfl (R_makeFunc rfl rfl) ?_
  refine HL_callR (Rl := vBlk r1 (.mk a b c d bits pb items pi pick) :: R) rfl rfl rfl (enters_of Tryz.func200 (by kernel_rfl) rfl) (S_bare (enters_of Tryz.func204 (by kernel_rfl) rfl) (hv.mono fun q hq => List.mem_cons_of_mem _ hq) (hb4.2.1.mono fun q hq => List.mem_cons_of_mem _ hq) (K_items a b c d bits pb items pi pick) List.mem_cons_self) (fun q hq => by rcases List.mem_cons.1 hq with rfl | hq; exact .inl List.mem_cons_self; exact .inr hq) ?_; refine HL_r rfl rfl rfl rfl (R_assign rfl) ?_; refine HL_nil ?_; refine HQ_then ?_; refine hK2 _ _ _ _ ?_; clear hK2 K2; refine HC_ret ?_; refine HQ_post rfl rfl (.cons (res_tmp rfl) .nil) (fun w1 hs1 => ?_); exact ⟨rfl, hs1.keep⟩
set_option maxRecDepth 10000 in
theorem S_bits {R : List (Nat × Obj)} {v : Vl} (hv : v.In R) : PureR Tryz.prog 163 [v.val].toArray (.bool (onlyB v false true false false)) R := by
  obtain ⟨a, b, c, d, bits, pb, items, pi, pick⟩ := v
  have hb4 := In_bits hv
  refine pureR_of_HC Tryz.func163 rfl rfl fun w => ?_; rw [← bare_bits (pb := pb) (pi := pi)]; refine HC_seq fun K1 hK1 => ?_; refine HC_region ?_; refine HL_box (cs := #[_, _, _, _, _, _, _]) rfl rfl rfl rfl fun r1 => ?_; refine HL_r rfl rfl rfl rfl (R_assign rfl) ?_; refine HL_nil ?_; refine HQ_then ?_; refine hK1 _ _ _ _ ?_; clear hK1 K1; refine HC_seq fun K2 hK2 => ?_; refine HC_region ?_; refine HL_r rfl rfl rfl rfl (R_loadA (vs := [_, _, _, _, _, _, _]) rfl (known_L (k := 0) rfl) rfl rfl rfl rfl) ?_; refine HL_r rfl rfl rfl rfl (R_makeFunc rfl rfl) ?_
  refine HL_callR (Rl := vBlk r1 (.mk a b c d bits pb items pi pick) :: R) rfl rfl rfl (enters_of Tryz.func200 (by kernel_rfl) rfl) (S_bare (enters_of Tryz.func205 (by kernel_rfl) rfl) (hv.mono fun q hq => List.mem_cons_of_mem _ hq) (hb4.2.2.1.mono fun q hq => List.mem_cons_of_mem _ hq) (K_bits a b c d bits pb items pi pick) List.mem_cons_self) (fun q hq => by rcases List.mem_cons.1 hq with rfl | hq; exact .inl List.mem_cons_self; exact .inr hq) ?_; refine HL_r rfl rfl rfl rfl (R_assign rfl) ?_; refine HL_nil ?_; refine HQ_then ?_; refine hK2 _ _ _ _ ?_; clear hK2 K2; refine HC_ret ?_; refine HQ_post rfl rfl (.cons (res_tmp rfl) .nil) (fun w1 hs1 => ?_); exact ⟨rfl, hs1.keep⟩
set_option maxRecDepth 10000 in
theorem S_pick {R : List (Nat × Obj)} {v : Vl} (hv : v.In R) : PureR Tryz.prog 172 [v.val].toArray (.bool (onlyB v false false true true)) R := by
  obtain ⟨a, b, c, d, bits, pb, items, pi, pick⟩ := v
  have hb4 := In_bits hv
  refine pureR_of_HC Tryz.func172 rfl rfl fun w => ?_; rw [← bare_pick (pb := pb) (pi := pi)]; refine HC_seq fun K1 hK1 => ?_; refine HC_region ?_; refine HL_box (cs := #[_, _, _, _, _, _, _]) rfl rfl rfl rfl fun r1 => ?_; refine HL_r rfl rfl rfl rfl (R_assign rfl) ?_; refine HL_nil ?_; refine HQ_then ?_; refine hK1 _ _ _ _ ?_; clear hK1 K1; refine HC_seq fun K2 hK2 => ?_; refine HC_region ?_; refine HL_r rfl rfl rfl rfl (R_loadA (vs := [_, _, _, _, _, _, _]) rfl (known_L (k := 0) rfl) rfl rfl rfl rfl) ?_; refine HL_r rfl rfl rfl rfl (R_makeFunc rfl rfl) ?_
  refine HL_callR (Rl := vBlk r1 (.mk a b c d bits pb items pi pick) :: R) rfl rfl rfl (enters_of Tryz.func200 (by kernel_rfl) rfl) (S_bare (enters_of Tryz.func206 (by kernel_rfl) rfl) (hv.mono fun q hq => List.mem_cons_of_mem _ hq) (hb4.2.2.2.mono fun q hq => List.mem_cons_of_mem _ hq) (K_pick a b c d bits pb items pi pick) List.mem_cons_self) (fun q hq => by rcases List.mem_cons.1 hq with rfl | hq; exact .inl List.mem_cons_self; exact .inr hq) ?_; refine HL_r rfl rfl rfl rfl (R_assign rfl) ?_; refine HL_nil ?_; refine HQ_then ?_; refine hK2 _ _ _ _ ?_; clear hK2 K2; refine HC_ret ?_; refine HQ_post rfl rfl (.cons (res_tmp rfl) .nil) (fun w1 hs1 => ?_); exact ⟨rfl, hs1.keep⟩
end Go.Proofs.YtlcbfphioeppaaaGreatDoor
namespace Go.Proofs.YtlcbfphioeppaaaGreatDoor
set_option linter.all false
open Go.SL Go.RowKit Go.Shelf
theorem less1 {l : List Nat} (hl : WOk l) : (!lessB [1, 0, 0, 0] l) = (decide (l = [0, 0, 0, 0]) || decide (l = [1, 0, 0, 0])) := by
  have h0 : WOk [0, 0, 0, 0] := ⟨rfl, fun x hx => by simp at hx; omega⟩
  have h1 : WOk [1, 0, 0, 0] := ⟨rfl, fun x hx => by simp at hx; omega⟩
  rw [lessB_eq h1 hl, show wN [1, 0, 0, 0] = 1 from rfl]
  by_cases e0 : l = [0, 0, 0, 0]
  · subst e0; rfl
  by_cases e1 : l = [1, 0, 0, 0]
  · subst e1; rfl
  have n0 : wN l ≠ 0 := fun h => e0 (wN_inj hl h0 h)
  have n1 : wN l ≠ 1 := fun h => e1 (wN_inj hl h1 h)
  simp [e0, e1]
  omega
set_option maxRecDepth 10000 in
theorem O_1 {R : List (Nat × Obj)} {n : Int} {p : Pl} {ins : List Ty} {v : Vl} (ht : Ty.In R (.mk 1 n p ins)) (hv : v.In R) : PureR Tryz.prog 142 [Ty.val (.mk 1 n p ins), v.val].toArray (.bool (ofT 1 n ins.length v)) R := by
  have hnu := S_number hv
  have hit := S_items hv
  have hbi := S_bits hv
  have hpk := S_pick hv
  cases ht with
  | mk hk hn hlt hst hit0 =>
  cases hv with
  | @mk a b c d bits pb items pi pick ha hb hc hd hlb hsb hl hs hp hi =>
  have hw : WOk [a, b, c, d] := ⟨rfl, fun x hx => by simp at hx; rcases hx with rfl | rfl | rfl | rfl <;> assumption⟩
  have hw1 : WOk [1, 0, 0, 0] := ⟨rfl, fun x hx => by simp at hx; omega⟩
  have hl1 := less1 hw
  rw [ofT_mk _ n ins.length a b c d bits pb items pi pick _ rfl]; refine pureR_of_HC Tryz.func142 rfl rfl fun w => ?_; refine HC_seq fun K1 hK1 => ?_; refine HC_region ?_; refine HL_box (cs := #[_, _, _]) rfl rfl rfl rfl fun r1 => ?_; refine HL_box (cs := #[_, _, _, _, _, _, _]) rfl rfl rfl rfl fun r2 => ?_; refine HL_r rfl rfl rfl rfl (R_assign rfl) ?_; refine HL_nil ?_; refine HQ_then ?_; refine hK1 _ _ _ _ ?_; clear hK1 K1; refine HC_seq fun K2 hK2 => ?_; refine HC_draw 12 (by kernel_rfl) (by kernel_rfl) ?_; refine HD_r rfl rfl rfl (R_loadA (vs := [_, _, _, _, _, _, _]) rfl (known_L (k := 0) rfl) rfl rfl rfl rfl) ?_; refine HD_callR rfl rfl rfl (enters_of Tryz.func143 (by kernel_rfl) rfl) hnu (fun q hq => Or.inr hq) ?_; refine HD_r rfl rfl rfl (R_move rfl) ?_
  refine HD_case 7 rfl (fun hb3 => ?_) (fun hb3 => ?_) <;> (try simp only [Z1, Z2, Z3, Z4, Z5, Z6, Z7, Z8, Z9, Z10, Z11, Z12, Z13] at hb3) <;> first | (refine HD_r rfl rfl rfl (R_fieldAddr rfl rfl (by first | (simp only [Nat.zero_add, Nat.reduceAdd, Nat.reduceMul, Nat.zero_mul, Nat.mul_one, Nat.add_zero]; exact rfl) | exact rfl)) ?_) | (refine HD_skip rfl rfl rfl ?_)
  all_goals first
    | (refine HD_r rfl rfl rfl (R_loadA (vs := [_, _, _, _]) rfl (known_L (k := 0) rfl) rfl rfl rfl rfl) ?_)
    | (refine HD_skip rfl rfl rfl ?_)
  all_goals first
    | (refine HD_callP rfl rfl rfl (enters_of Tryz.func144 (by kernel_rfl) rfl) (P_word_Bytes hw) ?_)
    | (refine HD_skip rfl rfl rfl ?_)
  all_goals first
    | (refine HD_r rfl rfl rfl (R_lenBs rfl rfl) ?_)
    | (refine HD_skip rfl rfl rfl ?_)
  all_goals first
    | (refine HD_r rfl rfl rfl (R_fieldAddr rfl rfl (by first | (simp only [Nat.zero_add, Nat.reduceAdd, Nat.reduceMul, Nat.zero_mul, Nat.mul_one, Nat.add_zero]; exact rfl) | exact rfl)) ?_)
    | (refine HD_skip rfl rfl rfl ?_)
  all_goals first
    | (refine HD_r rfl rfl rfl (R_load rfl (known_L (k := 1) rfl) rfl rfl) ?_)
    | (refine HD_skip rfl rfl rfl ?_)
  all_goals first
    | (refine HD_r rfl rfl rfl (R_pure rfl rfl rfl) ?_)
    | (refine HD_skip rfl rfl rfl ?_)
  all_goals first
    | (refine HD_r rfl rfl rfl (R_pickT rfl rfl) ?_)
    | (refine HD_r rfl rfl rfl (R_pickF rfl rfl) ?_)
  all_goals refine HD_r rfl rfl rfl (R_assign rfl) ?_
  all_goals refine HD_end ?_
  all_goals refine HL_nil ?_
  all_goals (
   refine HQ_then ?_; refine hK2 _ _ _ _ ?_; clear hK2 K2; refine HC_ret ?_; refine HQ_post rfl rfl (.cons (res_tmp rfl) .nil) (fun w1 hs1 => ?_); refine ⟨?_, hs1.keep⟩
   simp_all [resVal]
   skip)
set_option maxRecDepth 10000 in
theorem O_2 {R : List (Nat × Obj)} {n : Int} {p : Pl} {ins : List Ty} {v : Vl} (ht : Ty.In R (.mk 2 n p ins)) (hv : v.In R) : PureR Tryz.prog 148 [Ty.val (.mk 2 n p ins), v.val].toArray (.bool (ofT 2 n ins.length v)) R := by
  have hnu := S_number hv
  have hit := S_items hv
  have hbi := S_bits hv
  have hpk := S_pick hv
  cases ht with
  | mk hk hn hlt hst hit0 =>
  cases hv with
  | @mk a b c d bits pb items pi pick ha hb hc hd hlb hsb hl hs hp hi =>
  have hw : WOk [a, b, c, d] := ⟨rfl, fun x hx => by simp at hx; rcases hx with rfl | rfl | rfl | rfl <;> assumption⟩
  have hw1 : WOk [1, 0, 0, 0] := ⟨rfl, fun x hx => by simp at hx; omega⟩
  have hl1 := less1 hw
  rw [ofT_mk _ n ins.length a b c d bits pb items pi pick _ rfl]; refine pureR_of_HC Tryz.func148 rfl rfl fun w => ?_; refine HC_seq fun K1 hK1 => ?_; refine HC_region ?_; refine HL_box (cs := #[_, _, _]) rfl rfl rfl rfl fun r1 => ?_; refine HL_box (cs := #[_, _, _, _, _, _, _]) rfl rfl rfl rfl fun r2 => ?_; refine HL_r rfl rfl rfl rfl (R_assign rfl) ?_; refine HL_nil ?_; refine HQ_then ?_; refine hK1 _ _ _ _ ?_; clear hK1 K1; refine HC_seq fun K2 hK2 => ?_; refine HC_draw 10 (by kernel_rfl) (by kernel_rfl) ?_; refine HD_r rfl rfl rfl (R_loadA (vs := [_, _, _, _, _, _, _]) rfl (known_L (k := 0) rfl) rfl rfl rfl rfl) ?_; refine HD_callR rfl rfl rfl (enters_of Tryz.func143 (by kernel_rfl) rfl) hnu (fun q hq => Or.inr hq) ?_; refine HD_r rfl rfl rfl (R_move rfl) ?_
  refine HD_case 7 rfl (fun hb3 => ?_) (fun hb3 => ?_) <;> (try simp only [Z1, Z2, Z3, Z4, Z5, Z6, Z7, Z8, Z9, Z10, Z11, Z12, Z13] at hb3) <;> first | (refine HD_callP rfl rfl rfl (enters_of Tryz.func150 (by kernel_rfl) rfl) (P_word_Of ..) ?_) | (refine HD_skip rfl rfl rfl ?_)
  all_goals first
    | (refine HD_r rfl rfl rfl (R_fieldAddr rfl rfl (by first | (simp only [Nat.zero_add, Nat.reduceAdd, Nat.reduceMul, Nat.zero_mul, Nat.mul_one, Nat.add_zero]; exact rfl) | exact rfl)) ?_)
    | (refine HD_skip rfl rfl rfl ?_)
  all_goals first
    | (refine HD_r rfl rfl rfl (R_loadA (vs := [_, _, _, _]) rfl (known_L (k := 0) rfl) rfl rfl rfl rfl) ?_)
    | (refine HD_skip rfl rfl rfl ?_)
  all_goals first
    | (refine HD_callP rfl rfl rfl (enters_of Tryz.func149 (by kernel_rfl) rfl) (P_word_Less hw1 hw) ?_)
    | (refine HD_skip rfl rfl rfl ?_)
  all_goals first
    | (refine HD_r rfl rfl rfl (R_pure rfl rfl rfl) ?_)
    | (refine HD_skip rfl rfl rfl ?_)
  all_goals first
    | (refine HD_r rfl rfl rfl (R_pickT rfl rfl) ?_)
    | (refine HD_r rfl rfl rfl (R_pickF rfl rfl) ?_)
  all_goals refine HD_r rfl rfl rfl (R_assign rfl) ?_
  all_goals refine HD_end ?_
  all_goals refine HL_nil ?_
  all_goals (
   refine HQ_then ?_; refine hK2 _ _ _ _ ?_; clear hK2 K2; refine HC_ret ?_; refine HQ_post rfl rfl (.cons (res_tmp rfl) .nil) (fun w1 hs1 => ?_); refine ⟨?_, hs1.keep⟩
   simp_all [resVal]
   skip)
set_option maxRecDepth 10000 in
theorem O_3 {R : List (Nat × Obj)} {n : Int} {p : Pl} {ins : List Ty} {v : Vl} (ht : Ty.In R (.mk 3 n p ins)) (hv : v.In R) : PureR Tryz.prog 155 [Ty.val (.mk 3 n p ins), v.val].toArray (.bool (ofT 3 n ins.length v)) R := by
  have hnu := S_number hv
  have hit := S_items hv
  have hbi := S_bits hv
  have hpk := S_pick hv
  cases ht with
  | mk hk hn hlt hst hit0 =>
  cases hv with
  | @mk a b c d bits pb items pi pick ha hb hc hd hlb hsb hl hs hp hi =>
  have hw : WOk [a, b, c, d] := ⟨rfl, fun x hx => by simp at hx; rcases hx with rfl | rfl | rfl | rfl <;> assumption⟩
  have hw1 : WOk [1, 0, 0, 0] := ⟨rfl, fun x hx => by simp at hx; omega⟩
  have hl1 := less1 hw
  rw [ofT_mk _ n ins.length a b c d bits pb items pi pick _ rfl]; refine pureR_of_HC Tryz.func155 rfl rfl fun w => ?_; refine HC_seq fun K1 hK1 => ?_; refine HC_region ?_; refine HL_box (cs := #[_, _, _]) rfl rfl rfl rfl fun r1 => ?_; refine HL_box (cs := #[_, _, _, _, _, _, _]) rfl rfl rfl rfl fun r2 => ?_; refine HL_r rfl rfl rfl rfl (R_assign rfl) ?_; refine HL_nil ?_; refine HQ_then ?_; refine hK1 _ _ _ _ ?_; clear hK1 K1; refine HC_seq fun K2 hK2 => ?_; refine HC_region ?_; refine HL_r rfl rfl rfl rfl (R_loadA (vs := [_, _, _, _, _, _, _]) rfl (known_L (k := 0) rfl) rfl rfl rfl rfl) ?_; refine HL_callR rfl rfl rfl (enters_of Tryz.func156 (by kernel_rfl) rfl) hit (fun q hq => Or.inr hq) ?_; refine HL_r rfl rfl rfl rfl (R_move rfl) ?_
  refine HL_case 7 rfl (fun hb3 => ?_) (fun hb3 => ?_) <;> (try simp only [Z1, Z2, Z3, Z4, Z5, Z6, Z7, Z8, Z9, Z10, Z11, Z12, Z13] at hb3) <;> first | (refine HL_r rfl rfl rfl rfl (R_fieldAddr rfl rfl (by first | (simp only [Nat.zero_add, Nat.reduceAdd, Nat.reduceMul, Nat.zero_mul, Nat.mul_one, Nat.add_zero]; exact rfl) | exact rfl)) ?_) | (refine HL_skip rfl rfl rfl ?_)
  all_goals first
    | (refine HL_r rfl rfl rfl rfl (R_load rfl (known_L (k := 0) rfl) rfl rfl) ?_)
    | (refine HL_skip rfl rfl rfl ?_)
  all_goals first
    | (refine HL_r rfl rfl rfl rfl (R_lenPl rfl hs rfl) ?_)
    | (refine HL_skip rfl rfl rfl ?_)
  all_goals first
    | (refine HL_r rfl rfl rfl rfl (R_fieldAddr rfl rfl (by first | (simp only [Nat.zero_add, Nat.reduceAdd, Nat.reduceMul, Nat.zero_mul, Nat.mul_one, Nat.add_zero]; exact rfl) | exact rfl)) ?_)
    | (refine HL_skip rfl rfl rfl ?_)
  all_goals first
    | (refine HL_r rfl rfl rfl rfl (R_load rfl (known_L (k := 1) rfl) rfl rfl) ?_)
    | (refine HL_skip rfl rfl rfl ?_)
  all_goals first
    | (refine HL_r rfl rfl rfl rfl (R_pure rfl rfl rfl) ?_)
    | (refine HL_skip rfl rfl rfl ?_)
  all_goals first
    | (refine HL_r rfl rfl rfl rfl (R_pickT rfl rfl) ?_)
    | (refine HL_r rfl rfl rfl rfl (R_pickF rfl rfl) ?_)
  all_goals refine HL_r rfl rfl rfl rfl (R_assign rfl) ?_
  all_goals refine HL_nil ?_
  all_goals (
   refine HQ_then ?_; refine hK2 _ _ _ _ ?_; clear hK2 K2; refine HC_ret ?_; refine HQ_post rfl rfl (.cons (res_tmp rfl) .nil) (fun w1 hs1 => ?_); refine ⟨?_, hs1.keep⟩
   simp_all [resVal]
   all_goals first | done | rfl | omega | (rw [Bool.eq_iff_iff]; simp only [Bool.and_eq_true, Bool.or_eq_true, decide_eq_true_eq, beq_iff_eq]; omega) | (simp only [decide_eq_true_eq, decide_eq_false_iff_not]; omega)
   skip)
set_option maxRecDepth 10000 in
theorem O_4 {R : List (Nat × Obj)} {n : Int} {p : Pl} {ins : List Ty} {v : Vl} (ht : Ty.In R (.mk 4 n p ins)) (hv : v.In R) : PureR Tryz.prog 160 [Ty.val (.mk 4 n p ins), v.val].toArray (.bool (ofT 4 n ins.length v)) R := by
  have hnu := S_number hv
  have hit := S_items hv
  have hbi := S_bits hv
  have hpk := S_pick hv
  cases ht with
  | mk hk hn hlt hst hit0 =>
  cases hv with
  | @mk a b c d bits pb items pi pick ha hb hc hd hlb hsb hl hs hp hi =>
  have hw : WOk [a, b, c, d] := ⟨rfl, fun x hx => by simp at hx; rcases hx with rfl | rfl | rfl | rfl <;> assumption⟩
  have hw1 : WOk [1, 0, 0, 0] := ⟨rfl, fun x hx => by simp at hx; omega⟩
  have hl1 := less1 hw
  rw [ofT_mk _ n ins.length a b c d bits pb items pi pick _ rfl]; refine pureR_of_HC Tryz.func160 rfl rfl fun w => ?_; refine HC_seq fun K1 hK1 => ?_; refine HC_region ?_; refine HL_box (cs := #[_, _, _]) rfl rfl rfl rfl fun r1 => ?_; refine HL_box (cs := #[_, _, _, _, _, _, _]) rfl rfl rfl rfl fun r2 => ?_; refine HL_r rfl rfl rfl rfl (R_assign rfl) ?_; refine HL_nil ?_; refine HQ_then ?_; refine hK1 _ _ _ _ ?_; clear hK1 K1; refine HC_seq fun K2 hK2 => ?_; refine HC_region ?_; refine HL_r rfl rfl rfl rfl (R_loadA (vs := [_, _, _, _, _, _, _]) rfl (known_L (k := 0) rfl) rfl rfl rfl rfl) ?_; refine HL_callR rfl rfl rfl (enters_of Tryz.func156 (by kernel_rfl) rfl) hit (fun q hq => Or.inr hq) ?_; refine HL_r rfl rfl rfl rfl (R_assign rfl) ?_; refine HL_nil ?_; refine HQ_then ?_; refine hK2 _ _ _ _ ?_; clear hK2 K2; refine HC_ret ?_; refine HQ_post rfl rfl (.cons (res_tmp rfl) .nil) (fun w1 hs1 => ?_); refine ⟨?_, hs1.keep⟩
  simp_all [resVal]
set_option maxRecDepth 10000 in
theorem O_5 {R : List (Nat × Obj)} {n : Int} {p : Pl} {ins : List Ty} {v : Vl} (ht : Ty.In R (.mk 5 n p ins)) (hv : v.In R) : PureR Tryz.prog 162 [Ty.val (.mk 5 n p ins), v.val].toArray (.bool (ofT 5 n ins.length v)) R := by
  have hnu := S_number hv
  have hit := S_items hv
  have hbi := S_bits hv
  have hpk := S_pick hv
  cases ht with
  | mk hk hn hlt hst hit0 =>
  cases hv with
  | @mk a b c d bits pb items pi pick ha hb hc hd hlb hsb hl hs hp hi =>
  have hw : WOk [a, b, c, d] := ⟨rfl, fun x hx => by simp at hx; rcases hx with rfl | rfl | rfl | rfl <;> assumption⟩
  have hw1 : WOk [1, 0, 0, 0] := ⟨rfl, fun x hx => by simp at hx; omega⟩
  have hl1 := less1 hw
  rw [ofT_mk _ n ins.length a b c d bits pb items pi pick _ rfl]; refine pureR_of_HC Tryz.func162 rfl rfl fun w => ?_; refine HC_seq fun K1 hK1 => ?_; refine HC_region ?_; refine HL_box (cs := #[_, _, _]) rfl rfl rfl rfl fun r1 => ?_; refine HL_box (cs := #[_, _, _, _, _, _, _]) rfl rfl rfl rfl fun r2 => ?_; refine HL_r rfl rfl rfl rfl (R_assign rfl) ?_; refine HL_nil ?_; refine HQ_then ?_; refine hK1 _ _ _ _ ?_; clear hK1 K1; refine HC_seq fun K2 hK2 => ?_; refine HC_region ?_; refine HL_r rfl rfl rfl rfl (R_loadA (vs := [_, _, _, _, _, _, _]) rfl (known_L (k := 0) rfl) rfl rfl rfl rfl) ?_; refine HL_callR rfl rfl rfl (enters_of Tryz.func163 (by kernel_rfl) rfl) hbi (fun q hq => Or.inr hq) ?_; refine HL_r rfl rfl rfl rfl (R_move rfl) ?_
  refine HL_case 7 rfl (fun hb3 => ?_) (fun hb3 => ?_) <;> (try simp only [Z1, Z2, Z3, Z4, Z5, Z6, Z7, Z8, Z9, Z10, Z11, Z12, Z13] at hb3) <;> first | (refine HL_r rfl rfl rfl rfl (R_fieldAddr rfl rfl (by first | (simp only [Nat.zero_add, Nat.reduceAdd, Nat.reduceMul, Nat.zero_mul, Nat.mul_one, Nat.add_zero]; exact rfl) | exact rfl)) ?_) | (refine HL_skip rfl rfl rfl ?_)
  all_goals first
    | (refine HL_r rfl rfl rfl rfl (R_load rfl (known_L (k := 0) rfl) rfl rfl) ?_)
    | (refine HL_skip rfl rfl rfl ?_)
  all_goals first
    | (refine HL_r rfl rfl rfl rfl (R_lenPl rfl hsb rfl) ?_)
    | (refine HL_skip rfl rfl rfl ?_)
  all_goals first
    | (refine HL_r rfl rfl rfl rfl (R_fieldAddr rfl rfl (by first | (simp only [Nat.zero_add, Nat.reduceAdd, Nat.reduceMul, Nat.zero_mul, Nat.mul_one, Nat.add_zero]; exact rfl) | exact rfl)) ?_)
    | (refine HL_skip rfl rfl rfl ?_)
  all_goals first
    | (refine HL_r rfl rfl rfl rfl (R_load rfl (known_L (k := 1) rfl) rfl rfl) ?_)
    | (refine HL_skip rfl rfl rfl ?_)
  all_goals first
    | (refine HL_r rfl rfl rfl rfl (R_pure rfl rfl rfl) ?_)
    | (refine HL_skip rfl rfl rfl ?_)
  all_goals first
    | (refine HL_r rfl rfl rfl rfl (R_pickT rfl rfl) ?_)
    | (refine HL_r rfl rfl rfl rfl (R_pickF rfl rfl) ?_)
  all_goals refine HL_r rfl rfl rfl rfl (R_assign rfl) ?_
  all_goals refine HL_nil ?_
  all_goals (
   refine HQ_then ?_; refine hK2 _ _ _ _ ?_; clear hK2 K2; refine HC_ret ?_; refine HQ_post rfl rfl (.cons (res_tmp rfl) .nil) (fun w1 hs1 => ?_); refine ⟨?_, hs1.keep⟩
   simp_all [resVal]
   all_goals first | done | rfl | omega | (rw [Bool.eq_iff_iff]; simp only [Bool.and_eq_true, Bool.or_eq_true, decide_eq_true_eq, beq_iff_eq]; omega) | (simp only [decide_eq_true_eq, decide_eq_false_iff_not]; omega)
   skip)
set_option maxRecDepth 10000 in
theorem O_6 {R : List (Nat × Obj)} {n : Int} {p : Pl} {ins : List Ty} {v : Vl} (ht : Ty.In R (.mk 6 n p ins)) (hv : v.In R) : PureR Tryz.prog 166 [Ty.val (.mk 6 n p ins), v.val].toArray (.bool (ofT 6 n ins.length v)) R := by
  have hnu := S_number hv
  have hit := S_items hv
  have hbi := S_bits hv
  have hpk := S_pick hv
  cases ht with
  | mk hk hn hlt hst hit0 =>
  cases hv with
  | @mk a b c d bits pb items pi pick ha hb hc hd hlb hsb hl hs hp hi =>
  have hw : WOk [a, b, c, d] := ⟨rfl, fun x hx => by simp at hx; rcases hx with rfl | rfl | rfl | rfl <;> assumption⟩
  have hw1 : WOk [1, 0, 0, 0] := ⟨rfl, fun x hx => by simp at hx; omega⟩
  have hl1 := less1 hw
  rw [ofT_mk _ n ins.length a b c d bits pb items pi pick _ rfl]; refine pureR_of_HC Tryz.func166 rfl rfl fun w => ?_; refine HC_seq fun K1 hK1 => ?_; refine HC_region ?_; refine HL_box (cs := #[_, _, _]) rfl rfl rfl rfl fun r1 => ?_; refine HL_box (cs := #[_, _, _, _, _, _, _]) rfl rfl rfl rfl fun r2 => ?_; refine HL_r rfl rfl rfl rfl (R_assign rfl) ?_; refine HL_nil ?_; refine HQ_then ?_; refine hK1 _ _ _ _ ?_; clear hK1 K1; refine HC_seq fun K2 hK2 => ?_; refine HC_region ?_; refine HL_r rfl rfl rfl rfl (R_loadA (vs := [_, _, _, _, _, _, _]) rfl (known_L (k := 0) rfl) rfl rfl rfl rfl) ?_; refine HL_callR rfl rfl rfl (enters_of Tryz.func163 (by kernel_rfl) rfl) hbi (fun q hq => Or.inr hq) ?_; refine HL_r rfl rfl rfl rfl (R_assign rfl) ?_; refine HL_nil ?_; refine HQ_then ?_; refine hK2 _ _ _ _ ?_; clear hK2 K2; refine HC_ret ?_; refine HQ_post rfl rfl (.cons (res_tmp rfl) .nil) (fun w1 hs1 => ?_); refine ⟨?_, hs1.keep⟩
  simp_all [resVal]
set_option maxRecDepth 10000 in
theorem O_7 {R : List (Nat × Obj)} {n : Int} {p : Pl} {ins : List Ty} {v : Vl} (ht : Ty.In R (.mk 7 n p ins)) (hv : v.In R) : PureR Tryz.prog 168 [Ty.val (.mk 7 n p ins), v.val].toArray (.bool (ofT 7 n ins.length v)) R := by
  have hnu := S_number hv
  have hit := S_items hv
  have hbi := S_bits hv
  have hpk := S_pick hv
  cases ht with
  | mk hk hn hlt hst hit0 =>
  cases hv with
  | @mk a b c d bits pb items pi pick ha hb hc hd hlb hsb hl hs hp hi =>
  have hw : WOk [a, b, c, d] := ⟨rfl, fun x hx => by simp at hx; rcases hx with rfl | rfl | rfl | rfl <;> assumption⟩
  have hw1 : WOk [1, 0, 0, 0] := ⟨rfl, fun x hx => by simp at hx; omega⟩
  have hl1 := less1 hw
  rw [ofT_mk _ n ins.length a b c d bits pb items pi pick _ rfl]; refine pureR_of_HC Tryz.func168 rfl rfl fun w => ?_; refine HC_seq fun K1 hK1 => ?_; refine HC_region ?_; refine HL_box (cs := #[_, _, _]) rfl rfl rfl rfl fun r1 => ?_; refine HL_box (cs := #[_, _, _, _, _, _, _]) rfl rfl rfl rfl fun r2 => ?_; refine HL_r rfl rfl rfl rfl (R_assign rfl) ?_; refine HL_nil ?_; refine HQ_then ?_; refine hK1 _ _ _ _ ?_; clear hK1 K1; refine HC_seq fun K2 hK2 => ?_; refine HC_region ?_; refine HL_r rfl rfl rfl rfl (R_loadA (vs := [_, _, _, _, _, _, _]) rfl (known_L (k := 0) rfl) rfl rfl rfl rfl) ?_; refine HL_callR rfl rfl rfl (enters_of Tryz.func156 (by kernel_rfl) rfl) hit (fun q hq => Or.inr hq) ?_; refine HL_r rfl rfl rfl rfl (R_move rfl) ?_
  refine HL_case 7 rfl (fun hb3 => ?_) (fun hb3 => ?_) <;> (try simp only [Z1, Z2, Z3, Z4, Z5, Z6, Z7, Z8, Z9, Z10, Z11, Z12, Z13] at hb3) <;> first | (refine HL_r rfl rfl rfl rfl (R_fieldAddr rfl rfl (by first | (simp only [Nat.zero_add, Nat.reduceAdd, Nat.reduceMul, Nat.zero_mul, Nat.mul_one, Nat.add_zero]; exact rfl) | exact rfl)) ?_) | (refine HL_skip rfl rfl rfl ?_)
  all_goals first
    | (refine HL_r rfl rfl rfl rfl (R_load rfl (known_L (k := 0) rfl) rfl rfl) ?_)
    | (refine HL_skip rfl rfl rfl ?_)
  all_goals first
    | (refine HL_r rfl rfl rfl rfl (R_lenPl rfl hs rfl) ?_)
    | (refine HL_skip rfl rfl rfl ?_)
  all_goals first
    | (refine HL_r rfl rfl rfl rfl (R_fieldAddr rfl rfl (by first | (simp only [Nat.zero_add, Nat.reduceAdd, Nat.reduceMul, Nat.zero_mul, Nat.mul_one, Nat.add_zero]; exact rfl) | exact rfl)) ?_)
    | (refine HL_skip rfl rfl rfl ?_)
  all_goals first
    | (refine HL_r rfl rfl rfl rfl (R_load rfl (known_L (k := 1) rfl) rfl rfl) ?_)
    | (refine HL_skip rfl rfl rfl ?_)
  all_goals first
    | (refine HL_r rfl rfl rfl rfl (R_lenPl rfl hst rfl) ?_)
    | (refine HL_skip rfl rfl rfl ?_)
  all_goals first
    | (refine HL_r rfl rfl rfl rfl (R_pure rfl rfl rfl) ?_)
    | (refine HL_skip rfl rfl rfl ?_)
  all_goals first
    | (refine HL_r rfl rfl rfl rfl (R_pickT rfl rfl) ?_)
    | (refine HL_r rfl rfl rfl rfl (R_pickF rfl rfl) ?_)
  all_goals refine HL_r rfl rfl rfl rfl (R_assign rfl) ?_
  all_goals refine HL_nil ?_
  all_goals (
   refine HQ_then ?_; refine hK2 _ _ _ _ ?_; clear hK2 K2; refine HC_ret ?_; refine HQ_post rfl rfl (.cons (res_tmp rfl) .nil) (fun w1 hs1 => ?_); refine ⟨?_, hs1.keep⟩
   simp_all [resVal]
   all_goals first | done | rfl | omega | (rw [Bool.eq_iff_iff]; simp only [Bool.and_eq_true, Bool.or_eq_true, decide_eq_true_eq, beq_iff_eq]; omega) | (simp only [decide_eq_true_eq, decide_eq_false_iff_not]; omega)
   skip)
set_option maxRecDepth 10000 in
theorem O_8 {R : List (Nat × Obj)} {n : Int} {p : Pl} {ins : List Ty} {v : Vl} (ht : Ty.In R (.mk 8 n p ins)) (hv : v.In R) : PureR Tryz.prog 171 [Ty.val (.mk 8 n p ins), v.val].toArray (.bool (ofT 8 n ins.length v)) R := by
  have hnu := S_number hv
  have hit := S_items hv
  have hbi := S_bits hv
  have hpk := S_pick hv
  cases ht with
  | mk hk hn hlt hst hit0 =>
  cases hv with
  | @mk a b c d bits pb items pi pick ha hb hc hd hlb hsb hl hs hp hi =>
  have hw : WOk [a, b, c, d] := ⟨rfl, fun x hx => by simp at hx; rcases hx with rfl | rfl | rfl | rfl <;> assumption⟩
  have hw1 : WOk [1, 0, 0, 0] := ⟨rfl, fun x hx => by simp at hx; omega⟩
  have hl1 := less1 hw
  rw [ofT_mk _ n ins.length a b c d bits pb items pi pick _ rfl]; refine pureR_of_HC Tryz.func171 rfl rfl fun w => ?_; refine HC_seq fun K1 hK1 => ?_; refine HC_region ?_; refine HL_box (cs := #[_, _, _]) rfl rfl rfl rfl fun r1 => ?_; refine HL_box (cs := #[_, _, _, _, _, _, _]) rfl rfl rfl rfl fun r2 => ?_; refine HL_r rfl rfl rfl rfl (R_assign rfl) ?_; refine HL_nil ?_; refine HQ_then ?_; refine hK1 _ _ _ _ ?_; clear hK1 K1; refine HC_seq fun K2 hK2 => ?_; refine HC_region ?_; refine HL_r rfl rfl rfl rfl (R_loadA (vs := [_, _, _, _, _, _, _]) rfl (known_L (k := 0) rfl) rfl rfl rfl rfl) ?_; refine HL_callR rfl rfl rfl (enters_of Tryz.func172 (by kernel_rfl) rfl) hpk (fun q hq => Or.inr hq) ?_; refine HL_r rfl rfl rfl rfl (R_move rfl) ?_
  refine HL_case 7 rfl (fun hb3 => ?_) (fun hb3 => ?_) <;> (try simp only [Z1, Z2, Z3, Z4, Z5, Z6, Z7, Z8, Z9, Z10, Z11, Z12, Z13] at hb3) <;> first | (refine HL_r rfl rfl rfl rfl (R_fieldAddr rfl rfl (by first | (simp only [Nat.zero_add, Nat.reduceAdd, Nat.reduceMul, Nat.zero_mul, Nat.mul_one, Nat.add_zero]; exact rfl) | exact rfl)) ?_) | (refine HL_skip rfl rfl rfl ?_)
  all_goals first
    | (refine HL_r rfl rfl rfl rfl (R_load rfl (known_L (k := 0) rfl) rfl rfl) ?_)
    | (refine HL_skip rfl rfl rfl ?_)
  all_goals first
    | (refine HL_r rfl rfl rfl rfl (R_lenPl rfl hs rfl) ?_)
    | (refine HL_skip rfl rfl rfl ?_)
  all_goals first
    | (refine HL_r rfl rfl rfl rfl (R_pure rfl rfl rfl) ?_)
    | (refine HL_skip rfl rfl rfl ?_)
  all_goals first
    | (refine HL_r rfl rfl rfl rfl (R_pickT rfl rfl) ?_)
    | (refine HL_r rfl rfl rfl rfl (R_pickF rfl rfl) ?_)
  all_goals refine HL_r rfl rfl rfl rfl (R_move rfl) ?_
  all_goals first
    | (refine HL_skip rfl rfl rfl ?_)
    | (refine HL_case 13 rfl (fun hb7 => ?_) (fun hb7 => ?_) <;> (try simp only [Z1, Z2, Z3, Z4, Z5, Z6, Z7, Z8, Z9, Z10, Z11, Z12, Z13] at hb7) <;> first | (refine HL_r rfl rfl rfl rfl (R_fieldAddr rfl rfl (by first | (simp only [Nat.zero_add, Nat.reduceAdd, Nat.reduceMul, Nat.zero_mul, Nat.mul_one, Nat.add_zero]; exact rfl) | exact rfl)) ?_) | (refine HL_skip rfl rfl rfl ?_))
  all_goals first
    | (refine HL_r rfl rfl rfl rfl (R_load rfl (known_L (k := 0) rfl) rfl rfl) ?_)
    | (refine HL_skip rfl rfl rfl ?_)
  all_goals first
    | (refine HL_r rfl rfl rfl rfl (R_pure rfl rfl rfl) ?_)
    | (refine HL_skip rfl rfl rfl ?_)
  all_goals first
    | (refine HL_r rfl rfl rfl rfl (R_pickT rfl rfl) ?_)
    | (refine HL_r rfl rfl rfl rfl (R_pickF rfl rfl) ?_)
  all_goals refine HL_r rfl rfl rfl rfl (R_move rfl) ?_
  all_goals first
    | (refine HL_skip rfl rfl rfl ?_)
    | (refine HL_case 18 rfl (fun hb10 => ?_) (fun hb10 => ?_) <;> (try simp only [Z1, Z2, Z3, Z4, Z5, Z6, Z7, Z8, Z9, Z10, Z11, Z12, Z13] at hb10) <;> first | (refine HL_r rfl rfl rfl rfl (R_fieldAddr rfl rfl (by first | (simp only [Nat.zero_add, Nat.reduceAdd, Nat.reduceMul, Nat.zero_mul, Nat.mul_one, Nat.add_zero]; exact rfl) | exact rfl)) ?_) | (refine HL_skip rfl rfl rfl ?_))
  all_goals first
    | (refine HL_r rfl rfl rfl rfl (R_load rfl (known_L (k := 0) rfl) rfl rfl) ?_)
    | (refine HL_skip rfl rfl rfl ?_)
  all_goals first
    | (refine HL_r rfl rfl rfl rfl (R_fieldAddr rfl rfl (by first | (simp only [Nat.zero_add, Nat.reduceAdd, Nat.reduceMul, Nat.zero_mul, Nat.mul_one, Nat.add_zero]; exact rfl) | exact rfl)) ?_)
    | (refine HL_skip rfl rfl rfl ?_)
  all_goals first
    | (refine HL_r rfl rfl rfl rfl (R_load rfl (known_L (k := 1) rfl) rfl rfl) ?_)
    | (refine HL_skip rfl rfl rfl ?_)
  all_goals first
    | (refine HL_r rfl rfl rfl rfl (R_lenPl rfl hst rfl) ?_)
    | (refine HL_skip rfl rfl rfl ?_)
  all_goals first
    | (refine HL_r rfl rfl rfl rfl (R_pure rfl rfl rfl) ?_)
    | (refine HL_skip rfl rfl rfl ?_)
  all_goals first
    | (refine HL_r rfl rfl rfl rfl (R_pickT rfl rfl) ?_)
    | (refine HL_r rfl rfl rfl rfl (R_pickF rfl rfl) ?_)
  all_goals refine HL_r rfl rfl rfl rfl (R_assign rfl) ?_
  all_goals refine HL_nil ?_
  all_goals (
   refine HQ_then ?_; refine hK2 _ _ _ _ ?_; clear hK2 K2; refine HC_ret ?_; refine HQ_post rfl rfl (.cons (res_tmp rfl) .nil) (fun w1 hs1 => ?_); refine ⟨?_, hs1.keep⟩
   simp_all [resVal]
   all_goals first | done | rfl | omega | (rw [Bool.eq_iff_iff]; simp only [Bool.and_eq_true, Bool.or_eq_true, decide_eq_true_eq, beq_iff_eq]; omega) | (simp only [decide_eq_true_eq, decide_eq_false_iff_not]; omega)
   skip)
theorem O_all {R : List (Nat × Obj)} {k n : Int} {p : Pl} {ins : List Ty} {v : Vl} (ht : Ty.In R (.mk k n p ins)) (hv : v.In R) (h : isK k = true) : Enters Tryz.prog (ofF k) ∧ PureR Tryz.prog (ofF k) [Ty.val (.mk k n p ins), v.val].toArray (.bool (ofT k n ins.length v)) R := by
  have := isK_iff.1 h
  have : k = 1 ∨ k = 2 ∨ k = 3 ∨ k = 4 ∨ k = 5 ∨ k = 6 ∨ k = 7 ∨ k = 8 := by omega
  rcases this with rfl | rfl | rfl | rfl | rfl | rfl | rfl | rfl
  · exact ⟨enters_of Tryz.func142 (by kernel_rfl) rfl, O_1 ht hv⟩
  · exact ⟨enters_of Tryz.func148 (by kernel_rfl) rfl, O_2 ht hv⟩
  · exact ⟨enters_of Tryz.func155 (by kernel_rfl) rfl, O_3 ht hv⟩
  · exact ⟨enters_of Tryz.func160 (by kernel_rfl) rfl, O_4 ht hv⟩
  · exact ⟨enters_of Tryz.func162 (by kernel_rfl) rfl, O_5 ht hv⟩
  · exact ⟨enters_of Tryz.func166 (by kernel_rfl) rfl, O_6 ht hv⟩
  · exact ⟨enters_of Tryz.func168 (by kernel_rfl) rfl, O_7 ht hv⟩
  · exact ⟨enters_of Tryz.func171 (by kernel_rfl) rfl, O_8 ht hv⟩
end Go.Proofs.YtlcbfphioeppaaaGreatDoor
namespace Go.Proofs.YtlcbfphioeppaaaGreatDoor
set_option linter.all false
open Go.SL Go.RowKit Go.Shelf
def tBlk (r : Nat) (t : Ty) : Nat × Obj := (r, .cells t.cells.toArray 24 (0, 0))
instance : Inhabited Vl := ⟨zVl⟩
def itm (l : List Vl) (i : Nat) : Vl := l.getD i default
theorem itm_get {l : List Vl} {i : Nat} (h : i < l.length) : l[i]? = some (itm l i) ∧ itm l i ∈ l := by
  unfold itm
  rw [List.getD_eq_getElem?_getD, List.getElem?_eq_getElem h]; exact ⟨rfl, List.getElem_mem h⟩
set_option maxRecDepth 10000 in
theorem E_within (t : Ty) (v : Vl) : PureE (α := Nat × Nat) Tryz.prog 92 [t.val, v.val].toArray (fun p => .func (.func 173) #[] #[.pointer (some ⟨p.2, 0, none⟩), .pointer (some ⟨p.1, 0, none⟩)])
    (fun p => [vBlk p.2 v, tBlk p.1 t]) := by
  obtain ⟨k, n, p, ins⟩ := t
  obtain ⟨a, b, c, d, bits, pb, items, pi, pick⟩ := v
  refine pureE_of_HC Tryz.func92 rfl rfl fun w => ?_; refine HC_seq fun K1 hK1 => ?_; refine HC_region ?_; refine HL_box (cs := #[_, _, _]) rfl rfl rfl rfl fun r1 => ?_; refine HL_box (cs := #[_, _, _, _, _, _, _]) rfl rfl rfl rfl fun r2 => ?_; refine HL_r rfl rfl rfl rfl (R_assign rfl) ?_; refine HL_nil ?_; refine HQ_then ?_; refine hK1 _ _ _ _ ?_; clear hK1 K1; refine HC_seq fun K2 hK2 => ?_; refine HC_region ?_; refine HL_r rfl rfl rfl rfl (R_makeFunc rfl rfl) ?_; refine HL_r rfl rfl rfl rfl (R_assign rfl) ?_; refine HL_nil ?_; refine HQ_then ?_; refine hK2 _ _ _ _ ?_; clear hK2 K2; refine HC_ret ?_; refine HQ_post rfl rfl (.cons (res_tmp rfl) .nil) (fun w1 hs1 => ?_); exact ⟨(r1, r2), rfl, hs1⟩
def wVals (k pick : Int) (ins : List Ty) (items : List Vl) (i : Nat) : List Value := [(inTy k pick ins i).val, (itm items i).val]
set_option maxRecDepth 10000 in
theorem I_within {R : List (Nat × Obj)} {k n : Int} {p : Pl} {ins : List Ty} {a b c d : Nat} {bits : List Bool} {pb : Pl} {items : List Vl} {pi : Pl} {pick : Int} (hl : items.length ≤ 9223372036854775807) (hlt : ins.length ≤ 9223372036854775807) (hs : Seg R items.length (vlsC items) pi) (hst : Seg R ins.length (tysC ins) p)
    (hx : ∀ i, i < items.length → inX k pick i < ins.length) (hp8 : k = 8 → 0 ≤ pick) (rt rv : Nat) :
    Iter Tryz.prog 173 [.pointer (some ⟨rv, 0, none⟩), .pointer (some ⟨rt, 0, none⟩)] (vBlk rv (.mk a b c d bits pb items pi pick) :: tBlk rt (.mk k n p ins) :: R) 0 (nxN (wVals k pick ins items) items.length) (finN items.length) := by
  have hs := hs.mono (R' := vBlk rv (.mk a b c d bits pb items pi pick) :: tBlk rt (.mk k n p ins) :: R) fun q hq => List.mem_cons_of_mem _ (List.mem_cons_of_mem _ hq)
  have hst := hst.mono (R' := vBlk rv (.mk a b c d bits pb items pi pick) :: tBlk rt (.mk k n p ins) :: R) fun q hq => List.mem_cons_of_mem _ (List.mem_cons_of_mem _ hq)
  refine iter_of_HC Tryz.func173 rfl rfl fun q xids w2 XI XF hY => ?_; refine HC_seq fun K1 hK1 => ?_; refine HC_region ?_
  refine HL_r rfl rfl rfl rfl (R_fieldAddr rfl rfl (by first | (simp only [Nat.zero_add, Nat.reduceAdd, Nat.reduceMul, Nat.zero_mul, Nat.mul_one, Nat.add_zero]; exact rfl) | exact rfl)) ?_; refine HL_r rfl rfl rfl rfl (R_load rfl (known_R (k := 0) rfl) rfl rfl) ?_; refine HL_r rfl rfl rfl rfl (R_lenPl rfl hs rfl) ?_; refine HL_r rfl rfl rfl rfl (R_move rfl) ?_; refine HL_nil ?_; refine HQ_then ?_; refine hK1 _ _ _ _ ?_; clear hK1 K1; refine HC_block ?_; refine HC_loop (σ := Nat) (fun i => i ≤ items.length) (fun i => [(0, .func (.yield q) #[] #[]), (1, .pointer (some ⟨rv, 0, none⟩)), (2, .pointer (some ⟨rt, 0, none⟩)), (8, plV items.length pi), (9, .int .i64 (items.length : Int)), (10, .int .i64 (i : Int))]) (fun _ => []) (fun i => XI i) (fun i => items.length - i) 0 (Nat.zero_le _) (.cons rfl (.cons rfl (.cons rfl (.cons rfl (.cons rfl (.cons rfl .nil)))))) (List.nil_sublist _) (fun _ _ h => h) ?_; intro i hi; refine HC_seq fun K2 hK2 => ?_; refine HC_region ?_; refine HL_r rfl rfl rfl rfl (R_pure rfl rfl rfl) ?_; refine HL_nil ?_; refine HQ_then ?_; refine hK2 _ _ _ _ ?_; clear hK2 K2; refine HC_seq fun K3 hK3 => ?_; refine HC_cond rfl (fun h4 => ?_) (fun h4 => ?_)
  · try exact Bool.noConfusion h4
    try simp only [Z1, Z2, Z3, Z4, Z5, Z6, Z7, Z8, Z9, Z10, Z11, Z12, Z13] at h4
    refine HC_skip ?_; refine HQ_then ?_; refine hK3 _ _ _ _ ?_; clear hK3 K3; refine HC_seq fun K5 hK5 => ?_; refine HC_block ?_; refine HC_seq fun K6 hK6 => ?_
    have hil : i < items.length := by omega
    have hix := itm_get hil
    have hty := inTy_get (hx i hil)
    refine HC_region ?_; refine HL_r rfl rfl rfl rfl (R_move rfl) ?_; refine HL_r rfl rfl rfl rfl (R_indexPl (j := i) rfl hs rfl rfl rfl rfl (by omega)) ?_; refine HL_r rfl rfl rfl rfl (R_loadVl (fun q hq => Or.inr hq) rfl hs hix.1 rfl rfl) ?_; refine HL_alloc (cs := #[_, _, _, _, _, _, _]) rfl rfl rfl rfl fun r1 => ?_; refine HL_r rfl rfl rfl rfl (R_assign rfl) ?_; refine HL_storeArr (k := 0) (n := 7) (ys := (itm items i).cells) rfl rfl rfl rfl rfl (itm items i).len rfl (itm items i).one rfl ?_; refine HL_nil ?_; refine HQ_then ?_; refine hK6 _ _ _ _ ?_; clear hK6 K6; refine HC_seq fun K7 hK7 => ?_; refine HC_region ?_; refine HL_r rfl rfl rfl rfl (R_assign rfl) ?_; refine HL_nil ?_; refine HQ_then ?_; refine hK7 _ _ _ _ ?_; clear hK7 K7; refine HC_seq fun K8 hK8 => ?_; refine HC_seq fun K9 hK9 => ?_; refine HC_region ?_
    refine HL_r rfl rfl rfl rfl (R_fieldAddr rfl rfl (by first | (simp only [Nat.zero_add, Nat.reduceAdd, Nat.reduceMul, Nat.zero_mul, Nat.mul_one, Nat.add_zero]; exact rfl) | exact rfl)) ?_; refine HL_r rfl rfl rfl rfl (R_load rfl (known_R (k := 1) rfl) rfl rfl) ?_; refine HL_nil ?_; refine HQ_then ?_; refine hK9 _ _ _ _ ?_; clear hK9 K9; refine HC_block ?_; refine HC_seq fun K10 hK10 => ?_; refine HC_region ?_; refine HL_r rfl rfl rfl rfl (R_pure rfl rfl rfl) ?_; refine HL_r rfl rfl rfl rfl (R_assign rfl) ?_; refine HL_nil ?_; refine HQ_then ?_; refine hK10 _ _ _ _ ?_; clear hK10 K10; refine HC_cond rfl (fun h11 => ?_) (fun h11 => ?_)
    · try exact Bool.noConfusion h11
      try simp only [Z1, Z2, Z3, Z4, Z5, Z6, Z7, Z8, Z9, Z10, Z11, Z12, Z13] at h11
      refine HC_region ?_; refine HL_r rfl rfl rfl rfl (R_move rfl) ?_; refine HL_r rfl rfl rfl rfl (R_assign rfl) ?_; refine HL_nil ?_; refine HQ_blockN ?_; refine HQ_then ?_; refine hK8 _ _ _ _ ?_; clear hK8 K8; refine HC_seq fun K12 hK12 => ?_; refine HC_draw 7 (by kernel_rfl) (by kernel_rfl) ?_; refine HD_r rfl rfl rfl (R_move rfl) ?_
      refine HD_r rfl rfl rfl (R_fieldAddr rfl rfl (by first | (simp only [Nat.zero_add, Nat.reduceAdd, Nat.reduceMul, Nat.zero_mul, Nat.mul_one, Nat.add_zero]; exact rfl) | exact rfl)) ?_; refine HD_r rfl rfl rfl (R_load rfl (known_R (k := 1) rfl) rfl rfl) ?_; refine HD_r rfl rfl rfl (R_move rfl) ?_
      refine HD_r rfl rfl rfl (R_indexPl (j := inX k pick i) rfl hst rfl rfl rfl (by unfold inX; first | (rw [if_pos (by assumption)]) | (rw [if_neg (by assumption), if_pos (by assumption)]; have := hp8 (by assumption); omega) | (rw [if_neg (by assumption), if_neg (by assumption)]; rfl)) (hx i hil)) ?_; refine HD_r rfl rfl rfl (R_loadTy (fun q hq => Or.inr hq) rfl hst hty.1 rfl rfl) ?_; refine HD_r rfl rfl rfl (R_loadArr (xs := (itm items i).cells) (n := 7) rfl (known_L (k := 0) rfl) rfl rfl (itm items i).len) ?_; refine HD_end ?_; refine HL_yield (XT := XI (i + 1)) (XF := XF) rfl rfl rfl rfl (hY i (wVals k pick ins items i) (i + 1) ⟨hil, rfl, rfl⟩) ?_ ?_
      all_goals refine HL_r rfl rfl rfl rfl (R_pure rfl rfl rfl) ?_
      all_goals refine HL_nil ?_
      all_goals (
       refine HQ_then ?_; refine hK12 _ _ _ _ ?_; clear hK12 K12; refine HC_cond rfl (fun h13 => ?_) (fun h13 => ?_)
       · try exact Bool.noConfusion h13
         all_goals try simp only [Z1, Z2, Z3, Z4, Z5, Z6, Z7, Z8, Z9, Z10, Z11, Z12, Z13] at h13
         all_goals (
          refine HC_ret ?_; refine HQ_blockR ?_; refine HQ_thenR ?_; clear hK5 K5; refine HQ_thenR ?_; refine HQ_blockR ?_; refine HQ_post rfl rfl .nil (fun w1 hs1 => ?_)
          obtain ⟨xs1, hx1⟩ := hs1.now
          exact ⟨⟨_, rfl⟩, hs1.keep, .inr ⟨_, hx1⟩⟩
          skip)
       · try exact Bool.noConfusion h13
         all_goals try simp only [Z1, Z2, Z3, Z4, Z5, Z6, Z7, Z8, Z9, Z10, Z11, Z12, Z13] at h13
         all_goals (
          refine HC_skip ?_; refine HQ_blockN ?_; refine HQ_then ?_; refine hK5 _ _ _ _ ?_; clear hK5 K5; refine HC_region ?_; refine HL_r rfl rfl rfl rfl (R_pure rfl rfl rfl) ?_; refine HL_wrap_i64 (by omega) (by omega) ?_; refine HL_r rfl rfl rfl rfl (R_move rfl) ?_; refine HL_nil ?_; refine HQ_then ?_; exact HQ_again (i + 1) (by omega) (by omega) (.cons rfl (.cons rfl (.cons rfl (.cons rfl (.cons rfl (.cons rfl .nil)))))) (List.nil_sublist _) (fun _ _ h => h)
          skip)
       skip)
    · try exact Bool.noConfusion h11
      try simp only [Z1, Z2, Z3, Z4, Z5, Z6, Z7, Z8, Z9, Z10, Z11, Z12, Z13] at h11
      refine HC_seq fun K14 hK14 => ?_; refine HC_region ?_; refine HL_r rfl rfl rfl rfl (R_pure rfl rfl rfl) ?_; refine HL_r rfl rfl rfl rfl (R_assign rfl) ?_; refine HL_nil ?_; refine HQ_then ?_; refine hK14 _ _ _ _ ?_; clear hK14 K14; refine HC_cond rfl (fun h15 => ?_) (fun h15 => ?_)
      · try exact Bool.noConfusion h15
        try simp only [Z1, Z2, Z3, Z4, Z5, Z6, Z7, Z8, Z9, Z10, Z11, Z12, Z13] at h15
        refine HC_region ?_
        refine HL_r rfl rfl rfl rfl (R_fieldAddr rfl rfl (by first | (simp only [Nat.zero_add, Nat.reduceAdd, Nat.reduceMul, Nat.zero_mul, Nat.mul_one, Nat.add_zero]; exact rfl) | exact rfl)) ?_; refine HL_r rfl rfl rfl rfl (R_load rfl (known_R (k := 0) rfl) rfl rfl) ?_; refine HL_r rfl rfl rfl rfl (R_assign rfl) ?_; refine HL_nil ?_; refine HQ_blockN ?_; refine HQ_then ?_; refine hK8 _ _ _ _ ?_; clear hK8 K8; refine HC_seq fun K16 hK16 => ?_; refine HC_draw 7 (by kernel_rfl) (by kernel_rfl) ?_; refine HD_r rfl rfl rfl (R_move rfl) ?_
        refine HD_r rfl rfl rfl (R_fieldAddr rfl rfl (by first | (simp only [Nat.zero_add, Nat.reduceAdd, Nat.reduceMul, Nat.zero_mul, Nat.mul_one, Nat.add_zero]; exact rfl) | exact rfl)) ?_; refine HD_r rfl rfl rfl (R_load rfl (known_R (k := 1) rfl) rfl rfl) ?_; refine HD_r rfl rfl rfl (R_move rfl) ?_
        refine HD_r rfl rfl rfl (R_indexPl (j := inX k pick i) rfl hst rfl rfl rfl (by unfold inX; first | (rw [if_pos (by assumption)]) | (rw [if_neg (by assumption), if_pos (by assumption)]; have := hp8 (by assumption); omega) | (rw [if_neg (by assumption), if_neg (by assumption)]; rfl)) (hx i hil)) ?_; refine HD_r rfl rfl rfl (R_loadTy (fun q hq => Or.inr hq) rfl hst hty.1 rfl rfl) ?_; refine HD_r rfl rfl rfl (R_loadArr (xs := (itm items i).cells) (n := 7) rfl (known_L (k := 0) rfl) rfl rfl (itm items i).len) ?_; refine HD_end ?_; refine HL_yield (XT := XI (i + 1)) (XF := XF) rfl rfl rfl rfl (hY i (wVals k pick ins items i) (i + 1) ⟨hil, rfl, rfl⟩) ?_ ?_
        all_goals refine HL_r rfl rfl rfl rfl (R_pure rfl rfl rfl) ?_
        all_goals refine HL_nil ?_
        all_goals (
         refine HQ_then ?_; refine hK16 _ _ _ _ ?_; clear hK16 K16; refine HC_cond rfl (fun h17 => ?_) (fun h17 => ?_)
         · try exact Bool.noConfusion h17
           all_goals try simp only [Z1, Z2, Z3, Z4, Z5, Z6, Z7, Z8, Z9, Z10, Z11, Z12, Z13] at h17
           all_goals (
            refine HC_ret ?_; refine HQ_blockR ?_; refine HQ_thenR ?_; clear hK5 K5; refine HQ_thenR ?_; refine HQ_blockR ?_; refine HQ_post rfl rfl .nil (fun w1 hs1 => ?_)
            obtain ⟨xs1, hx1⟩ := hs1.now
            exact ⟨⟨_, rfl⟩, hs1.keep, .inr ⟨_, hx1⟩⟩
            skip)
         · try exact Bool.noConfusion h17
           all_goals try simp only [Z1, Z2, Z3, Z4, Z5, Z6, Z7, Z8, Z9, Z10, Z11, Z12, Z13] at h17
           all_goals (
            refine HC_skip ?_; refine HQ_blockN ?_; refine HQ_then ?_; refine hK5 _ _ _ _ ?_; clear hK5 K5; refine HC_region ?_; refine HL_r rfl rfl rfl rfl (R_pure rfl rfl rfl) ?_; refine HL_wrap_i64 (by omega) (by omega) ?_; refine HL_r rfl rfl rfl rfl (R_move rfl) ?_; refine HL_nil ?_; refine HQ_then ?_; exact HQ_again (i + 1) (by omega) (by omega) (.cons rfl (.cons rfl (.cons rfl (.cons rfl (.cons rfl (.cons rfl .nil)))))) (List.nil_sublist _) (fun _ _ h => h)
            skip)
         skip)
      · try exact Bool.noConfusion h15
        try simp only [Z1, Z2, Z3, Z4, Z5, Z6, Z7, Z8, Z9, Z10, Z11, Z12, Z13] at h15
        refine HC_skip ?_; refine HQ_blockN ?_; refine HQ_then ?_; refine hK8 _ _ _ _ ?_; clear hK8 K8; refine HC_seq fun K18 hK18 => ?_; refine HC_draw 7 (by kernel_rfl) (by kernel_rfl) ?_; refine HD_r rfl rfl rfl (R_move rfl) ?_
        refine HD_r rfl rfl rfl (R_fieldAddr rfl rfl (by first | (simp only [Nat.zero_add, Nat.reduceAdd, Nat.reduceMul, Nat.zero_mul, Nat.mul_one, Nat.add_zero]; exact rfl) | exact rfl)) ?_; refine HD_r rfl rfl rfl (R_load rfl (known_R (k := 1) rfl) rfl rfl) ?_; refine HD_r rfl rfl rfl (R_move rfl) ?_
        refine HD_r rfl rfl rfl (R_indexPl (j := inX k pick i) rfl hst rfl rfl rfl (by unfold inX; first | (rw [if_pos (by assumption)]) | (rw [if_neg (by assumption), if_pos (by assumption)]; have := hp8 (by assumption); omega) | (rw [if_neg (by assumption), if_neg (by assumption)]; rfl)) (hx i hil)) ?_; refine HD_r rfl rfl rfl (R_loadTy (fun q hq => Or.inr hq) rfl hst hty.1 rfl rfl) ?_; refine HD_r rfl rfl rfl (R_loadArr (xs := (itm items i).cells) (n := 7) rfl (known_L (k := 0) rfl) rfl rfl (itm items i).len) ?_; refine HD_end ?_; refine HL_yield (XT := XI (i + 1)) (XF := XF) rfl rfl rfl rfl (hY i (wVals k pick ins items i) (i + 1) ⟨hil, rfl, rfl⟩) ?_ ?_
        all_goals refine HL_r rfl rfl rfl rfl (R_pure rfl rfl rfl) ?_
        all_goals refine HL_nil ?_
        all_goals (
         refine HQ_then ?_; refine hK18 _ _ _ _ ?_; clear hK18 K18; refine HC_cond rfl (fun h19 => ?_) (fun h19 => ?_)
         · try exact Bool.noConfusion h19
           all_goals try simp only [Z1, Z2, Z3, Z4, Z5, Z6, Z7, Z8, Z9, Z10, Z11, Z12, Z13] at h19
           all_goals (
            refine HC_ret ?_; refine HQ_blockR ?_; refine HQ_thenR ?_; clear hK5 K5; refine HQ_thenR ?_; refine HQ_blockR ?_; refine HQ_post rfl rfl .nil (fun w1 hs1 => ?_)
            obtain ⟨xs1, hx1⟩ := hs1.now
            exact ⟨⟨_, rfl⟩, hs1.keep, .inr ⟨_, hx1⟩⟩
            skip)
         · try exact Bool.noConfusion h19
           all_goals try simp only [Z1, Z2, Z3, Z4, Z5, Z6, Z7, Z8, Z9, Z10, Z11, Z12, Z13] at h19
           all_goals (
            refine HC_skip ?_; refine HQ_blockN ?_; refine HQ_then ?_; refine hK5 _ _ _ _ ?_; clear hK5 K5; refine HC_region ?_; refine HL_r rfl rfl rfl rfl (R_pure rfl rfl rfl) ?_; refine HL_wrap_i64 (by omega) (by omega) ?_; refine HL_r rfl rfl rfl rfl (R_move rfl) ?_; refine HL_nil ?_; refine HQ_then ?_; exact HQ_again (i + 1) (by omega) (by omega) (.cons rfl (.cons rfl (.cons rfl (.cons rfl (.cons rfl (.cons rfl .nil)))))) (List.nil_sublist _) (fun _ _ h => h)
            skip)
         skip)
  · try exact Bool.noConfusion h4
    try simp only [Z1, Z2, Z3, Z4, Z5, Z6, Z7, Z8, Z9, Z10, Z11, Z12, Z13] at h4
    refine HC_exit ?_; refine HQ_thenE ?_; clear hK3 K3; refine HQ_thenE ?_; refine HQ_blockE ?_; refine HQ_postN rfl rfl .nil (fun w1 hs1 => ?_)
    obtain ⟨xs1, hx1⟩ := hs1.now
    exact ⟨⟨_, rfl⟩, hs1.keep, .inl ⟨i, _, (by show i = items.length; omega), hx1⟩⟩
theorem fit_ok {a b c d : Nat} {bits : List Bool} {pb : Pl} {items : List Vl} {pi : Pl} {pick k n : Int} {p : Pl} {ins : List Ty} (h1 : ¬ ((k = 4 ∧ n < items.length) ∨ (k = 6 ∧ n < bits.length))) (h2 : ofT k n ins.length (.mk a b c d bits pb items pi pick) = true) : fitT (.mk a b c d bits pb items pi pick) (.mk k n p ins) = fitL items k pick ins 0 := by
  rw [fitT, if_neg h1, if_neg (by rw [h2]; simp)]
set_option maxRecDepth 10000 in
theorem S_fits {R : List (Nat × Obj)} {v : Vl} (hv : v.In R) : ∀ (t : Ty) (dp : Int), t.In R → chk t dp = 0 → PureR Tryz.prog 46 [t.val, v.val].toArray (.int .i64 (fitT v t)) R := by
  have hv0 := hv
  induction hv with
  | @mk a b c d bits pb items pi pick ha hb hc hd hlb hsb hl hs hp hi ih =>
  intro t dp ht hck
  have ht0 := ht
  cases ht with
  | @mk k n p ins hk hn hlt hst hit =>
  obtain ⟨hk8, ho, h6, hci⟩ := chk_mk hck
  have hkk := isK_iff.2 hk8
  have hO := O_all ht0 hv0 hkk
  refine pureR_of_HC Tryz.func46 rfl rfl fun w => ?_; refine HC_seq fun K1 hK1 => ?_; refine HC_region ?_; refine HL_box (cs := #[_, _, _]) rfl rfl rfl rfl fun r1 => ?_; refine HL_box (cs := #[_, _, _, _, _, _, _]) rfl rfl rfl rfl fun r2 => ?_; refine HL_alloc (cs := #[_]) rfl rfl rfl rfl fun r3 => ?_; refine HL_nil ?_; refine HQ_then ?_; refine hK1 _ _ _ _ ?_; clear hK1 K1; refine HC_seq fun K2 hK2 => ?_; refine HC_block ?_; refine HC_seq fun K3 hK3 => ?_; refine HC_seq fun K4 hK4 => ?_; refine HC_region ?_
  refine HL_r rfl rfl rfl rfl (R_fieldAddr rfl rfl (by first | (simp only [Nat.zero_add, Nat.reduceAdd, Nat.reduceMul, Nat.zero_mul, Nat.mul_one, Nat.add_zero]; exact rfl) | exact rfl)) ?_; refine HL_r rfl rfl rfl rfl (R_load rfl (known_L (k := 2) rfl) rfl rfl) ?_; refine HL_r rfl rfl rfl rfl (R_pure rfl rfl rfl) ?_; refine HL_r rfl rfl rfl rfl (R_move rfl) ?_
  refine HL_case 12 rfl (fun hb5 => ?_) (fun hb5 => ?_) <;> (try simp only [Z1, Z2, Z3, Z4, Z5, Z6, Z7, Z8, Z9, Z10, Z11, Z12, Z13] at hb5) <;> first | (refine HL_r rfl rfl rfl rfl (R_fieldAddr rfl rfl (by first | (simp only [Nat.zero_add, Nat.reduceAdd, Nat.reduceMul, Nat.zero_mul, Nat.mul_one, Nat.add_zero]; exact rfl) | exact rfl)) ?_) | (refine HL_skip rfl rfl rfl ?_)
  all_goals first
    | (refine HL_r rfl rfl rfl rfl (R_load rfl (known_L (k := 1) rfl) rfl rfl) ?_)
    | (refine HL_skip rfl rfl rfl ?_)
  all_goals first
    | (refine HL_r rfl rfl rfl rfl (R_lenPl rfl hs rfl) ?_)
    | (refine HL_skip rfl rfl rfl ?_)
  all_goals first
    | (refine HL_r rfl rfl rfl rfl (R_fieldAddr rfl rfl (by first | (simp only [Nat.zero_add, Nat.reduceAdd, Nat.reduceMul, Nat.zero_mul, Nat.mul_one, Nat.add_zero]; exact rfl) | exact rfl)) ?_)
    | (refine HL_skip rfl rfl rfl ?_)
  all_goals first
    | (refine HL_r rfl rfl rfl rfl (R_load rfl (known_L (k := 2) rfl) rfl rfl) ?_)
    | (refine HL_skip rfl rfl rfl ?_)
  all_goals first
    | (refine HL_r rfl rfl rfl rfl (R_pure rfl rfl rfl) ?_)
    | (refine HL_skip rfl rfl rfl ?_)
  all_goals first
    | (refine HL_r rfl rfl rfl rfl (R_pickT rfl rfl) ?_)
    | (refine HL_r rfl rfl rfl rfl (R_pickF rfl rfl) ?_)
  all_goals refine HL_r rfl rfl rfl rfl (R_assign rfl) ?_
  all_goals refine HL_nil ?_
  all_goals (
   refine HQ_then ?_; refine hK4 _ _ _ _ ?_; clear hK4 K4; refine HC_cond rfl (fun h11 => ?_) (fun h11 => ?_)
   · try exact Bool.noConfusion h11
     all_goals try simp only [Z1, Z2, Z3, Z4, Z5, Z6, Z7, Z8, Z9, Z10, Z11, Z12, Z13] at h11
     all_goals (
      refine HC_skip ?_; refine HQ_then ?_; refine hK3 _ _ _ _ ?_; clear hK3 K3; refine HC_cond rfl (fun h12 => ?_) (fun h12 => ?_)
      · try exact Bool.noConfusion h12
        try simp only [Z1, Z2, Z3, Z4, Z5, Z6, Z7, Z8, Z9, Z10, Z11, Z12, Z13] at h12
        refine HC_seq fun K13 hK13 => ?_; refine HC_region ?_
        refine HL_store (k := 0) rfl rfl rfl rfl rfl rfl rfl rfl (by first | (simp only [List.setIfInBounds_toArray, List.set_cons_zero, List.set_cons_succ]; exact rfl) | exact rfl) (by first | (simp only [List.set_cons_zero, List.set_cons_succ]; exact rfl) | exact rfl) ?_; refine HL_nil ?_; refine HQ_then ?_; refine hK13 _ _ _ _ ?_; clear hK13 K13; refine HC_ret ?_; refine HQ_blockR ?_; refine HQ_thenR ?_; clear hK2 K2
        first
          | (refine HQ_mark (k := 0) rfl rfl ?_
             refine HQ_post rfl rfl (.cons (res_cell rfl (known_L (k := 1) rfl) rfl rfl) .nil) (fun w1 hs1 => ?_)
             first | exact ⟨by rw [hfo, ← he]; rfl, hs1.keep⟩ | exact ⟨by rw [hfo, hz]; rfl, hs1.keep⟩)
          | (refine HQ_post rfl rfl (.cons (res_cell rfl (known_L (k := 0) rfl) rfl rfl) .nil) (fun w1 hs1 => ?_)
             first | exact ⟨by rw [fitT, if_pos (by omega)]; rfl, hs1.keep⟩ | exact ⟨by rw [fitT, if_neg (by omega), if_pos (by assumption)]; rfl, hs1.keep⟩)
          | (refine HQ_post rfl rfl (.cons (res_cell rfl (known_L (k := 1) rfl) rfl rfl) .nil) (fun w1 hs1 => ?_)
             first | exact ⟨by rw [fitT, if_pos (by omega)]; rfl, hs1.keep⟩ | exact ⟨by rw [fitT, if_neg (by omega), if_pos (by assumption)]; rfl, hs1.keep⟩)
      · try exact Bool.noConfusion h12
        try simp only [Z1, Z2, Z3, Z4, Z5, Z6, Z7, Z8, Z9, Z10, Z11, Z12, Z13] at h12
        refine HC_seq fun K14 hK14 => ?_
        refine HC_drawB [] [(0, .grow (geCall 0 (fun r : Nat => Value.map (some r)) (fun r => [(r, kObj)]))), (1, .pure), (4, .pure), (8, .pure), (9, .pure)] 10 [1, 2, 5, 6, 0, 3, 4, 7, 8, 9] (by kernel_rfl) (by kernel_rfl) (by first | exact (fun _ h => nomatch h) | simp [SubS] | (intro p hp; simp [hp])) ?_
        refine HB_p (k := 1) rfl rfl rfl rfl rfl (fun _ hS => (R_fieldAddr rfl rfl (by first | (simp only [Nat.zero_add, Nat.reduceAdd, Nat.reduceMul, Nat.zero_mul, Nat.mul_one, Nat.add_zero]; exact rfl) | exact rfl))) ?_; refine HB_r (k := 2) rfl rfl rfl rfl rfl (R_load rfl (known_L (k := 2) rfl) rfl rfl) ?_; refine HB_r (k := 5) rfl rfl rfl rfl rfl (R_loadA (vs := [_, _, _]) rfl (known_L (k := 2) rfl) rfl rfl rfl rfl) ?_; refine HB_r (k := 6) rfl rfl rfl rfl rfl (R_loadA (vs := [_, _, _, _, _, _, _]) rfl (known_L (k := 1) rfl) rfl rfl rfl rfl) ?_; refine HB_callPE (k := 0) rfl rfl rfl rfl rfl (enters_of Tryz.func91 (by kernel_rfl) rfl) E_kinds fun mr => ?_; refine HB_r (k := 3) rfl rfl rfl rfl rfl (R_lookup (keyI (t := 3) (by kernel_rfl)) rfl rfl (known_L (k := 0) rfl) rfl rfl ⟨_, rfl⟩ kMap_dom (kMap_val0 hkk)) ?_; refine HB_p (k := 4) rfl rfl rfl rfl rfl (fun _ hS => (R_pure rfl rfl rfl)) ?_; refine HB_as (fnV_t hkk) ?_; refine HB_callR (k := 7) rfl rfl rfl rfl rfl hO.1 hO.2 (fun q hq => Or.inr hq) ?_; refine HB_p (k := 8) rfl rfl rfl rfl rfl (fun _ hS => (R_pure rfl rfl rfl)) ?_; refine HB_p (k := 9) rfl rfl rfl rfl rfl (fun _ hS => (R_assign rfl)) ?_; refine HB_end ?_; refine HL_nil ?_; refine HQ_then ?_; refine hK14 _ _ _ _ ?_; clear hK14 K14; refine HC_cond rfl (fun h15 => ?_) (fun h15 => ?_)
        · try exact Bool.noConfusion h15
          try simp only [Z1, Z2, Z3, Z4, Z5, Z6, Z7, Z8, Z9, Z10, Z11, Z12, Z13] at h15
          refine HC_seq fun K16 hK16 => ?_; refine HC_region ?_
          refine HL_store (k := 1) rfl rfl rfl rfl rfl rfl rfl rfl (by first | (simp only [List.setIfInBounds_toArray, List.set_cons_zero, List.set_cons_succ]; exact rfl) | exact rfl) (by first | (simp only [List.set_cons_zero, List.set_cons_succ]; exact rfl) | exact rfl) ?_; refine HL_nil ?_; refine HQ_then ?_; refine hK16 _ _ _ _ ?_; clear hK16 K16; refine HC_ret ?_; refine HQ_blockR ?_; refine HQ_thenR ?_; clear hK2 K2
          (refine HQ_post rfl rfl (.cons (res_cell rfl (known_L (k := 1) rfl) rfl rfl) .nil) (fun w1 hs1 => ?_)
           first | exact ⟨by rw [fitT, if_pos (by omega)]; rfl, hs1.keep⟩ | exact ⟨by rw [fitT, if_neg (by omega), if_pos (by assumption)]; rfl, hs1.keep⟩)
        · try exact Bool.noConfusion h15
          try simp only [Z1, Z2, Z3, Z4, Z5, Z6, Z7, Z8, Z9, Z10, Z11, Z12, Z13] at h15
          refine HC_skip ?_; refine HQ_blockN ?_; refine HQ_then ?_; refine hK2 _ _ _ _ ?_; clear hK2 K2; refine HC_seq fun K17 hK17 => ?_; refine HC_seq fun K18 hK18 => ?_
          have hfo := fit_ok (a := a) (b := b) (c := c) (d := d) (pb := pb) (pi := pi) (p := p) (show ¬ ((k = 4 ∧ n < items.length) ∨ (k = 6 ∧ n < bits.length)) by omega) (by assumption)
          have hxl : ∀ i, i < items.length → inX k pick i < ins.length := fun i hi => inX_lt (v := .mk a b c d bits pb items pi pick) hck (by assumption) hi
          have hp8 : k = 8 → 0 ≤ pick := fun h => by subst h; exact ofT_8 (v := .mk a b c d bits pb items pi pick) (by assumption)
          refine HC_region ?_; refine HL_r rfl rfl rfl rfl (R_loadA (vs := [_, _, _]) rfl (known_L (k := 3) rfl) rfl rfl rfl rfl) ?_; refine HL_r rfl rfl rfl rfl (R_loadA (vs := [_, _, _, _, _, _, _]) rfl (known_L (k := 2) rfl) rfl rfl rfl rfl) ?_; refine HL_callPE rfl rfl rfl (enters_of Tryz.func92 (by kernel_rfl) rfl) (E_within (.mk k n p ins) (.mk a b c d bits pb items pi pick)) fun pp => ?_
          obtain ⟨rt, rv⟩ := pp
          change HL _ _ _ (vBlk rv (.mk a b c d bits pb items pi pick) :: tBlk rt (.mk k n p ins) :: _) _ _ _ _; refine HL_nil ?_; refine HQ_then ?_; refine hK18 _ _ _ _ ?_; clear hK18 K18; refine HC_block ?_; refine HC_sel [3, 0, 1, 2, 4, 5] (L' := [_, _, _, _, _, _]) (by decide) rfl ?_
          refine HC_rangeR (τ := Int) (fun i (_ : Unit) => i ≤ items.length ∧ fitL (items.drop i) k pick ins i = fitL items k pick ins 0) (fun _ => [(r3, .cells #[.int .i64 (0)] 34 (0, 0))]) (fun j e => j = .ret ∧ e = fitL items k pick ins 0) (fun e => [(r3, .cells #[.int .i64 (e)] 34 (0, 0))]) [vBlk rv (.mk a b c d bits pb items pi pick), tBlk rt (.mk k n p ins), _, _, _] () rfl rfl (enters_of Tryz.func173 (by kernel_rfl) rfl) (I_within (n := n) (a := a) (b := b) (c := c) (d := d) (bits := bits) (pb := pb) hl hlt hs hst hxl hp8 rt rv) (by rintro _ _ _ ⟨_, rfl, _⟩; rfl) rfl (fun q hq => by rcases List.mem_cons.1 hq with rfl | hq; exact .inl (by simp); rcases List.mem_cons.1 hq with rfl | hq; exact .inl (by simp); exact .inr hq) rfl ⟨Nat.zero_le _, rfl⟩ ?_ ?_ ?_
          · rintro q Xr Xb w3 i _ _ ⟨⟩ ⟨hii, rfl, rfl⟩ ⟨hil, hinv⟩ Kr hKr
            have hix := itm_get hii
            have hty := inTy_get (hxl i hii)
            rw [dropI hix.1, fitL] at hinv
            unfold wVals
            refine HC_seq fun K19 hK19 => ?_; refine HC_region ?_; refine HL_alloc (cs := #[_, _, _]) rfl rfl rfl rfl fun r4 => ?_; refine HL_storeArr (k := 0) (n := 3) (ys := (inTy k pick ins i).cells) rfl rfl rfl rfl rfl (inTy k pick ins i).len rfl (inTy k pick ins i).one rfl ?_; refine HL_nil ?_; refine HQ_then ?_; refine hK19 _ _ _ _ ?_; clear hK19 K19; refine HC_region ?_; refine HL_alloc (cs := #[_, _, _, _, _, _, _]) rfl rfl rfl rfl fun r5 => ?_; refine HL_storeArr (k := 0) (n := 7) (ys := (itm items i).cells) rfl rfl rfl rfl rfl (itm items i).len rfl (itm items i).one rfl ?_; refine HL_nil ?_; refine HQ_then ?_; refine hKr _ _ ?_; clear hKr; refine HC_block ?_; refine HC_seq fun K20 hK20 => ?_; refine HC_region ?_; refine HL_r rfl rfl rfl rfl (R_loadArr (xs := (inTy k pick ins i).cells) (n := 3) rfl (known_L (k := 1) rfl) rfl rfl (inTy k pick ins i).len) ?_; refine HL_r rfl rfl rfl rfl (R_loadArr (xs := (itm items i).cells) (n := 7) rfl (known_L (k := 0) rfl) rfl rfl (itm items i).len) ?_; refine HL_callR rfl rfl rfl (enters_of Tryz.func46 (by kernel_rfl) rfl) (ih _ hix.2 (hi _ hix.2) _ (dp + 1) (hit _ hty.2) (hci _ hty.2)) (fun q hq => Or.inr (List.mem_append_right _ hq)) ?_; refine HL_r rfl rfl rfl rfl (R_assign rfl) ?_; refine HL_nil ?_; refine HQ_then ?_; refine hK20 _ _ _ _ ?_; clear hK20 K20; refine HC_seq fun K21 hK21 => ?_; refine HC_region ?_; refine HL_r rfl rfl rfl rfl (R_move rfl) ?_; refine HL_r rfl rfl rfl rfl (R_pure rfl rfl rfl) ?_; refine HL_nil ?_; refine HQ_then ?_; refine hK21 _ _ _ _ ?_; clear hK21 K21; refine HC_cond rfl (fun h22 => ?_) (fun h22 => ?_)
            · try exact Bool.noConfusion h22
              try simp only [Z1, Z2, Z3, Z4, Z5, Z6, Z7, Z8, Z9, Z10, Z11, Z12, Z13] at h22
              refine HC_seq fun K23 hK23 => ?_; refine HC_region ?_; refine HL_r rfl rfl rfl rfl (R_move rfl) ?_
              refine HL_store (k := 2) rfl rfl rfl rfl rfl rfl rfl rfl (by first | (simp only [List.setIfInBounds_toArray, List.set_cons_zero, List.set_cons_succ]; exact rfl) | exact rfl) (by first | (simp only [List.set_cons_zero, List.set_cons_succ]; exact rfl) | exact rfl) ?_; refine HL_nil ?_; refine HQ_then ?_; refine hK23 _ _ _ _ ?_; clear hK23 K23; refine HC_ret ?_; refine HQ_blockR ?_; refine HQ_sel [2] (L' := [_]) (by decide) rfl ?_; refine HQ_roundR (fitT (itm items i) (inTy k pick ins i)) ⟨rfl, by rw [if_neg (by assumption)] at hinv; exact hinv⟩ rfl
            · try exact Bool.noConfusion h22
              try simp only [Z1, Z2, Z3, Z4, Z5, Z6, Z7, Z8, Z9, Z10, Z11, Z12, Z13] at h22
              refine HC_skip ?_; refine HQ_blockN ?_; refine HQ_sel [2] (L' := [_]) (by decide) rfl ?_; refine HQ_round () ⟨by omega, by rw [if_pos (by assumption)] at hinv; exact hinv⟩ rfl
          · rintro D i ⟨⟩ hfi ⟨hil, hinv⟩
            have hin : i = items.length := hfi
            have hz : fitL items k pick ins 0 = 0 := by rw [← hinv, hin, List.drop_length, fitL]
            refine HQ_blockN ?_; refine HQ_then ?_; refine hK17 _ _ _ _ ?_; clear hK17 K17; refine HC_seq fun K24 hK24 => ?_; refine HC_region ?_
            refine HL_store (k := 1) rfl rfl rfl rfl rfl rfl rfl rfl (by first | (simp only [List.setIfInBounds_toArray, List.set_cons_zero, List.set_cons_succ]; exact rfl) | exact rfl) (by first | (simp only [List.set_cons_zero, List.set_cons_succ]; exact rfl) | exact rfl) ?_; refine HL_nil ?_; refine HQ_then ?_; refine hK24 _ _ _ _ ?_; clear hK24 K24; refine HC_ret ?_
            (refine HQ_mark (k := 0) rfl rfl ?_
             refine HQ_post rfl rfl (.cons (res_cell rfl (known_L (k := 1) rfl) rfl rfl) .nil) (fun w1 hs1 => ?_)
             first | exact ⟨by rw [hfo, ← he]; rfl, hs1.keep⟩ | exact ⟨by rw [hfo, hz]; rfl, hs1.keep⟩)
          · rintro D j e ⟨rfl, he⟩
            refine HC_ret ?_; refine HQ_blockR ?_; refine HQ_thenR ?_; clear hK17 K17
            first
              | (refine HQ_mark (k := 0) rfl rfl ?_
                 refine HQ_post rfl rfl (.cons (res_cell rfl (known_L (k := 1) rfl) rfl rfl) .nil) (fun w1 hs1 => ?_)
                 first | exact ⟨by rw [hfo, ← he]; rfl, hs1.keep⟩ | exact ⟨by rw [hfo, hz]; rfl, hs1.keep⟩)
              | (refine HQ_post rfl rfl (.cons (res_cell rfl (known_L (k := 0) rfl) rfl rfl) .nil) (fun w1 hs1 => ?_)
                 first | exact ⟨by rw [fitT, if_pos (by omega)]; rfl, hs1.keep⟩ | exact ⟨by rw [fitT, if_neg (by omega), if_pos (by assumption)]; rfl, hs1.keep⟩)
              | (refine HQ_post rfl rfl (.cons (res_cell rfl (known_L (k := 1) rfl) rfl rfl) .nil) (fun w1 hs1 => ?_)
                 first | exact ⟨by rw [fitT, if_pos (by omega)]; rfl, hs1.keep⟩ | exact ⟨by rw [fitT, if_neg (by omega), if_pos (by assumption)]; rfl, hs1.keep⟩)
      skip)
   · try exact Bool.noConfusion h11
     try simp only [Z1, Z2, Z3, Z4, Z5, Z6, Z7, Z8, Z9, Z10, Z11, Z12, Z13] at h11
     refine HC_region ?_
     refine HL_r rfl rfl rfl rfl (R_fieldAddr rfl rfl (by first | (simp only [Nat.zero_add, Nat.reduceAdd, Nat.reduceMul, Nat.zero_mul, Nat.mul_one, Nat.add_zero]; exact rfl) | exact rfl)) ?_; refine HL_r rfl rfl rfl rfl (R_load rfl (known_L (k := 2) rfl) rfl rfl) ?_; refine HL_r rfl rfl rfl rfl (R_pure rfl rfl rfl) ?_; refine HL_r rfl rfl rfl rfl (R_move rfl) ?_
     refine HL_case 23 rfl (fun hb25 => ?_) (fun hb25 => ?_) <;> (try simp only [Z1, Z2, Z3, Z4, Z5, Z6, Z7, Z8, Z9, Z10, Z11, Z12, Z13] at hb25) <;> first | (refine HL_r rfl rfl rfl rfl (R_fieldAddr rfl rfl (by first | (simp only [Nat.zero_add, Nat.reduceAdd, Nat.reduceMul, Nat.zero_mul, Nat.mul_one, Nat.add_zero]; exact rfl) | exact rfl)) ?_) | (refine HL_skip rfl rfl rfl ?_)
     all_goals first
       | (refine HL_r rfl rfl rfl rfl (R_load rfl (known_L (k := 1) rfl) rfl rfl) ?_)
       | (refine HL_skip rfl rfl rfl ?_)
     all_goals first
       | (refine HL_r rfl rfl rfl rfl (R_lenPl rfl hsb rfl) ?_)
       | (refine HL_skip rfl rfl rfl ?_)
     all_goals first
       | (refine HL_r rfl rfl rfl rfl (R_fieldAddr rfl rfl (by first | (simp only [Nat.zero_add, Nat.reduceAdd, Nat.reduceMul, Nat.zero_mul, Nat.mul_one, Nat.add_zero]; exact rfl) | exact rfl)) ?_)
       | (refine HL_skip rfl rfl rfl ?_)
     all_goals first
       | (refine HL_r rfl rfl rfl rfl (R_load rfl (known_L (k := 2) rfl) rfl rfl) ?_)
       | (refine HL_skip rfl rfl rfl ?_)
     all_goals first
       | (refine HL_r rfl rfl rfl rfl (R_pure rfl rfl rfl) ?_)
       | (refine HL_skip rfl rfl rfl ?_)
     all_goals first
       | (refine HL_r rfl rfl rfl rfl (R_pickT rfl rfl) ?_)
       | (refine HL_r rfl rfl rfl rfl (R_pickF rfl rfl) ?_)
     all_goals refine HL_r rfl rfl rfl rfl (R_assign rfl) ?_
     all_goals refine HL_nil ?_
     all_goals (
      refine HQ_then ?_; refine hK3 _ _ _ _ ?_; clear hK3 K3; refine HC_cond rfl (fun h31 => ?_) (fun h31 => ?_)
      · try exact Bool.noConfusion h31
        all_goals try simp only [Z1, Z2, Z3, Z4, Z5, Z6, Z7, Z8, Z9, Z10, Z11, Z12, Z13] at h31
        all_goals (
         refine HC_seq fun K32 hK32 => ?_; refine HC_region ?_
         refine HL_store (k := 0) rfl rfl rfl rfl rfl rfl rfl rfl (by first | (simp only [List.setIfInBounds_toArray, List.set_cons_zero, List.set_cons_succ]; exact rfl) | exact rfl) (by first | (simp only [List.set_cons_zero, List.set_cons_succ]; exact rfl) | exact rfl) ?_; refine HL_nil ?_; refine HQ_then ?_; refine hK32 _ _ _ _ ?_; clear hK32 K32; refine HC_ret ?_; refine HQ_blockR ?_; refine HQ_thenR ?_; clear hK2 K2
         first
           | (refine HQ_mark (k := 0) rfl rfl ?_
              refine HQ_post rfl rfl (.cons (res_cell rfl (known_L (k := 1) rfl) rfl rfl) .nil) (fun w1 hs1 => ?_)
              first | exact ⟨by rw [hfo, ← he]; rfl, hs1.keep⟩ | exact ⟨by rw [hfo, hz]; rfl, hs1.keep⟩)
           | (refine HQ_post rfl rfl (.cons (res_cell rfl (known_L (k := 0) rfl) rfl rfl) .nil) (fun w1 hs1 => ?_)
              first | exact ⟨by rw [fitT, if_pos (by omega)]; rfl, hs1.keep⟩ | exact ⟨by rw [fitT, if_neg (by omega), if_pos (by assumption)]; rfl, hs1.keep⟩)
           | (refine HQ_post rfl rfl (.cons (res_cell rfl (known_L (k := 1) rfl) rfl rfl) .nil) (fun w1 hs1 => ?_)
              first | exact ⟨by rw [fitT, if_pos (by omega)]; rfl, hs1.keep⟩ | exact ⟨by rw [fitT, if_neg (by omega), if_pos (by assumption)]; rfl, hs1.keep⟩)
         skip)
      · try exact Bool.noConfusion h31
        try simp only [Z1, Z2, Z3, Z4, Z5, Z6, Z7, Z8, Z9, Z10, Z11, Z12, Z13] at h31
        refine HC_seq fun K33 hK33 => ?_
        refine HC_drawB [] [(0, .grow (geCall 0 (fun r : Nat => Value.map (some r)) (fun r => [(r, kObj)]))), (1, .pure), (4, .pure), (8, .pure), (9, .pure)] 10 [1, 2, 5, 6, 0, 3, 4, 7, 8, 9] (by kernel_rfl) (by kernel_rfl) (by first | exact (fun _ h => nomatch h) | simp [SubS] | (intro p hp; simp [hp])) ?_
        refine HB_p (k := 1) rfl rfl rfl rfl rfl (fun _ hS => (R_fieldAddr rfl rfl (by first | (simp only [Nat.zero_add, Nat.reduceAdd, Nat.reduceMul, Nat.zero_mul, Nat.mul_one, Nat.add_zero]; exact rfl) | exact rfl))) ?_; refine HB_r (k := 2) rfl rfl rfl rfl rfl (R_load rfl (known_L (k := 2) rfl) rfl rfl) ?_; refine HB_r (k := 5) rfl rfl rfl rfl rfl (R_loadA (vs := [_, _, _]) rfl (known_L (k := 2) rfl) rfl rfl rfl rfl) ?_; refine HB_r (k := 6) rfl rfl rfl rfl rfl (R_loadA (vs := [_, _, _, _, _, _, _]) rfl (known_L (k := 1) rfl) rfl rfl rfl rfl) ?_; refine HB_callPE (k := 0) rfl rfl rfl rfl rfl (enters_of Tryz.func91 (by kernel_rfl) rfl) E_kinds fun mr => ?_; refine HB_r (k := 3) rfl rfl rfl rfl rfl (R_lookup (keyI (t := 3) (by kernel_rfl)) rfl rfl (known_L (k := 0) rfl) rfl rfl ⟨_, rfl⟩ kMap_dom (kMap_val0 hkk)) ?_; refine HB_p (k := 4) rfl rfl rfl rfl rfl (fun _ hS => (R_pure rfl rfl rfl)) ?_; refine HB_as (fnV_t hkk) ?_; refine HB_callR (k := 7) rfl rfl rfl rfl rfl hO.1 hO.2 (fun q hq => Or.inr hq) ?_; refine HB_p (k := 8) rfl rfl rfl rfl rfl (fun _ hS => (R_pure rfl rfl rfl)) ?_; refine HB_p (k := 9) rfl rfl rfl rfl rfl (fun _ hS => (R_assign rfl)) ?_; refine HB_end ?_; refine HL_nil ?_; refine HQ_then ?_; refine hK33 _ _ _ _ ?_; clear hK33 K33; refine HC_cond rfl (fun h34 => ?_) (fun h34 => ?_)
        · try exact Bool.noConfusion h34
          try simp only [Z1, Z2, Z3, Z4, Z5, Z6, Z7, Z8, Z9, Z10, Z11, Z12, Z13] at h34
          refine HC_seq fun K35 hK35 => ?_; refine HC_region ?_
          refine HL_store (k := 1) rfl rfl rfl rfl rfl rfl rfl rfl (by first | (simp only [List.setIfInBounds_toArray, List.set_cons_zero, List.set_cons_succ]; exact rfl) | exact rfl) (by first | (simp only [List.set_cons_zero, List.set_cons_succ]; exact rfl) | exact rfl) ?_; refine HL_nil ?_; refine HQ_then ?_; refine hK35 _ _ _ _ ?_; clear hK35 K35; refine HC_ret ?_; refine HQ_blockR ?_; refine HQ_thenR ?_; clear hK2 K2
          (refine HQ_post rfl rfl (.cons (res_cell rfl (known_L (k := 1) rfl) rfl rfl) .nil) (fun w1 hs1 => ?_)
           first | exact ⟨by rw [fitT, if_pos (by omega)]; rfl, hs1.keep⟩ | exact ⟨by rw [fitT, if_neg (by omega), if_pos (by assumption)]; rfl, hs1.keep⟩)
        · try exact Bool.noConfusion h34
          try simp only [Z1, Z2, Z3, Z4, Z5, Z6, Z7, Z8, Z9, Z10, Z11, Z12, Z13] at h34
          refine HC_skip ?_; refine HQ_blockN ?_; refine HQ_then ?_; refine hK2 _ _ _ _ ?_; clear hK2 K2; refine HC_seq fun K36 hK36 => ?_; refine HC_seq fun K37 hK37 => ?_
          have hfo := fit_ok (a := a) (b := b) (c := c) (d := d) (pb := pb) (pi := pi) (p := p) (show ¬ ((k = 4 ∧ n < items.length) ∨ (k = 6 ∧ n < bits.length)) by omega) (by assumption)
          have hxl : ∀ i, i < items.length → inX k pick i < ins.length := fun i hi => inX_lt (v := .mk a b c d bits pb items pi pick) hck (by assumption) hi
          have hp8 : k = 8 → 0 ≤ pick := fun h => by subst h; exact ofT_8 (v := .mk a b c d bits pb items pi pick) (by assumption)
          refine HC_region ?_; refine HL_r rfl rfl rfl rfl (R_loadA (vs := [_, _, _]) rfl (known_L (k := 3) rfl) rfl rfl rfl rfl) ?_; refine HL_r rfl rfl rfl rfl (R_loadA (vs := [_, _, _, _, _, _, _]) rfl (known_L (k := 2) rfl) rfl rfl rfl rfl) ?_; refine HL_callPE rfl rfl rfl (enters_of Tryz.func92 (by kernel_rfl) rfl) (E_within (.mk k n p ins) (.mk a b c d bits pb items pi pick)) fun pp => ?_
          obtain ⟨rt, rv⟩ := pp
          change HL _ _ _ (vBlk rv (.mk a b c d bits pb items pi pick) :: tBlk rt (.mk k n p ins) :: _) _ _ _ _; refine HL_nil ?_; refine HQ_then ?_; refine hK37 _ _ _ _ ?_; clear hK37 K37; refine HC_block ?_; refine HC_sel [3, 0, 1, 2, 4, 5] (L' := [_, _, _, _, _, _]) (by decide) rfl ?_
          refine HC_rangeR (τ := Int) (fun i (_ : Unit) => i ≤ items.length ∧ fitL (items.drop i) k pick ins i = fitL items k pick ins 0) (fun _ => [(r3, .cells #[.int .i64 (0)] 34 (0, 0))]) (fun j e => j = .ret ∧ e = fitL items k pick ins 0) (fun e => [(r3, .cells #[.int .i64 (e)] 34 (0, 0))]) [vBlk rv (.mk a b c d bits pb items pi pick), tBlk rt (.mk k n p ins), _, _, _] () rfl rfl (enters_of Tryz.func173 (by kernel_rfl) rfl) (I_within (n := n) (a := a) (b := b) (c := c) (d := d) (bits := bits) (pb := pb) hl hlt hs hst hxl hp8 rt rv) (by rintro _ _ _ ⟨_, rfl, _⟩; rfl) rfl (fun q hq => by rcases List.mem_cons.1 hq with rfl | hq; exact .inl (by simp); rcases List.mem_cons.1 hq with rfl | hq; exact .inl (by simp); exact .inr hq) rfl ⟨Nat.zero_le _, rfl⟩ ?_ ?_ ?_
          · rintro q Xr Xb w3 i _ _ ⟨⟩ ⟨hii, rfl, rfl⟩ ⟨hil, hinv⟩ Kr hKr
            have hix := itm_get hii
            have hty := inTy_get (hxl i hii)
            rw [dropI hix.1, fitL] at hinv
            unfold wVals
            refine HC_seq fun K38 hK38 => ?_; refine HC_region ?_; refine HL_alloc (cs := #[_, _, _]) rfl rfl rfl rfl fun r6 => ?_; refine HL_storeArr (k := 0) (n := 3) (ys := (inTy k pick ins i).cells) rfl rfl rfl rfl rfl (inTy k pick ins i).len rfl (inTy k pick ins i).one rfl ?_; refine HL_nil ?_; refine HQ_then ?_; refine hK38 _ _ _ _ ?_; clear hK38 K38; refine HC_region ?_; refine HL_alloc (cs := #[_, _, _, _, _, _, _]) rfl rfl rfl rfl fun r7 => ?_; refine HL_storeArr (k := 0) (n := 7) (ys := (itm items i).cells) rfl rfl rfl rfl rfl (itm items i).len rfl (itm items i).one rfl ?_; refine HL_nil ?_; refine HQ_then ?_; refine hKr _ _ ?_; clear hKr; refine HC_block ?_; refine HC_seq fun K39 hK39 => ?_; refine HC_region ?_; refine HL_r rfl rfl rfl rfl (R_loadArr (xs := (inTy k pick ins i).cells) (n := 3) rfl (known_L (k := 1) rfl) rfl rfl (inTy k pick ins i).len) ?_; refine HL_r rfl rfl rfl rfl (R_loadArr (xs := (itm items i).cells) (n := 7) rfl (known_L (k := 0) rfl) rfl rfl (itm items i).len) ?_; refine HL_callR rfl rfl rfl (enters_of Tryz.func46 (by kernel_rfl) rfl) (ih _ hix.2 (hi _ hix.2) _ (dp + 1) (hit _ hty.2) (hci _ hty.2)) (fun q hq => Or.inr (List.mem_append_right _ hq)) ?_; refine HL_r rfl rfl rfl rfl (R_assign rfl) ?_; refine HL_nil ?_; refine HQ_then ?_; refine hK39 _ _ _ _ ?_; clear hK39 K39; refine HC_seq fun K40 hK40 => ?_; refine HC_region ?_; refine HL_r rfl rfl rfl rfl (R_move rfl) ?_; refine HL_r rfl rfl rfl rfl (R_pure rfl rfl rfl) ?_; refine HL_nil ?_; refine HQ_then ?_; refine hK40 _ _ _ _ ?_; clear hK40 K40; refine HC_cond rfl (fun h41 => ?_) (fun h41 => ?_)
            · try exact Bool.noConfusion h41
              try simp only [Z1, Z2, Z3, Z4, Z5, Z6, Z7, Z8, Z9, Z10, Z11, Z12, Z13] at h41
              refine HC_seq fun K42 hK42 => ?_; refine HC_region ?_; refine HL_r rfl rfl rfl rfl (R_move rfl) ?_
              refine HL_store (k := 2) rfl rfl rfl rfl rfl rfl rfl rfl (by first | (simp only [List.setIfInBounds_toArray, List.set_cons_zero, List.set_cons_succ]; exact rfl) | exact rfl) (by first | (simp only [List.set_cons_zero, List.set_cons_succ]; exact rfl) | exact rfl) ?_; refine HL_nil ?_; refine HQ_then ?_; refine hK42 _ _ _ _ ?_; clear hK42 K42; refine HC_ret ?_; refine HQ_blockR ?_; refine HQ_sel [2] (L' := [_]) (by decide) rfl ?_; refine HQ_roundR (fitT (itm items i) (inTy k pick ins i)) ⟨rfl, by rw [if_neg (by assumption)] at hinv; exact hinv⟩ rfl
            · try exact Bool.noConfusion h41
              try simp only [Z1, Z2, Z3, Z4, Z5, Z6, Z7, Z8, Z9, Z10, Z11, Z12, Z13] at h41
              refine HC_skip ?_; refine HQ_blockN ?_; refine HQ_sel [2] (L' := [_]) (by decide) rfl ?_; refine HQ_round () ⟨by omega, by rw [if_pos (by assumption)] at hinv; exact hinv⟩ rfl
          · rintro D i ⟨⟩ hfi ⟨hil, hinv⟩
            have hin : i = items.length := hfi
            have hz : fitL items k pick ins 0 = 0 := by rw [← hinv, hin, List.drop_length, fitL]
            refine HQ_blockN ?_; refine HQ_then ?_; refine hK36 _ _ _ _ ?_; clear hK36 K36; refine HC_seq fun K43 hK43 => ?_; refine HC_region ?_
            refine HL_store (k := 1) rfl rfl rfl rfl rfl rfl rfl rfl (by first | (simp only [List.setIfInBounds_toArray, List.set_cons_zero, List.set_cons_succ]; exact rfl) | exact rfl) (by first | (simp only [List.set_cons_zero, List.set_cons_succ]; exact rfl) | exact rfl) ?_; refine HL_nil ?_; refine HQ_then ?_; refine hK43 _ _ _ _ ?_; clear hK43 K43; refine HC_ret ?_
            (refine HQ_mark (k := 0) rfl rfl ?_
             refine HQ_post rfl rfl (.cons (res_cell rfl (known_L (k := 1) rfl) rfl rfl) .nil) (fun w1 hs1 => ?_)
             first | exact ⟨by rw [hfo, ← he]; rfl, hs1.keep⟩ | exact ⟨by rw [hfo, hz]; rfl, hs1.keep⟩)
          · rintro D j e ⟨rfl, he⟩
            refine HC_ret ?_; refine HQ_blockR ?_; refine HQ_thenR ?_; clear hK36 K36
            first
              | (refine HQ_mark (k := 0) rfl rfl ?_
                 refine HQ_post rfl rfl (.cons (res_cell rfl (known_L (k := 1) rfl) rfl rfl) .nil) (fun w1 hs1 => ?_)
                 first | exact ⟨by rw [hfo, ← he]; rfl, hs1.keep⟩ | exact ⟨by rw [hfo, hz]; rfl, hs1.keep⟩)
              | (refine HQ_post rfl rfl (.cons (res_cell rfl (known_L (k := 0) rfl) rfl rfl) .nil) (fun w1 hs1 => ?_)
                 first | exact ⟨by rw [fitT, if_pos (by omega)]; rfl, hs1.keep⟩ | exact ⟨by rw [fitT, if_neg (by omega), if_pos (by assumption)]; rfl, hs1.keep⟩)
              | (refine HQ_post rfl rfl (.cons (res_cell rfl (known_L (k := 1) rfl) rfl rfl) .nil) (fun w1 hs1 => ?_)
                 first | exact ⟨by rw [fitT, if_pos (by omega)]; rfl, hs1.keep⟩ | exact ⟨by rw [fitT, if_neg (by omega), if_pos (by assumption)]; rfl, hs1.keep⟩)
      skip)
   skip)
end Go.Proofs.YtlcbfphioeppaaaGreatDoor
namespace Go.Proofs.YtlcbfphioeppaaaGreatDoor
set_option linter.all false
open Go.SL Go.RowKit Go.Shelf
set_option maxRecDepth 10000 in
theorem S_Fits {R : List (Nat × Obj)} {t : Ty} {v : Vl} (ht : t.In R) (hv : v.In R) : PureR Tryz.prog 22 [t.val, v.val].toArray (.int .i64 (fitsT t v)) R := by
  have h1 := S_Check ht
  have h2 := S_fits hv t 0 ht
  obtain ⟨k, n, p, ins⟩ := t
  obtain ⟨a, b, c, d, bits, pb, items, pi, pick⟩ := v
  refine pureR_of_HC Tryz.func22 rfl rfl fun w => ?_; refine HC_seq fun K1 hK1 => ?_; refine HC_region ?_; refine HL_box (cs := #[_, _, _]) rfl rfl rfl rfl fun r1 => ?_; refine HL_box (cs := #[_, _, _, _, _, _, _]) rfl rfl rfl rfl fun r2 => ?_; refine HL_r rfl rfl rfl rfl (R_assign rfl) ?_; refine HL_nil ?_; refine HQ_then ?_; refine hK1 _ _ _ _ ?_; clear hK1 K1; refine HC_seq fun K2 hK2 => ?_; refine HC_seq fun K3 hK3 => ?_; refine HC_region ?_; refine HL_r rfl rfl rfl rfl (R_loadA (vs := [_, _, _]) rfl (known_L (k := 1) rfl) rfl rfl rfl rfl) ?_; refine HL_callR rfl rfl rfl (enters_of Tryz.func41 (by kernel_rfl) rfl) h1 (fun q hq => Or.inr hq) ?_; refine HL_r rfl rfl rfl rfl (R_assign rfl) ?_; refine HL_nil ?_; refine HQ_then ?_; refine hK3 _ _ _ _ ?_; clear hK3 K3; refine HC_seq fun K4 hK4 => ?_; refine HC_region ?_; refine HL_r rfl rfl rfl rfl (R_move rfl) ?_; refine HL_r rfl rfl rfl rfl (R_pure rfl rfl rfl) ?_; refine HL_nil ?_; refine HQ_then ?_; refine hK4 _ _ _ _ ?_; clear hK4 K4; refine HC_cond rfl (fun h5 => ?_) (fun h5 => ?_)
  · try exact Bool.noConfusion h5
    try simp only [Z1, Z2, Z3, Z4, Z5, Z6, Z7, Z8, Z9, Z10, Z11, Z12, Z13] at h5
    refine HC_seq fun K6 hK6 => ?_; refine HC_region ?_; refine HL_r rfl rfl rfl rfl (R_move rfl) ?_; refine HL_r rfl rfl rfl rfl (R_assign rfl) ?_; refine HL_nil ?_; refine HQ_then ?_; refine hK6 _ _ _ _ ?_; clear hK6 K6; refine HC_ret ?_; refine HQ_thenR ?_; clear hK2 K2; refine HQ_post rfl rfl (.cons (res_tmp rfl) .nil) (fun w1 hs1 => ?_); refine ⟨?_, hs1.keep⟩; rw [fitsT, if_neg (by assumption)]; rfl
  · try exact Bool.noConfusion h5
    try simp only [Z1, Z2, Z3, Z4, Z5, Z6, Z7, Z8, Z9, Z10, Z11, Z12, Z13] at h5
    refine HC_skip ?_; refine HQ_then ?_; refine hK2 _ _ _ _ ?_; clear hK2 K2; refine HC_seq fun K7 hK7 => ?_; refine HC_region ?_; refine HL_r rfl rfl rfl rfl (R_loadA (vs := [_, _, _]) rfl (known_L (k := 1) rfl) rfl rfl rfl rfl) ?_; refine HL_r rfl rfl rfl rfl (R_loadA (vs := [_, _, _, _, _, _, _]) rfl (known_L (k := 0) rfl) rfl rfl rfl rfl) ?_; refine HL_callR rfl rfl rfl (enters_of Tryz.func46 (by kernel_rfl) rfl) (h2 (by assumption)) (fun q hq => Or.inr hq) ?_; refine HL_r rfl rfl rfl rfl (R_assign rfl) ?_; refine HL_nil ?_; refine HQ_then ?_; refine hK7 _ _ _ _ ?_; clear hK7 K7; refine HC_ret ?_; refine HQ_post rfl rfl (.cons (res_tmp rfl) .nil) (fun w1 hs1 => ?_); refine ⟨?_, hs1.keep⟩; rw [fitsT, if_pos (by assumption)]; rfl
def fewB (t : Ty) (v : Vl) : Bool := decide (typN t 60 9 ≤ 60) && decide (valN v 150 9 ≤ 150)
set_option maxRecDepth 10000 in
theorem S_Few {R : List (Nat × Obj)} {t : Ty} {v : Vl} (ht : t.In R) (hv : v.In R) : PureR Tryz.prog 35 [t.val, v.val].toArray (.bool (fewB t v)) R := by
  have h1 := S_ref_Types ht 60 9 (by omega) (by omega) (by omega) (by omega)
  have h2 := S_ref_Vals hv 150 9 (by omega) (by omega) (by omega) (by omega)
  obtain ⟨k, n, p, ins⟩ := t
  obtain ⟨a, b, c, d, bits, pb, items, pi, pick⟩ := v
  refine pureR_of_HC Tryz.func35 rfl rfl fun w => ?_; refine HC_seq fun K1 hK1 => ?_; refine HC_region ?_; refine HL_box (cs := #[_, _, _]) rfl rfl rfl rfl fun r1 => ?_; refine HL_box (cs := #[_, _, _, _, _, _, _]) rfl rfl rfl rfl fun r2 => ?_; refine HL_r rfl rfl rfl rfl (R_assign rfl) ?_; refine HL_nil ?_; refine HQ_then ?_; refine hK1 _ _ _ _ ?_; clear hK1 K1; refine HC_seq fun K2 hK2 => ?_; refine HC_region ?_; refine HL_r rfl rfl rfl rfl (R_loadA (vs := [_, _, _]) rfl (known_L (k := 1) rfl) rfl rfl rfl rfl) ?_; refine HL_callR rfl rfl rfl (enters_of Tryz.func65 (by kernel_rfl) rfl) h1 (fun q hq => Or.inr hq) ?_; refine HL_r rfl rfl rfl rfl (R_pure rfl rfl rfl) ?_; refine HL_r rfl rfl rfl rfl (R_move rfl) ?_
  refine HL_case 8 rfl (fun hb3 => ?_) (fun hb3 => ?_) <;> (try simp only [Z1, Z2, Z3, Z4, Z5, Z6, Z7, Z8, Z9, Z10, Z11, Z12, Z13] at hb3) <;> first | (refine HL_r rfl rfl rfl rfl (R_loadA (vs := [_, _, _, _, _, _, _]) rfl (known_L (k := 0) rfl) rfl rfl rfl rfl) ?_) | (refine HL_r rfl rfl rfl rfl (R_loadA (vs := [_, _, _, _, _, _, _]) rfl (known_L (k := 1) rfl) rfl rfl rfl rfl) ?_) | (refine HL_skip rfl rfl rfl ?_)
  all_goals first
    | (refine HL_callR rfl rfl rfl (enters_of Tryz.func66 (by kernel_rfl) rfl) h2 (fun q hq => Or.inr hq) ?_)
    | (refine HL_skip rfl rfl rfl ?_)
  all_goals first
    | (refine HL_r rfl rfl rfl rfl (R_pure rfl rfl rfl) ?_)
    | (refine HL_skip rfl rfl rfl ?_)
  all_goals first
    | (refine HL_r rfl rfl rfl rfl (R_pickT rfl rfl) ?_)
    | (refine HL_r rfl rfl rfl rfl (R_pickF rfl rfl) ?_)
  all_goals refine HL_r rfl rfl rfl rfl (R_assign rfl) ?_
  all_goals refine HL_nil ?_
  all_goals (
   refine HQ_then ?_; refine hK2 _ _ _ _ ?_; clear hK2 K2; refine HC_ret ?_; refine HQ_post rfl rfl (.cons (res_tmp rfl) .nil) (fun w1 hs1 => ?_); refine ⟨?_, hs1.keep⟩
   simp_all [resVal, fewB]
   all_goals first | done | (intros; omega)
   skip)
def vNum (n : Nat) : Vl := .mk n 0 0 0 [] none [] none 0
section
variable {R : List (Nat × Obj)}
theorem iz (z : Int) (h : -9223372036854775808 ≤ z ∧ z ≤ 9223372036854775807 := by decide) : I64 z := h
theorem uz (z : Nat) (h : z < 18446744073709551616 := by decide) : U64 z := h
theorem in_num (n : Nat) (h : n < 18446744073709551616) : (vNum n).In R := .mk h (uz 0) (uz 0) (uz 0) (by simp) rfl (by simp) rfl (iz 0) (by simp)
theorem in_ty0 {k n : Int} (hk : I64 k) (hn : I64 n) : (Ty.mk k n none []).In R := .mk hk hn (by simp) rfl (by simp)
end
end Go.Proofs.YtlcbfphioeppaaaGreatDoor
namespace Go.Proofs.YtlcbfphioeppaaaGreatDoor
set_option linter.all false
open Go.SL Go.RowKit Go.Shelf
theorem repeat_rep : ∀ n, Lib.repeatL [0] n = List.replicate n 0
  | 0 => rfl
  | n + 1 => by rw [Lib.repeatL, repeat_rep n]; rfl
end Go.Proofs.YtlcbfphioeppaaaGreatDoor
namespace Go.Proofs.YtlcbfphioeppaaaGreatDoor
set_option linter.all false
open Go.SL Go.RowKit Go.Shelf
end Go.Proofs.YtlcbfphioeppaaaGreatDoor
namespace Go.Proofs.YtlcbfphioeppaaaGreatDoor
set_option linter.all false
open Go.SL Go.RowKit Go.Shelf
end Go.Proofs.YtlcbfphioeppaaaGreatDoor
namespace Go.Proofs.YtlcbfphioeppaaaGreatDoor
set_option linter.all false
open Go.SL Go.RowKit Go.Shelf
theorem wokN {n : Nat} (h : n < 18446744073709551616) : WOk [n, 0, 0, 0] := ⟨rfl, fun x hx => by simp at hx; rcases hx with rfl | rfl <;> simp_all⟩
def beN (n : Nat) : List UInt8 := bytesW [n, 0, 0, 0]
set_option maxRecDepth 10000 in
theorem P_num_Be {n : Nat} (hn : n < 18446744073709551616) : Pure Tryz.prog 101 [uV n].toArray (.string (bs (beN n))) := by
  refine pure_of_HC Tryz.func101 rfl rfl fun w => ?_; refine HC_seq fun K1 hK1 => ?_; refine HC_region ?_; refine HL_r rfl rfl rfl rfl (R_assign rfl) ?_; refine HL_nil ?_; refine HQ_then ?_; refine hK1 _ _ _ _ ?_; clear hK1 K1; refine HC_seq fun K2 hK2 => ?_; refine HC_region ?_; refine HL_r rfl rfl rfl rfl (R_move rfl) ?_; refine HL_callP rfl rfl rfl (enters_of Tryz.func150 (by kernel_rfl) rfl) (P_word_Of n) ?_; refine HL_callP rfl rfl rfl (enters_of Tryz.func144 (by kernel_rfl) rfl) (P_word_Bytes (wokN hn)) ?_; refine HL_r rfl rfl rfl rfl (R_assign rfl) ?_; refine HL_nil ?_; refine HQ_then ?_; refine hK2 _ _ _ _ ?_; clear hK2 K2; refine HC_ret ?_; refine HQ_post rfl rfl (.cons (res_tmp rfl) .nil) (fun w1 hs1 => ?_); exact ⟨rfl, hs1.keep⟩
def leR (n : Nat) (w : Int) : List UInt8 × Int := if w < 1 ∨ w > 8 ∨ ((beN n).length : Int) > w then ([], 1) else (leN n w.toNat, 0)
def resS (p : List UInt8 × Int) : Value := .tuple #[.string (bs p.1), .int .i64 p.2]
theorem le_step {n i k : Nat} (h : i < k) : ((leN n i ++ List.replicate (k - i) 0).map bV).set i (bV (UInt8.ofNat (n / 2 ^ (8 * i) % 256))) = (leN n (i + 1) ++ List.replicate (k - (i + 1)) 0).map bV := by
  rw [← List.map_set, List.set_append_right _ _ (by rw [leN_len]; exact Nat.le_refl _), leN_len, Nat.sub_self, show k - i = (k - (i + 1)) + 1 from by omega, List.replicate_succ, List.set_cons_zero, leN_snoc, List.append_assoc]; rw [show (256 : Nat) ^ i = 2 ^ (8 * i) from by rw [show (256 : Nat) = 2 ^ 8 from rfl, ← Nat.pow_mul]]
  rfl
set_option maxRecDepth 10000 in
theorem P_num_Le {n : Nat} (hn : n < 18446744073709551616) (k : Int) : Pure Tryz.prog 56 [uV n, .int .i64 k].toArray (resS (leR n k)) := by
  refine pure_of_HC Tryz.func56 rfl rfl fun w => ?_; refine HC_seq fun K1 hK1 => ?_; refine HC_region ?_; refine HL_r rfl rfl rfl rfl (R_assign rfl) ?_; refine HL_r rfl rfl rfl rfl (R_assign rfl) ?_; refine HL_nil ?_; refine HQ_then ?_; refine hK1 _ _ _ _ ?_; clear hK1 K1; refine HC_seq fun K2 hK2 => ?_; refine HC_seq fun K3 hK3 => ?_; refine HC_region ?_; refine HL_r rfl rfl rfl rfl (R_move rfl) ?_; refine HL_r rfl rfl rfl rfl (R_pure rfl rfl rfl) ?_; refine HL_r rfl rfl rfl rfl (R_move rfl) ?_
  refine HL_case 10 rfl (fun hb4 => ?_) (fun hb4 => ?_) <;> (try simp only [Z1, Z2, Z3, Z4, Z5, Z6, Z7, Z8, Z9, Z10, Z11, Z12, Z13] at hb4) <;> first | (refine HL_r rfl rfl rfl rfl (R_move rfl) ?_) | (refine HL_skip rfl rfl rfl ?_)
  all_goals first
    | (refine HL_r rfl rfl rfl rfl (R_pure rfl rfl rfl) ?_)
    | (refine HL_skip rfl rfl rfl ?_)
  all_goals first
    | (refine HL_r rfl rfl rfl rfl (R_pickT rfl rfl) ?_)
    | (refine HL_r rfl rfl rfl rfl (R_pickF rfl rfl) ?_)
  all_goals refine HL_r rfl rfl rfl rfl (R_move rfl) ?_
  all_goals first
    | (refine HL_skip rfl rfl rfl ?_)
    | (refine HL_case 14 rfl (fun hb6 => ?_) (fun hb6 => ?_) <;> (try simp only [Z1, Z2, Z3, Z4, Z5, Z6, Z7, Z8, Z9, Z10, Z11, Z12, Z13] at hb6) <;> first | (refine HL_r rfl rfl rfl rfl (R_move rfl) ?_) | (refine HL_skip rfl rfl rfl ?_))
  all_goals first
    | (refine HL_callP rfl rfl rfl (enters_of Tryz.func101 (by kernel_rfl) rfl) (P_num_Be hn) ?_)
    | (refine HL_skip rfl rfl rfl ?_)
  all_goals first
    | (refine HL_r rfl rfl rfl rfl (R_lenBs rfl rfl) ?_)
    | (refine HL_skip rfl rfl rfl ?_)
  all_goals first
    | (refine HL_r rfl rfl rfl rfl (R_move rfl) ?_)
    | (refine HL_skip rfl rfl rfl ?_)
  all_goals first
    | (refine HL_r rfl rfl rfl rfl (R_pure rfl rfl rfl) ?_)
    | (refine HL_skip rfl rfl rfl ?_)
  all_goals first
    | (refine HL_r rfl rfl rfl rfl (R_pickT rfl rfl) ?_)
    | (refine HL_r rfl rfl rfl rfl (R_pickF rfl rfl) ?_)
  all_goals refine HL_nil ?_
  all_goals (
   refine HQ_then ?_; refine hK3 _ _ _ _ ?_; clear hK3 K3; refine HC_cond rfl (fun h11 => ?_) (fun h11 => ?_)
   · try exact Bool.noConfusion h11
     try simp only [Z1, Z2, Z3, Z4, Z5, Z6, Z7, Z8, Z9, Z10, Z11, Z12, Z13] at h11
     refine HC_seq fun K12 hK12 => ?_; refine HC_region ?_; refine HL_r rfl rfl rfl rfl (R_assign rfl) ?_; refine HL_r rfl rfl rfl rfl (R_assign rfl) ?_; refine HL_nil ?_; refine HQ_then ?_; refine hK12 _ _ _ _ ?_; clear hK12 K12; refine HC_ret ?_; refine HQ_thenR ?_; clear hK2 K2; refine HQ_post rfl rfl (.cons (res_tmp rfl) (.cons (res_tmp rfl) .nil)) (fun w1 hs1 => ?_); refine ⟨?_, hs1.keep⟩; rw [show leR n k = ([], 1) from by unfold leR; rw [if_pos (by omega)]]; rfl
   · try exact Bool.noConfusion h11
     all_goals try simp only [Z1, Z2, Z3, Z4, Z5, Z6, Z7, Z8, Z9, Z10, Z11, Z12, Z13] at h11
     all_goals (
      refine HC_skip ?_; refine HQ_then ?_; refine hK2 _ _ _ _ ?_; clear hK2 K2; refine HC_seq fun K13 hK13 => ?_
      have hk1 : 1 ≤ k ∧ k ≤ 8 ∧ ((beN n).length : Int) ≤ k := by omega
      have hlr : leR n k = (leN n k.toNat, 0) := by unfold leR; rw [if_neg (by omega)]
      obtain ⟨k, rfl⟩ : ∃ j : Nat, k = j := ⟨k.toNat, by omega⟩
      rw [Int.toNat_natCast] at hlr; refine HC_region ?_; refine HL_r rfl rfl rfl rfl (R_move rfl) ?_; refine HL_make (n := k) (b := 1) rfl rfl rfl rfl rfl rfl rfl rfl rfl (by omega) (by omega) fun r2 => ?_; refine HL_r rfl rfl rfl rfl (R_assign rfl) ?_; refine HL_nil ?_; refine HQ_then ?_; refine hK13 _ _ _ _ ?_; clear hK13 K13; refine HC_seq fun K14 hK14 => ?_; refine HC_seq fun K15 hK15 => ?_; refine HC_region ?_; refine HL_r rfl rfl rfl rfl (R_move rfl) ?_; refine HL_r rfl rfl rfl rfl (R_lenSl rfl rfl) ?_; refine HL_r rfl rfl rfl rfl (R_move rfl) ?_; refine HL_nil ?_; refine HQ_then ?_; refine hK15 _ _ _ _ ?_; clear hK15 K15; refine HC_block ?_; refine HC_loop (σ := Nat) (fun i => i ≤ k) (fun i => [(0, uV n), (6, .slice (some ⟨r2, 0, none⟩) k k), (24, .int .i64 (k : Int)), (25, .int .i64 (i : Int))]) (fun i => [(r2, .cells ((leN n i ++ List.replicate (k - i) 0).map bV).toArray 5 (0, 0))]) (fun _ _ _ => True) (fun i => k - i) 0 (Nat.zero_le _) (.cons rfl (.cons rfl (.cons rfl (.cons rfl .nil)))) (by simp [leN, bV]) (fun _ _ h => h) ?_; intro i hi; refine HC_seq fun K16 hK16 => ?_; refine HC_region ?_; refine HL_r rfl rfl rfl rfl (R_pure rfl rfl rfl) ?_; refine HL_nil ?_; refine HQ_then ?_; refine hK16 _ _ _ _ ?_; clear hK16 K16; refine HC_seq fun K17 hK17 => ?_; refine HC_cond rfl (fun h18 => ?_) (fun h18 => ?_)
      · try exact Bool.noConfusion h18
        try simp only [Z1, Z2, Z3, Z4, Z5, Z6, Z7, Z8, Z9, Z10, Z11, Z12, Z13] at h18
        refine HC_skip ?_; refine HQ_then ?_; refine hK17 _ _ _ _ ?_; clear hK17 K17; refine HC_seq fun K19 hK19 => ?_; refine HC_block ?_; refine HC_seq fun K20 hK20 => ?_; refine HC_region ?_; refine HL_r rfl rfl rfl rfl (R_move rfl) ?_; refine HL_r rfl rfl rfl rfl (R_assign rfl) ?_; refine HL_nil ?_; refine HQ_then ?_; refine hK20 _ _ _ _ ?_; clear hK20 K20; refine HC_region ?_; refine HL_r rfl rfl rfl rfl (R_move rfl) ?_; refine HL_r rfl rfl rfl rfl (R_move rfl) ?_; refine HL_r rfl rfl rfl rfl (R_move rfl) ?_; refine HL_r rfl rfl rfl rfl (R_move rfl) ?_; refine HL_r rfl rfl rfl rfl (R_pure rfl rfl rfl) ?_; refine HL_as (show _ = Value.int .i64 ((8 * i : Nat) : Int) from congrArg (Value.int .i64) (by rw [wrap_i64 (by omega) (by omega)]; omega)) ?_; refine HL_r rfl rfl rfl rfl (R_shr (n := 8 * i) rfl rfl (by omega) (show _ ≤ 64 from by omega) (by omega) (shr_nat _ _)) ?_; refine HL_r rfl rfl rfl rfl (R_pure rfl rfl rfl) ?_; refine HL_as (show _ = bV (UInt8.ofNat (n / 2 ^ (8 * i) % 256)) from byte_mod _) ?_; refine HL_r rfl rfl rfl rfl (R_indexS (j := i) (m := 1) (off' := i) rfl rfl rfl rfl (by omega) (by omega) (by omega)) ?_; refine HL_storeAt (k := 0) (off := i) (xs := (leN n i ++ List.replicate (k - i) 0).map bV) (ys := (leN n (i + 1) ++ List.replicate (k - (i + 1)) 0).map bV) rfl rfl rfl rfl rfl rfl (by simp [leN_len]; omega) (le_step (by omega)) rfl ?_; refine HL_nil ?_; refine HQ_blockN ?_; refine HQ_then ?_; refine hK19 _ _ _ _ ?_; clear hK19 K19; refine HC_region ?_; refine HL_r rfl rfl rfl rfl (R_pure rfl rfl rfl) ?_; refine HL_wrap_i64 (by omega) (by omega) ?_; refine HL_r rfl rfl rfl rfl (R_move rfl) ?_; refine HL_nil ?_; refine HQ_then ?_; exact HQ_again (i + 1) (by omega) (by omega) (.cons rfl (.cons rfl (.cons rfl (.cons rfl .nil)))) (List.Sublist.refl _) (fun _ _ h => h)
      · try exact Bool.noConfusion h18
        try simp only [Z1, Z2, Z3, Z4, Z5, Z6, Z7, Z8, Z9, Z10, Z11, Z12, Z13] at h18
        refine HC_exit ?_; refine HQ_thenE ?_; clear hK17 K17; refine HQ_thenE ?_; refine HQ_blockE ?_; refine HQ_then ?_; refine hK14 _ _ _ _ ?_; clear hK14 K14; refine HC_seq fun K21 hK21 => ?_
        have hik : k = i := by omega
        subst hik; refine HC_region ?_; refine HL_r rfl rfl rfl rfl (R_move rfl) ?_; refine HL_r rfl rfl rfl rfl (R_bytesStr (b := leN n k) (row := some (r2, k, [])) (e := 5) (show _ = some (rowV (leN n k).length (some (r2, k, []))) from by rw [leN_len]; rfl) ⟨by simp [leN_len], by simp [leN_len]⟩ (fun p hp => .inl (by rw [List.mem_singleton.1 hp]; simp)) rfl rfl rfl) ?_; refine HL_r rfl rfl rfl rfl (R_assign rfl) ?_; refine HL_r rfl rfl rfl rfl (R_assign rfl) ?_; refine HL_nil ?_; refine HQ_then ?_; refine hK21 _ _ _ _ ?_; clear hK21 K21; refine HC_ret ?_; refine HQ_post rfl rfl (.cons (res_tmp rfl) (.cons (res_tmp rfl) .nil)) (fun w1 hs1 => ?_); refine ⟨?_, hs1.keep⟩; rw [hlr]; rfl
      skip)
   skip)
end Go.Proofs.YtlcbfphioeppaaaGreatDoor
namespace Go.Proofs.YtlcbfphioeppaaaGreatDoor
set_option linter.all false
open Go.SL Go.RowKit Go.Shelf
def unleR (s : List UInt8) : Nat × Int := if s.length < 1 ∨ s.length > 8 then (0, 2) else (leV s, 0)
def resN (p : Nat × Int) : Value := .tuple #[uV p.1, .int .i64 p.2]
theorem leV_take {s : List UInt8} {i : Nat} (h : i < s.length) : leV (s.take (i + 1)) = leV (s.take i) + (s.getD i 0).toNat * 2 ^ (8 * i) := by
  rw [List.take_succ, List.getElem?_eq_getElem h]; simp only [Option.toList_some]; rw [leV_snoc, List.length_take, Nat.min_eq_left (by omega), show (256 : Nat) = 2 ^ 8 from rfl, ← Nat.pow_mul, List.getD_eq_getElem?_getD, List.getElem?_eq_getElem h]; rfl
theorem leV_take_lt {s : List UInt8} {i : Nat} (h : i ≤ s.length) : leV (s.take i) < 2 ^ (8 * i) := by
  have := leV_lt (s.take i)
  rw [List.length_take, Nat.min_eq_left h, show (256 : Nat) = 2 ^ 8 from rfl, ← Nat.pow_mul] at this; exact this
theorem pow64 {i : Nat} (h : i ≤ 8) : 2 ^ (8 * i) ≤ 18446744073709551616 := Nat.pow_le_pow_right (n := 2) (by decide) (by omega : 8 * i ≤ 64)
set_option maxRecDepth 10000 in
theorem P_num_Unle (s : List UInt8) : Pure Tryz.prog 196 [.string (bs s)].toArray (resN (unleR s)) := by
  refine pure_of_HC Tryz.func196 rfl rfl fun w => ?_; refine HC_seq fun K1 hK1 => ?_; refine HC_region ?_; refine HL_r rfl rfl rfl rfl (R_assign rfl) ?_; refine HL_r rfl rfl rfl rfl (R_assign rfl) ?_; refine HL_nil ?_; refine HQ_then ?_; refine hK1 _ _ _ _ ?_; clear hK1 K1; refine HC_seq fun K2 hK2 => ?_; refine HC_seq fun K3 hK3 => ?_; refine HC_region ?_; refine HL_r rfl rfl rfl rfl (R_move rfl) ?_; refine HL_r rfl rfl rfl rfl (R_strEq rfl rfl) ?_; refine HL_r rfl rfl rfl rfl (R_move rfl) ?_
  refine HL_case 8 rfl (fun hb4 => ?_) (fun hb4 => ?_) <;> (try simp only [Z1, Z2, Z3, Z4, Z5, Z6, Z7, Z8, Z9, Z10, Z11, Z12, Z13] at hb4) <;> first | (refine HL_r rfl rfl rfl rfl (R_move rfl) ?_) | (refine HL_skip rfl rfl rfl ?_)
  all_goals first
    | (refine HL_r rfl rfl rfl rfl (R_lenBs rfl rfl) ?_)
    | (refine HL_skip rfl rfl rfl ?_)
  all_goals first
    | (refine HL_r rfl rfl rfl rfl (R_pure rfl rfl rfl) ?_)
    | (refine HL_skip rfl rfl rfl ?_)
  all_goals first
    | (refine HL_r rfl rfl rfl rfl (R_pickT rfl rfl) ?_)
    | (refine HL_r rfl rfl rfl rfl (R_pickF rfl rfl) ?_)
  all_goals refine HL_nil ?_
  all_goals (
   refine HQ_then ?_; refine hK3 _ _ _ _ ?_; clear hK3 K3; refine HC_cond rfl (fun h7 => ?_) (fun h7 => ?_)
   · try exact Bool.noConfusion h7
     try simp only [Z1, Z2, Z3, Z4, Z5, Z6, Z7, Z8, Z9, Z10, Z11, Z12, Z13] at h7
     refine HC_seq fun K8 hK8 => ?_; refine HC_region ?_; refine HL_r rfl rfl rfl rfl (R_assign rfl) ?_; refine HL_r rfl rfl rfl rfl (R_assign rfl) ?_; refine HL_nil ?_; refine HQ_then ?_; refine hK8 _ _ _ _ ?_; clear hK8 K8; refine HC_ret ?_; refine HQ_thenR ?_; clear hK2 K2; refine HQ_post rfl rfl (.cons (res_tmp rfl) (.cons (res_tmp rfl) .nil)) (fun w1 hs1 => ?_); refine ⟨?_, hs1.keep⟩
     rw [show unleR s = (0, 2) from by unfold unleR; rw [if_pos (by first | omega | (left; rw [‹s = []›]; decide))]]; rfl
   · try exact Bool.noConfusion h7
     all_goals try simp only [Z1, Z2, Z3, Z4, Z5, Z6, Z7, Z8, Z9, Z10, Z11, Z12, Z13] at h7
     all_goals (
      refine HC_skip ?_; refine HQ_then ?_; refine hK2 _ _ _ _ ?_; clear hK2 K2; refine HC_seq fun K9 hK9 => ?_
      have hl : 1 ≤ s.length ∧ s.length ≤ 8 := by
        have : s ≠ [] := by assumption
        have := List.length_pos_iff.2 this
        omega
      have hur : unleR s = (leV s, 0) := by unfold unleR; rw [if_neg (by omega)]
      refine HC_region ?_; refine HL_r rfl rfl rfl rfl (R_assign rfl) ?_; refine HL_nil ?_; refine HQ_then ?_; refine hK9 _ _ _ _ ?_; clear hK9 K9; refine HC_seq fun K10 hK10 => ?_; refine HC_seq fun K11 hK11 => ?_; refine HC_region ?_; refine HL_r rfl rfl rfl rfl (R_move rfl) ?_; refine HL_r rfl rfl rfl rfl (R_lenBs rfl rfl) ?_; refine HL_r rfl rfl rfl rfl (R_move rfl) ?_; refine HL_nil ?_; refine HQ_then ?_; refine hK11 _ _ _ _ ?_; clear hK11 K11; refine HC_block ?_; refine HC_loop (σ := Nat) (fun i => i ≤ s.length) (fun i => [(0, .string (bs s)), (4, uV (leV (s.take i))), (14, .int .i64 (s.length : Nat)), (15, .int .i64 (i : Int))]) (fun i => []) (fun _ _ _ => True) (fun i => s.length - i) 0 (Nat.zero_le _) (.cons rfl (.cons rfl (.cons rfl (.cons rfl .nil)))) (List.nil_sublist _) (fun _ _ h => h) ?_; intro i hi; refine HC_seq fun K12 hK12 => ?_; refine HC_region ?_; refine HL_r rfl rfl rfl rfl (R_pure rfl rfl rfl) ?_; refine HL_nil ?_; refine HQ_then ?_; refine hK12 _ _ _ _ ?_; clear hK12 K12; refine HC_seq fun K13 hK13 => ?_; refine HC_cond rfl (fun h14 => ?_) (fun h14 => ?_)
      · try exact Bool.noConfusion h14
        try simp only [Z1, Z2, Z3, Z4, Z5, Z6, Z7, Z8, Z9, Z10, Z11, Z12, Z13] at h14
        refine HC_skip ?_; refine HQ_then ?_; refine hK13 _ _ _ _ ?_; clear hK13 K13; refine HC_seq fun K15 hK15 => ?_; refine HC_block ?_; refine HC_seq fun K16 hK16 => ?_; refine HC_region ?_; refine HL_r rfl rfl rfl rfl (R_move rfl) ?_; refine HL_r rfl rfl rfl rfl (R_assign rfl) ?_; refine HL_nil ?_; refine HQ_then ?_; refine hK16 _ _ _ _ ?_; clear hK16 K16; refine HC_region ?_; refine HL_r rfl rfl rfl rfl (R_move rfl) ?_; refine HL_r rfl rfl rfl rfl (R_move rfl) ?_; refine HL_r rfl rfl rfl rfl (R_move rfl) ?_; refine HL_r rfl rfl rfl rfl (R_indexBs (j := i) rfl rfl rfl rfl (by omega) rfl) ?_; refine HL_r rfl rfl rfl rfl (R_pure rfl rfl rfl) ?_; refine HL_as (show _ = uV (s.getD i 0).toNat from congrArg (Value.int .u64) (wrap_u64 (by omega) (by have := u8_lt (s.getD i 0); omega))) ?_; refine HL_r rfl rfl rfl rfl (R_move rfl) ?_; refine HL_r rfl rfl rfl rfl (R_pure rfl rfl rfl) ?_; refine HL_as (show _ = Value.int .i64 ((8 * i : Nat) : Int) from congrArg (Value.int .i64) (by rw [wrap_i64 (by omega) (by omega)]; omega)) ?_; refine HL_r rfl rfl rfl rfl (R_shl (n := 8 * i) rfl rfl rfl (show _ ≤ 64 from by omega) (shl_u64 (sh_lt (u8_lt _) (by omega)))) ?_; refine HL_r rfl rfl rfl rfl (R_bits64 (op := .or) (b := ((leV (s.take (i + 1)) : Nat) : Int)) rfl rfl rfl (Nat.lt_of_lt_of_le (leV_take_lt (by omega)) (pow64 (by omega))) (sh_lt (u8_lt _) (by omega)) (congrArg (fun z : Nat => (z : Int)) (by rw [leV_take (by omega)]; exact or_add (leV_take_lt (by omega))))) ?_; refine HL_r rfl rfl rfl rfl (R_assign rfl) ?_; refine HL_nil ?_; refine HQ_blockN ?_; refine HQ_then ?_; refine hK15 _ _ _ _ ?_; clear hK15 K15; refine HC_region ?_; refine HL_r rfl rfl rfl rfl (R_pure rfl rfl rfl) ?_; refine HL_wrap_i64 (by omega) (by omega) ?_; refine HL_r rfl rfl rfl rfl (R_move rfl) ?_; refine HL_nil ?_; refine HQ_then ?_; exact HQ_again (i + 1) (by omega) (by omega) (.cons rfl (.cons rfl (.cons rfl (.cons rfl .nil)))) (List.nil_sublist _) (fun _ _ h => h)
      · try exact Bool.noConfusion h14
        try simp only [Z1, Z2, Z3, Z4, Z5, Z6, Z7, Z8, Z9, Z10, Z11, Z12, Z13] at h14
        refine HC_exit ?_; refine HQ_thenE ?_; clear hK13 K13; refine HQ_thenE ?_; refine HQ_blockE ?_; refine HQ_then ?_; refine hK10 _ _ _ _ ?_; clear hK10 K10; refine HC_seq fun K17 hK17 => ?_
        have hik : s.length = i := by omega
        have htk : s.take i = s := by rw [← hik, List.take_length]
        refine HC_region ?_; refine HL_r rfl rfl rfl rfl (R_move rfl) ?_; refine HL_r rfl rfl rfl rfl (R_assign rfl) ?_; refine HL_r rfl rfl rfl rfl (R_assign rfl) ?_; refine HL_nil ?_; refine HQ_then ?_; refine hK17 _ _ _ _ ?_; clear hK17 K17; refine HC_ret ?_; refine HQ_post rfl rfl (.cons (res_tmp rfl) (.cons (res_tmp rfl) .nil)) (fun w1 hs1 => ?_); refine ⟨?_, hs1.keep⟩; rw [htk, hur]; rfl
      skip)
   skip)
end Go.Proofs.YtlcbfphioeppaaaGreatDoor
/-! ### Bits, 8 a byte; numbers, the lowest byte first -/
namespace Go.SL
set_option linter.all false
open Go Go.RowKit Go.Shelf
/-- A number's bytes, the lowest ones first. -/
def leW (w : List Nat) (n : Nat) : List UInt8 := (beD w 32).reverse.take n
/-- The number of bytes. -/
def padZ (s : List UInt8) : List UInt8 := s ++ List.replicate (32 - s.length) 0
def numD (s : List UInt8) : List Nat := unfW (padZ s).reverse
theorem padZ_len {s : List UInt8} (h : s.length ≤ 32) : (padZ s).length = 32 := by unfold padZ; rw [List.length_append, List.length_replicate]; omega
theorem numD_ok (s : List UInt8) : WOk (numD s) := unfW_ok _
/-! bits -/
def packS (l : List Bool) (N : Nat) : Nat → List UInt8
  | 0 => List.replicate N 0
  | i + 1 => if l.getD i false = true then (packS l N i).set (i / 8) (UInt8.ofNat (((packS l N i).getD (i / 8) 0).toNat ||| 2 ^ (i % 8))) else packS l N i
theorem packS_len (l : List Bool) (N : Nat) : ∀ i, (packS l N i).length = N
  | 0 => by rw [packS, List.length_replicate]
  | i + 1 => by
    rw [packS]
    split
    · rw [List.length_set, packS_len l N i]
    · exact packS_len l N i
theorem or_lt {x m : Nat} (hx : x < 256) (hm : m < 8) : x ||| 2 ^ m < 256 := Nat.or_lt_two_pow (n := 8) hx (Nat.pow_lt_pow_right (by decide) hm)
def packB (l : List Bool) : List UInt8 := packS l ((l.length + 7) / 8) l.length
theorem packB_len (l : List Bool) : (packB l).length = (l.length + 7) / 8 := packS_len _ _ _
def bitAt (s : List UInt8) (i : Nat) : Bool := (s.getD (i / 8) 0).toNat.testBit (i % 8)
def unpackB (s : List UInt8) (n : Nat) : List Bool := (List.range n).map (bitAt s)
theorem unpackB_len (s : List UInt8) (n : Nat) : (unpackB s n).length = n := by unfold unpackB; rw [List.length_map, List.length_range]
theorem unpackB_get (s : List UInt8) {n i : Nat} (h : i < n) : (unpackB s n)[i]? = some (bitAt s i) := by
  unfold unpackB; rw [List.getElem?_map, List.getElem?_range h]; rfl
theorem u8_bits {a b : UInt8} (h : ∀ j, j < 8 → a.toNat.testBit j = b.toNat.testBit j) : a = b := by
  apply UInt8.toNat_inj.1
  apply Nat.eq_of_testBit_eq
  intro j
  by_cases hj : j < 8
  · exact h j hj
  · rw [Nat.testBit_lt_two_pow (Nat.lt_of_lt_of_le (u8_lt a) (Nat.pow_le_pow_right (n := 2) (i := 8) (by decide) (by omega))), Nat.testBit_lt_two_pow (Nat.lt_of_lt_of_le (u8_lt b) (Nat.pow_le_pow_right (n := 2) (i := 8) (by decide) (by omega)))]
end Go.SL
