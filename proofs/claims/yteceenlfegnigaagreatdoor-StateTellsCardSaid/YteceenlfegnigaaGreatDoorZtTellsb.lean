import Derived.Test.YteceenlfegnigaaGreatDoorZtTellsa
import Derived.Test.YteceenlfegnigaaGreatDoorProg
import Derived.Laws.Externs
import Derived.Shelf.Spec.BitsCarry
import Derived.Shelf.Strings.Builder1
import Derived.Shelf.Strings.Builder2
import Derived.Shelf.Strings.Trim
import Derived.Shelf.Small.Utf8
import Derived.Shelf.Small.Strs
import Derived.Shelf.Strings.BuilderF
import Derived.Shelf.Strings.BuilderK
import Derived.Shelf.Strings.Builder2Cap
import Derived.Shelf.Strings.Search1
import Derived.Shelf.Strings.Prefix
import Derived.Shelf.Unicode.Decode
import Derived.Shelf.Strings.Runes
import Derived.Shelf.Strings.AsciiSet
import Derived.Shelf.Bits.Mul64
import Derived.Shelf.Strings.Repeat
import Derived.Shelf.Unicode.DecodeSlow
import Derived.Shelf.Unicode.DecodeAny
import Derived.Shelf.Strings.BuilderCap
import Derived.Shelf.Slices.Turned
import Derived.Ground.Names2Prog
import Derived.Shelf.Slices.Clone
set_option maxRecDepth 100000
namespace Go.SL
set_option linter.all false
def Kk (k n : Int) (m : Nat) : Bool :=
  if k = 1 then decide (m = 0) && (decide (n = 1) || decide (n = 2) || decide (n = 4) || decide (n = 8) || decide (n = 32))
  else if k = 2 then decide (m = 0) && decide (n = 0)
  else if k = 3 ∨ k = 4 then decide (m = 1) && decide (1 ≤ n) && decide (n ≤ 512)
  else if k = 5 ∨ k = 6 then decide (m = 0) && decide (1 ≤ n) && decide (n ≤ 512)
  else if k = 7 then decide (n = 0) && decide (1 ≤ m) && decide (m ≤ 16)
  else decide (n = 0) && decide (1 ≤ m) && decide (m ≤ 8)
mutual
def V6 : Ty → Int → Int
  | .mk k n _ ins, d => if k < 1 ∨ 8 < k then 9 else if Kk k n ins.length = false then 2 else if 6 ≤ d then 7 else XM ins (d + 1)
def XM : List Ty → Int → Int
  | [], _ => 0
  | x :: xs, d => if V6 x d = 0 then XM xs d else V6 x d
end
mutual
def W8 : Ty → Bool
  | .mk k _ _ ins => !(decide (k = 4) || decide (k = 6) || decide (k = 8)) && ZG ins
def ZG : List Ty → Bool
  | [] => true
  | x :: xs => W8 x && ZG xs
end
mutual
def JV : Ty → Int
  | .mk k n _ ins => if k = 1 then n else if k = 2 then 1 else if k = 5 then (n + 7) / 8 else if k = 3 then n * Wj ins else Wj ins
def Wj : List Ty → Int
  | [] => 0
  | x :: xs => JV x + Wj xs
end
def JJ (t : Ty) : Bool := decide (V6 t 0 = 0) && W8 t
def vT (t : Ty) : Int := if JJ t then JV t else 0
mutual
def Xo : Vl → Vl → Bool
  | .mk a b c d bits _ items _ pick, v => decide ([a, b, c, d] = v.num) && decide (pick = v.pick) && decide (bits = v.bits) && VU items v.items
def VU : List Vl → List Vl → Bool
  | [], [] => true
  | x :: xs, y :: ys => Xo x y && VU xs ys
  | _, _ => false
end
theorem Ty.ind {M : Ty → Prop} (h : ∀ k n p ins, (∀ x ∈ ins, M x) → M (.mk k n p ins)) : ∀ t, M t
  | .mk k n p ins => h k n p ins fun x hx => Ty.ind h x
theorem Vl.ind {M : Vl → Prop} (h : ∀ a b c d bits pb items pi pick, (∀ x ∈ items, M x) → M (.mk a b c d bits pb items pi pick)) : ∀ t, M t
  | .mk a b c d bits pb items pi pick => h a b c d bits pb items pi pick fun x hx => Vl.ind h x
theorem chkL_mem : ∀ {l : List Ty} {d : Int}, XM l d = 0 → ∀ x ∈ l, V6 x d = 0
  | [], _, _, x, hx => by simp at hx
  | y :: l, d, h, x, hx => by
    rw [XM] at h
    split at h
    · rename_i h0
      rcases List.mem_cons.1 hx with rfl | hx
      · exact h0
      · exact chkL_mem h x hx
    · rename_i h0; exact absurd h h0
theorem jm : ∀ {l : List Ty}, ZG l = true ↔ ∀ x ∈ l, W8 x = true
  | [] => by simp [ZG]
  | y :: l => by rw [ZG, Bool.and_eq_true, jm]; simp
theorem QQ {k n : Int} {p : Pl} {ins : List Ty} {d : Int} (h : V6 (.mk k n p ins) d = 0) : (1 ≤ k ∧ k ≤ 8) ∧ Kk k n ins.length = true ∧ d < 6 ∧ ∀ x ∈ ins, V6 x (d + 1) = 0 := by
  rw [V6] at h
  split at h
  · cases h
  · split at h
    · cases h
    · split at h
      · cases h
      · rename_i h1 h2 h3
        exact ⟨by omega, by simpa using h2, by omega, chkL_mem h⟩
def bnd : Nat → Int
  | 0 => 64
  | m + 1 => 512 * bnd m
theorem vi : ∀ m, 64 ≤ bnd m
  | 0 => by decide
  | m + 1 => by have := vi m; rw [bnd]; omega
theorem Jld {m : Nat} (h : m ≤ 5) : bnd m ≤ 2251799813685248 := by
  have : ∀ m : Nat, m < 6 → bnd m ≤ 2251799813685248 := by decide
  exact this m (by omega)
theorem zS {B : Int} : ∀ {l : List Ty}, (∀ x ∈ l, 1 ≤ JV x ∧ JV x ≤ B) → (l.length : Int) ≤ Wj l ∧ Wj l ≤ l.length * B
  | [], _ => by simp [Wj]
  | y :: l, h => by
    have h1 := h y (by simp)
    have h2 := zS (l := l) fun x hx => h x (by simp [hx])
    rw [Wj, List.length_cons]
    have e : ((l.length + 1 : Nat) : Int) * B = l.length * B + B := by rw [Int.natCast_add, Int.add_mul]; simp
    omega
theorem zT (t : Ty) : ∀ d : Int, 0 ≤ d → V6 t d = 0 → W8 t = true → 1 ≤ JV t ∧ JV t ≤ bnd (5 - d).toNat := by
  induction t using Ty.ind with
  | h k n p ins ih =>
    intro d hd hc hf
    obtain ⟨hk, ho, h6, hi⟩ := QQ hc
    rw [W8, Bool.and_eq_true] at hf
    have hb := vi (5 - d).toNat
    have hfix := jm.1 hf.2
    have hne : (k ≠ 4 ∧ k ≠ 6) ∧ k ≠ 8 := by simpa using hf.1
    unfold Kk at ho
    rw [JV]
    by_cases h1 : k = 1
    · subst h1; simp at ho ⊢; omega
    by_cases h2 : k = 2
    · subst h2; simp; omega
    by_cases h5 : k = 5
    · subst h5; simp at ho ⊢; omega
    have hne0 : 1 ≤ ins.length ∧ ins.length ≤ 16 := by
      by_cases h3 : k = 3
      · subst h3; simp at ho; omega
      · have : k = 7 := by omega
        subst this; simp at ho; omega
    have hd5 : d < 5 := by
      obtain ⟨x, hx⟩ : ∃ x, x ∈ ins := ⟨ins[0], List.getElem_mem (by omega)⟩
      cases x with
      | mk a b c e => have := (QQ (hi _ hx)).2.2.1; omega
    have hs := zS (B := bnd (5 - (d + 1)).toNat) fun x hx => ih x hx (d + 1) (by omega) (hi x hx) (hfix x hx)
    have e : (5 - d).toNat = (5 - (d + 1)).toNat + 1 := by omega
    rw [e, bnd]
    have hb2 := vi (5 - (d + 1)).toNat
    generalize bnd (5 - (d + 1)).toNat = B at *
    rw [if_neg h1, if_neg h2, if_neg h5]
    by_cases h3 : k = 3
    · subst h3
      simp at ho
      have hl : (ins.length : Int) = 1 := by omega
      rw [hl] at hs
      rw [if_pos rfl]
      generalize Wj ins = z at *
      constructor
      · exact Int.le_trans (by omega) (Int.mul_le_mul ho.1.2 hs.1 (by omega) (by omega))
      · exact Int.le_trans (Int.mul_le_mul ho.2 hs.2 (by omega) (by omega)) (by omega)
    · rw [if_neg h3]
      generalize Wj ins = z at *
      have : (ins.length : Int) * B ≤ 16 * B := Int.mul_le_mul_of_nonneg_right (by omega) (by omega)
      omega
theorem Wr : ∀ {xs ys : List Vl}, VU xs ys = true ↔ xs.length = ys.length ∧ ∀ (i : Nat) (x y : Vl), xs[i]? = some x → ys[i]? = some y → Xo x y = true
  | [], [] => by simp [VU]
  | [], y :: ys => by simp [VU]
  | x :: xs, [] => by simp [VU]
  | x :: xs, y :: ys => by
    rw [VU, Bool.and_eq_true, Wr]
    constructor
    · rintro ⟨h1, h2, h3⟩
      refine ⟨by simp [h2], fun i a b ha hb => ?_⟩
      cases i with
      | zero => simp at ha hb; subst ha; subst hb; exact h1
      | succ i => exact h3 i a b (by simpa using ha) (by simpa using hb)
    · rintro ⟨h1, h2⟩
      exact ⟨h2 0 x y rfl rfl, by simpa using h1, fun i a b ha hb => h2 (i + 1) a b (by simpa using ha) (by simpa using hb)⟩
theorem Jec (v : Vl) : Xo v v = true := by
  induction v using Vl.ind with
  | h a b c d bits pb items pi pick ih =>
    rw [Xo]
    have : VU items items = true := Wr.2 ⟨rfl, fun i x y hx hy => by rw [hx] at hy; cases hy; exact ih x (List.mem_of_getElem? hx)⟩
    simp [Vl.num, Vl.pick, Vl.bits, Vl.items, this]
end Go.SL
namespace Go.Proofs.YteceenlfegnigaaGreatDoor
set_option linter.all false
open Go.SL Go.RowKit Go.Shelf
theorem Jqj : Go.Proofs.Enters Tryz.prog 16 := Go.Proofs.enters_of Tryz.func16 (by kernel_rfl) rfl
theorem Jed : Go.Proofs.Enters Tryz.prog 19 := Go.Proofs.enters_of Tryz.func19 (by kernel_rfl) rfl
theorem Jul : Go.Proofs.Enters Tryz.prog 20 := Go.Proofs.enters_of Tryz.func20 (by kernel_rfl) rfl
theorem Jum : Go.Proofs.Enters Tryz.prog 37 := Go.Proofs.enters_of Tryz.func37 (by kernel_rfl) rfl
theorem Jqk : Go.Proofs.Enters Tryz.prog 39 := Go.Proofs.enters_of Tryz.func39 (by kernel_rfl) rfl
theorem Jun : Go.Proofs.Enters Tryz.prog 40 := Go.Proofs.enters_of Tryz.func40 (by kernel_rfl) rfl
theorem Juo : Go.Proofs.Enters Tryz.prog 42 := Go.Proofs.enters_of Tryz.func42 (by kernel_rfl) rfl
theorem Jql : Go.Proofs.Enters Tryz.prog 48 := Go.Proofs.enters_of Tryz.func48 (by kernel_rfl) rfl
theorem Jup : Go.Proofs.Enters Tryz.prog 53 := Go.Proofs.enters_of Tryz.func53 (by kernel_rfl) rfl
theorem Jqm : Go.Proofs.Enters Tryz.prog 62 := Go.Proofs.enters_of Tryz.func62 (by kernel_rfl) rfl
theorem Juq : Go.Proofs.Enters Tryz.prog 69 := Go.Proofs.enters_of Tryz.func69 (by kernel_rfl) rfl
theorem Jur : Go.Proofs.Enters Tryz.prog 77 := Go.Proofs.enters_of Tryz.func77 (by kernel_rfl) rfl
theorem Jus : Go.Proofs.Enters Tryz.prog 78 := Go.Proofs.enters_of Tryz.func78 (by kernel_rfl) rfl
theorem Jqn : Go.Proofs.Enters Tryz.prog 79 := Go.Proofs.enters_of Tryz.func79 (by kernel_rfl) rfl
theorem Jle : Go.Proofs.Enters Tryz.prog 80 := Go.Proofs.enters_of Tryz.func80 (by kernel_rfl) rfl
theorem Jqo : Go.Proofs.Enters Tryz.prog 85 := Go.Proofs.enters_of Tryz.func85 (by kernel_rfl) rfl
theorem Jut : Go.Proofs.Enters Tryz.prog 93 := Go.Proofs.enters_of Tryz.func93 (by kernel_rfl) rfl
theorem ZB : Go.Proofs.Enters Tryz.prog 94 := Go.Proofs.enters_of Tryz.func94 (by kernel_rfl) rfl
theorem Jlf : Go.Proofs.Enters Tryz.prog 95 := Go.Proofs.enters_of Tryz.func95 (by kernel_rfl) rfl
theorem Jf2 : Go.Proofs.Enters Tryz.prog 101 := Go.Proofs.enters_of Tryz.func101 (by kernel_rfl) rfl
theorem Jlg : Go.Proofs.Enters Tryz.prog 103 := Go.Proofs.enters_of Tryz.func103 (by kernel_rfl) rfl
theorem Jlh : Go.Proofs.Enters Tryz.prog 113 := Go.Proofs.enters_of Tryz.func113 (by kernel_rfl) rfl
theorem Jli : Go.Proofs.Enters Tryz.prog 114 := Go.Proofs.enters_of Tryz.func114 (by kernel_rfl) rfl
theorem Jf3 : Go.Proofs.Enters Tryz.prog 115 := Go.Proofs.enters_of Tryz.func115 (by kernel_rfl) rfl
theorem Jlj : Go.Proofs.Enters Tryz.prog 129 := Go.Proofs.enters_of Tryz.func129 (by kernel_rfl) rfl
theorem Jf4 : Go.Proofs.Enters Tryz.prog 134 := Go.Proofs.enters_of Tryz.func134 (by kernel_rfl) rfl
theorem Jlk : Go.Proofs.Enters Tryz.prog 142 := Go.Proofs.enters_of Tryz.func142 (by kernel_rfl) rfl
theorem Jll : Go.Proofs.Enters Tryz.prog 143 := Go.Proofs.enters_of Tryz.func143 (by kernel_rfl) rfl
theorem Jbd : Go.Proofs.Enters Tryz.prog 161 := Go.Proofs.enters_of Tryz.func161 (by kernel_rfl) rfl
theorem Jlm : Go.Proofs.Enters Tryz.prog 164 := Go.Proofs.enters_of Tryz.func164 (by kernel_rfl) rfl
theorem Jf5 : Go.Proofs.Enters Tryz.prog 165 := Go.Proofs.enters_of Tryz.func165 (by kernel_rfl) rfl
theorem Jbe : Go.Proofs.Enters Tryz.prog 174 := Go.Proofs.enters_of Tryz.func174 (by kernel_rfl) rfl
theorem Jln : Go.Proofs.Enters Tryz.prog 175 := Go.Proofs.enters_of Tryz.func175 (by kernel_rfl) rfl
theorem Jlo : Go.Proofs.Enters Tryz.prog 186 := Go.Proofs.enters_of Tryz.func186 (by kernel_rfl) rfl
theorem Jf6 : Go.Proofs.Enters Tryz.prog 197 := Go.Proofs.enters_of Tryz.func197 (by kernel_rfl) rfl
theorem Jlp : Go.Proofs.Enters Tryz.prog 204 := Go.Proofs.enters_of Tryz.func204 (by kernel_rfl) rfl
theorem Jf7 : Go.Proofs.Enters Tryz.prog 209 := Go.Proofs.enters_of Tryz.func209 (by kernel_rfl) rfl
theorem Jf8 : Go.Proofs.Enters Tryz.prog 210 := Go.Proofs.enters_of Tryz.func210 (by kernel_rfl) rfl
theorem Jlq : Go.Proofs.Enters Tryz.prog 212 := Go.Proofs.enters_of Tryz.func212 (by kernel_rfl) rfl
theorem Jlr : Go.Proofs.Enters Tryz.prog 230 := Go.Proofs.enters_of Tryz.func230 (by kernel_rfl) rfl
theorem Jf9 : Go.Proofs.Enters Tryz.prog 250 := Go.Proofs.enters_of Tryz.func250 (by kernel_rfl) rfl
theorem Jga : Go.Proofs.Enters Tryz.prog 273 := Go.Proofs.enters_of Tryz.func273 (by kernel_rfl) rfl
theorem Jgb : Go.Proofs.Enters Tryz.prog 282 := Go.Proofs.enters_of Tryz.func282 (by kernel_rfl) rfl
theorem Xa {t : Ty} : JJ t = true ↔ V6 t 0 = 0 ∧ W8 t = true := by unfold JJ; simp
theorem YJ {a b c d a' b' c' d' : Nat} {l l' : List Bool} {pb pb' pi pi' : Pl} {m m' : List Vl} {k k' : Int} : Xo (.mk a b c d l pb m pi k) (.mk a' b' c' d' l' pb' m' pi' k') = (decide ([a, b, c, d] = [a', b', c', d']) && decide (k = k') && decide (l = l') && VU m m') := by
  rw [Xo]; rfl
theorem Jqp {l l' : List Bool} {i : Nat} {x y : Bool} (h1 : l[i]? = some x) (h2 : l'[i]? = some y) (h : x ≠ y) : l ≠ l' := fun e => by subst e; rw [h1] at h2; exact h (Option.some.inj h2)
theorem Jqq {l l' : List Bool} {i : Nat} (hl : l.length = l'.length) (hi : l.length ≤ i) (h : ∀ j, j < i → l[j]? = l'[j]?) : l = l' := by
  apply List.ext_getElem?
  intro j
  by_cases hj : j < i
  · exact h j hj
  · rw [List.getElem?_eq_none (by omega), List.getElem?_eq_none (by omega)]
theorem Jqr {m m' : List Vl} {i : Nat} {x y : Vl} (h1 : m[i]? = some x) (h2 : m'[i]? = some y) (h : Xo x y = false) : VU m m' = false := by
  cases hs : VU m m' with
  | false => rfl
  | true => rw [(Wr.1 hs).2 i x y h1 h2] at h; cases h
theorem Jqs {m m' : List Vl} (h : m.length ≠ m'.length) : VU m m' = false := by
  cases hs : VU m m' with
  | false => rfl
  | true => exact absurd (Wr.1 hs).1 h
theorem XZ (n : Nat) : Pure Tryz.prog 80 [uV n].toArray (wV [n, 0, 0, 0]) := by
  refine JC Tryz.func80 rfl rfl fun w => ?_; refine sR fun _ hK1 => ?_; refine LN rfl fun r1 => ?_; refine nK hK1 (sR fun _ hK2 => ?_); refine Ji rfl (LR rfl (JI (r := [_, _, _, _]) rfl rfl) ?_)
  refine LT 0 rfl rfl (nK hK2 ?_); refine Jb ?_; refine Jv rfl rfl (.cons (J6 (vs := [_, _, _, _]) rfl (kn 0 rfl) rfl rfl) .nil) (fun w1 hs1 => ?_); exact ⟨rfl, hs1.keep⟩
theorem Jls {l : List Nat} {i : Nat} (hi : i < 32) : ((List.replicate (32 - i) (0 : UInt8) ++ Zm l i).map bV).set (31 - i) (bV (UInt8.ofNat (dg l i))) = (List.replicate (32 - (i + 1)) 0 ++ Zm l (i + 1)).map bV := by
  rw [← List.map_set, show 32 - i = (31 - i) + 1 from by omega, Jqg, show 32 - (i + 1) = 31 - i from by omega]
  rfl
theorem Yv {l : List Nat} (hl : WOk l) : Pure Tryz.prog 115 [wV l].toArray (.string (bs (Zm l 32))) := by
  refine JC Tryz.func115 rfl rfl fun w => ?_; refine sR fun _ hK1 => ?_; refine Qi (cs := (l.map uV).toArray) rfl rfl rfl rfl fun r1 => ?_; refine Ji rfl (nK hK1 ?_); refine sR fun _ hK2 => ?_; refine Wz (n := 32) (b := 1) rfl rfl rfl rfl rfl rfl rfl rfl rfl (by decide) (by decide) fun r2 => ?_; refine Ji rfl (nK hK2 ?_); refine sQ fun _ hK3 => sR fun _ hK4 => ?_; refine Ji rfl (nK hK4 ?_); refine Ju (JG (σ := Nat) (fun i => i ≤ 32) (fun i => [(1, .pointer (some ⟨r1, 0, none⟩)), (3, .slice (some ⟨r2, 0, none⟩) 32 32), (6, .int .i64 (i : Int))]) (fun i => [(r2, .cells ((List.replicate (32 - i) (0 : UInt8) ++ Zm l i).map bV).toArray 5 (0, 0)), (r1, .cells (l.map uV).toArray 31 (0, 0))]) (fun _ _ _ => True) (fun i => 32 - i) 0 (Nat.zero_le _) (.cons rfl (.cons rfl (.cons rfl .nil))) (List.Sublist.refl _) (fun _ _ h => h) ?_); intro i hi; refine sR fun _ hK5 => JZ rfl (nK hK5 ?_); refine sQ fun _ hK6 => ?_; refine Jc rfl (fun h7 => ?_) (fun h7 => ?_)
  try simp only [ZZ] at h7
  refine Jf (hK6 ?_); refine sB fun _ hK8 => sR fun _ hK9 => ?_; refine LS 2 [] rfl rfl (nK hK9 ?_); refine Ja (LS 3 [] rfl rfl (Jt (by omega) (by omega) ?_)); refine LS 2 [] rfl rfl ?_; refine Jkk (by omega) (by omega) (by omega) ?_; refine LR rfl (JQ (j := i / 8) (m := 1) (off' := i / 8) rfl rfl rfl rfl (by omega) (by omega) (by omega)) ?_; refine LR rfl (KG rfl (kn 1 rfl) rfl (KT (by rw [hl.1]; omega))) ?_; refine LS 2 [] rfl rfl ?_; refine Jue (by omega) ?_; refine JZ rfl (Jt (by omega) (by omega) (LR rfl (vL (n := i % 8 * 8) rfl rfl (by omega) (show _ ≤ 64 from by omega) (by omega) (ve _ _)) ?_)); refine JZ rfl (Jy (show _ = bV (UInt8.ofNat (dg l i)) from jg _) (LR rfl (Ki (j := 31 - i) (m := 1) (off' := 31 - i) rfl rfl rfl rfl (by omega) (by omega) (by omega)) ?_)); refine KS (k := 0) (off := 31 - i) (xs := (List.replicate (32 - i) (0 : UInt8) ++ Zm l i).map bV) (ys := (List.replicate (32 - (i + 1)) 0 ++ Zm l (i + 1)).map bV) rfl rfl rfl rfl rfl rfl (by simp [VO]; omega) (Jls (by omega)) rfl ?_; refine Jg (Jj (hK8 ?_)); refine Ja (JZ rfl (Jt (by omega) (by omega) ?_)); refine Ji rfl (Jg (J5 ?_)); exact J1 (i + 1) (by omega) (by omega) (.cons rfl (.cons rfl (.cons rfl .nil))) (List.Sublist.refl _) (fun _ _ h => h)
  · try simp only [ZZ] at h7
    refine JE (Jl ?_); refine Jl (J0 (hK3 ?_))
    have hi32 : i = 32 := by omega
    subst hi32; refine sR fun _ hK10 => Ji rfl ?_; refine LR rfl (QH (b := Zm l 32) (row := some (r2, 32, [])) (e := 5) rfl ⟨rfl, rfl⟩ (fun p hp => .inl (by rw [List.mem_singleton.1 hp]; exact List.mem_cons_self)) rfl rfl rfl) ?_; refine Ji rfl (nK hK10 ?_); refine Jb (pT rfl rfl rfl fun w1 hs1 => ?_); exact ⟨rfl, hs1.keep⟩
theorem vU (s : List UInt8) : Pure Tryz.prog 184 [.string (bs s)].toArray (Jqh (qP s)) := by
  refine JC Tryz.func184 rfl rfl fun w => ?_
  obtain ⟨f, hf⟩ : ∃ f : Nat → Nat, f = fun t => (s.getD (31 - t) 0).toNat := ⟨_, rfl⟩
  have hfl : ∀ i, f i < 256 := fun i => by rw [hf]; exact Vu _
  have hfu : ZT f 32 = yn s := by rw [hf]; rfl
  refine sR fun _ hK1 => ?_; refine LN rfl fun r1 => ?_; refine Ji rfl (nK hK1 ?_); refine sQ fun _ hK2 => sR fun _ hK3 => ?_; refine Ji rfl (LR rfl (JT rfl rfl) (JZ rfl ?_)); refine nK hK3 ?_; refine Jc rfl (fun h4 => ?_) (fun h4 => ?_)
  try simp only [ZZ] at h4
  refine sR fun _ hK5 => ?_; refine LR rfl (JI (r := [_, _, _, _]) rfl rfl) ?_
  refine LT 0 rfl rfl (Ji rfl ?_); refine nK hK5 (Jb (Jd ?_)); refine Jv rfl rfl (.cons (J6 (vs := [_, _, _, _]) rfl (kn 0 rfl) rfl rfl) (.cons (J4 rfl) .nil)) (fun w1 hs1 => ?_); refine ⟨?_, hs1.keep⟩; rw [show qP s = (zW, 2) from by unfold qP; rw [if_neg (by omega)]]; rfl
  · try simp only [ZZ] at h4
    refine Jf (hK2 ?_); refine sR fun _ hK6 => ?_; refine LN rfl fun r2 => ?_; refine nK hK6 (sQ fun _ hK7 => ?_); refine sR fun _ hK8 => Ji rfl (nK hK8 ?_); refine Ju (JG (σ := Nat) (fun i => i ≤ 32) (fun i => [(0, .string (bs s)), (2, .pointer (some ⟨r1, 0, none⟩)), (4, .pointer (some ⟨r2, 0, none⟩)), (10, .int .i64 (i : Int))]) (fun i => [(r2, .cells ((ZT f i).map uV).toArray 31 (0, 0)), (r1, .cells (zW.map uV).toArray 31 (0, 0))]) (fun _ _ _ => True) (fun i => 32 - i) 0 (Nat.zero_le _) (.cons rfl (.cons rfl (.cons rfl (.cons rfl .nil)))) (List.Sublist.refl _) (fun _ _ h => h) ?_); intro i hi; refine sR fun _ hK9 => JZ rfl (nK hK9 ?_); refine sQ fun _ hK10 => ?_; refine Jc rfl (fun h11 => ?_) (fun h11 => ?_)
    try simp only [ZZ] at h11
    refine Jf (hK10 ?_); refine sB fun _ hK12 => sR fun _ hK13 => ?_; refine LS 2 [] rfl rfl (nK hK13 ?_); refine Ka 15 (by kernel_rfl) (by kernel_rfl) ?_; refine Jk rfl rfl rfl (Jo rfl) ?_; refine Jk rfl rfl rfl (J9 rfl rfl rfl) ?_; refine Jud (by omega) (by omega) (by omega) ?_; refine Jk rfl rfl rfl (JQ (j := i / 8) (m := 1) (off' := i / 8) rfl rfl rfl rfl (by omega) (by omega) (by omega)) ?_; refine Jk rfl rfl rfl (KG rfl (kn 0 rfl) rfl (KT (by rw [Jfx]; omega))) ?_; refine Jk rfl rfl rfl (Jo rfl) ?_; refine Jk rfl rfl rfl (Jo rfl) ?_; refine Jk rfl rfl rfl (J9 rfl rfl rfl) ?_; refine VT (by omega) (by omega) ?_; refine Jk rfl rfl rfl (Wq (j := 31 - i) rfl rfl rfl (by omega) (by omega) rfl) ?_; refine Jk rfl rfl rfl (J9 rfl rfl rfl) ?_; refine Qk (show _ = Value.int .u64 ((f i : Nat) : Int) from by rw [hf]; exact congrArg (Value.int .u64) (wrap_u64 (by omega) (by have := Vu (s.getD (31 - i) 0); omega))) ?_; refine Jk rfl rfl rfl (Jo rfl) ?_; refine Jk rfl rfl rfl (J9 rfl rfl rfl) ?_; refine Juf (by omega) ?_; refine Jk rfl rfl rfl (J9 rfl rfl rfl) ?_; refine VT (by omega) (by omega) ?_; refine Jk rfl rfl rfl (yz (n := i % 8 * 8) rfl rfl (by omega) (show _ ≤ 64 from by omega) (zO (vQ (hfl i) (by omega)))) ?_; refine Jk rfl rfl rfl (V0 (op := .or) (b := (((ZT f i).getD (i / 8) 0 + f i * 2 ^ (i % 8 * 8) : Nat) : Int)) rfl rfl rfl ((Jd9 hfl i).get _) (vQ (hfl i) (by omega)) (congrArg (fun z : Nat => (z : Int)) (by rw [Jfw f (by omega)]; exact Jk2 (Jk0 hfl _ _)))) ?_; refine Jk rfl rfl rfl (JQ (j := i / 8) (m := 1) (off' := i / 8) rfl rfl rfl rfl (by omega) (by omega) (by omega)) ?_; refine Kt ?_; refine KS (k := 0) (off := i / 8) (xs := (ZT f i).map uV) (ys := (ZT f (i + 1)).map uV) rfl rfl rfl rfl rfl rfl (by simp [Jfx]; omega) (W6 (Jk1 f (by omega))) rfl ?_; refine Jg (Jj (hK12 ?_)); refine Ja (JZ rfl (Jt (by omega) (by omega) ?_)); refine Ji rfl (Jg (J5 ?_)); exact J1 (i + 1) (by omega) (by omega) (.cons rfl (.cons rfl (.cons rfl (.cons rfl .nil)))) (List.Sublist.refl _) (fun _ _ h => h)
    · try simp only [ZZ] at h11
      refine JE (Jl ?_); refine Jl (J0 (hK7 ?_)); refine sQ fun _ hK14 => ?_
      have hi32 : i = 32 := by omega
      subst hi32; refine Ja (LR rfl (Jq (xs := (ZT f 32).map uV) rfl (kn 0 rfl) rfl rfl rfl) (Jz (k := 1) (n := 4) (ys := (ZT f 32).map uV) rfl rfl rfl rfl rfl rfl rfl rfl rfl ?_)); refine Ji rfl (nK hK14 ?_); refine Jb ?_; refine Jv rfl rfl (.cons (J6 (vs := [_, _, _, _]) rfl (kn 1 rfl) rfl rfl) (.cons (J4 rfl) .nil)) (fun w1 hs1 => ?_); refine ⟨?_, hs1.keep⟩; rw [show qP s = (yn s, 0) from by unfold qP; rw [if_pos (by omega)], ← hfu]; rfl
theorem Jqt {a b : List Nat} (ha : a.length = 4) (hb : b.length = 4) : PureE (α := Nat × Nat) Tryz.prog 281 [wV a, wV b].toArray (fun p => .func (.func 287) #[] #[.pointer (some ⟨p.1, 0, none⟩), .pointer (some ⟨p.2, 0, none⟩)])
    (fun p => [(p.2, .cells (b.map uV).toArray 31 (0, 0)), (p.1, .cells (a.map uV).toArray 31 (0, 0))]) := by
  refine Vy Tryz.func281 rfl rfl fun w => ?_; refine sR fun _ hK1 => ?_; refine Qi (cs := (a.map uV).toArray) rfl rfl rfl rfl fun r1 => ?_; refine Qi (cs := (b.map uV).toArray) rfl rfl rfl rfl fun r2 => ?_; refine Ji rfl (nK hK1 ?_); refine sR fun _ hK2 => ?_; refine LR rfl (Kv rfl rfl) ?_; refine Ji rfl (nK hK2 ?_); refine Jb (pT rfl rfl rfl fun w1 hs1 => ?_); exact ⟨(r1, r2), rfl, hs1⟩
def Jlt (a b : List Nat) (i : Nat) : List Value := [.int .i64 (i : Int), .agg [.int .u64 ((a.getD i 0 : Nat) : Int), .int .u64 ((b.getD i 0 : Nat) : Int)].toArray]
theorem Jqu {a b : List Nat} (ha : a.length = 4) (hb : b.length = 4) (p1 p2 : Nat) : zz Tryz.prog 287 [.pointer (some ⟨p1, 0, none⟩), .pointer (some ⟨p2, 0, none⟩)]
    [(p2, .cells (b.map uV).toArray 31 (0, 0)), (p1, .cells (a.map uV).toArray 31 (0, 0))] 0 (nxN (Jlt a b) 4) (Jd3 4) := by
  refine Wp Tryz.func287 rfl rfl fun q xids w2 XI XF hY => ?_; refine sR fun _ hK1 => Ji rfl (nK hK1 ?_); refine Ju (JG (σ := Nat) (fun i => i ≤ 4) (fun i => [(0, .func (.yield q) #[] #[]), (1, .pointer (some ⟨p1, 0, none⟩)), (2, .pointer (some ⟨p2, 0, none⟩)), (5, .int .i64 (i : Int))]) (fun _ => []) (fun i => XI i) (fun i => 4 - i) 0 (Nat.zero_le _) (.cons rfl (.cons rfl (.cons rfl (.cons rfl .nil)))) (List.nil_sublist _) (fun _ _ h => h) ?_); intro i hi; refine sR fun _ hK2 => JZ rfl (nK hK2 ?_); refine sQ fun _ hK3 => ?_; refine Jc rfl (fun h4 => ?_) (fun h4 => ?_)
  · try simp only [ZZ] at h4
    refine Jf (hK3 ?_); refine sB fun _ hK5 => sR fun _ hK6 => ?_; refine LS 2 [] rfl rfl (nK hK6 ?_); refine sQ fun _ hK7 => ?_; refine Ka 9 (by kernel_rfl) (by kernel_rfl) ?_; refine Jk rfl rfl rfl (Jo rfl) ?_; refine Jk rfl rfl rfl (Jo rfl) ?_; refine Jk rfl rfl rfl (Jo rfl) ?_; refine Jk rfl rfl rfl (JQ (j := i) (m := 1) (off' := i) rfl rfl rfl rfl rfl (by omega) (by omega)) ?_; refine Jk rfl rfl rfl (KG rfl (J8 (k := 1) rfl) rfl (KT (by omega))) ?_; refine Jk rfl rfl rfl (Jo rfl) ?_; refine Jk rfl rfl rfl (JQ (j := i) (m := 1) (off' := i) rfl rfl rfl rfl rfl (by omega) (by omega)) ?_; refine Jk rfl rfl rfl (KG rfl (J8 (k := 0) rfl) rfl (KT (by omega))) ?_; refine Jk rfl rfl rfl (JI (r := [_, _]) rfl rfl) ?_; refine Kt ?_; refine W5 (XT := XI (i + 1)) (XF := XF) rfl rfl rfl rfl (hY i (Jlt a b i) (i + 1) ⟨by omega, rfl, rfl⟩) ?_ ?_
    all_goals refine JZ rfl ?_
    all_goals refine Jg ?_
    all_goals (
     refine hK7 ?_; refine Jc rfl (fun h8 => ?_) (fun h8 => ?_)
     · try exact Bool.noConfusion h8
       all_goals try simp only [ZZ] at h8
       all_goals (
        refine Jb (Jn (Jd ?_)); refine Jd (Jn ?_); refine Jv rfl rfl .nil (fun w1 hs1 => ?_)
        obtain ⟨xs1, hx1⟩ := hs1.now
        exact ⟨⟨_, rfl⟩, hs1.keep, .inr ⟨_, hx1⟩⟩
        skip)
     · try exact Bool.noConfusion h8
       all_goals try simp only [ZZ] at h8
       all_goals (
        refine Jf (Jj (hK5 ?_)); refine Ja (JZ rfl (Jt (by omega) (by omega) ?_)); refine Ji rfl (Jg (J5 ?_)); exact J1 (i + 1) (by omega) (by omega) (.cons rfl (.cons rfl (.cons rfl (.cons rfl .nil)))) (List.nil_sublist _) (fun _ _ h => h)
        skip)
     skip)
  · try simp only [ZZ] at h4
    refine JE (Jl ?_); refine Jl (J0 ?_); refine Qx rfl rfl .nil (fun w1 hs1 => ?_)
    obtain ⟨xs1, hx1⟩ := hs1.now
    exact ⟨⟨_, rfl⟩, hs1.keep, .inl ⟨i, _, (by show i = 4; omega), hx1⟩⟩
theorem Jqv {g : FuncId} {F G : Nat → Nat → Nat → Nat} (C : Car Tryz.prog g F G) {a b : List Nat} (ha : WOk a) (hb : WOk b) : Pure Tryz.prog 270 [wV a, wV b, .func (.func g) #[] #[]].toArray (Jqh (crR F G a b)) := by
  refine JC Tryz.func270 rfl rfl fun w => ?_; refine sR fun _ hK1 => ?_; refine Qi (cs := (a.map uV).toArray) rfl rfl rfl rfl fun r1 => ?_; refine Qi (cs := (b.map uV).toArray) rfl rfl rfl rfl fun r2 => ?_; refine LN rfl fun r3 => ?_; refine QF (cs := (zW.map uV).toArray) rfl rfl rfl rfl fun r4 => ?_; refine Ji rfl (nK hK1 ?_); refine sR fun _ hK2 => ?_; refine QF (cs := (zW.map uV).toArray) rfl rfl rfl rfl fun r5 => ?_; refine nK hK2 (sR fun _ hK3 => ?_); refine LN rfl fun r6 => ?_
  refine LT 0 rfl rfl (nK hK3 ?_); refine sQ fun _ hK4 => sR fun _ hK5 => ?_; refine LR rfl (Jq (xs := a.map uV) (n := 4) rfl (kn 5 rfl) rfl rfl (by rw [List.length_map, ha.1])) ?_; refine LR rfl (Jq (xs := b.map uV) (n := 4) rfl (kn 4 rfl) rfl rfl (by rw [List.length_map, hb.1])) ?_; refine Vq rfl rfl rfl (enters_of Tryz.func281 (by kernel_rfl) rfl) (Jqt ha.1 hb.1) fun pp => ?_
  obtain ⟨p1, p2⟩ := pp
  change HL _ _ _ [(p2, _), (p1, _), (r6, _), (r5, _), (r4, _), (r3, _), (r2, _), (r1, _)] _ _ _ _; refine nK hK5 (Ju (Yr [3, 2, 0, 1, 4, 5, 6, 7] (by decide) rfl ?_)); refine XV (τ := Unit) (fun i (s : List Nat × Nat) => s = yo F G a b i ∧ i ≤ 4) (fun s => [(r5, .cells (s.1.map uV).toArray 31 (0, 0)), (r6, .cells #[uV s.2] 29 (0, 0))]) (fun _ _ => False) (fun _ => []) [(p2, _), (p1, _), (r4, _), (r3, _), (r2, _), (r1, _)] (zW, 0) rfl rfl (enters_of Tryz.func287 (by kernel_rfl) rfl) (Jqu ha.1 hb.1 p1 p2) (by rintro _ _ _ ⟨_, rfl, _⟩; rfl) rfl (by simp) rfl ⟨rfl, by decide⟩ ?_ ?_ ?_
  rintro q Xr Xb w3 i _ _ s ⟨hi, rfl, rfl⟩ ⟨hs, -⟩ Kr hKr
  have hs4 : s.1.length = 4 := by rw [hs]; exact Zn F G a b i
  have hs1 : s.2 ≤ 1 := by rw [hs]; exact (Jk4 C ha hb i).2
  refine sR fun _ hK6 => Ji rfl (nK hK6 ?_); refine Ja (LN rfl fun r1 => ?_)
  refine LT 0 rfl rfl (Jg ?_); refine hKr _ _ ?_; clear hKr; refine Ju (Ja ?_); refine Ji rfl (LR rfl (Jm rfl (J8 (k := 3) rfl) rfl rfl) ?_)
  refine LR rfl (JQ (j := 0) rfl rfl rfl rfl rfl (by first | decide | omega) (by first | (simp only [Nat.zero_add, Nat.reduceAdd, Nat.reduceMul, Nat.zero_mul, Nat.mul_one, Nat.add_zero]; exact rfl) | exact rfl)) ?_; refine LR rfl (Jm rfl (kn 0 rfl) rfl rfl) ?_
  refine LR rfl (JQ (j := 1) rfl rfl rfl rfl rfl (by first | decide | omega) (by first | (simp only [Nat.zero_add, Nat.reduceAdd, Nat.reduceMul, Nat.zero_mul, Nat.mul_one, Nat.add_zero]; exact rfl) | exact rfl)) ?_; refine LS 2 [0, 2] rfl rfl ?_; refine LR rfl (Jqd rfl rfl (fun w => C.run (a.getD i 0) (b.getD i 0) s.2 w hs1)) ?_; refine LS 3 [] rfl rfl ?_; refine LR rfl (JQ (j := i) (m := 1) (off' := i) rfl rfl rfl rfl rfl (by omega) (by omega)) ?_; refine KS (k := 1) (off := i) (xs := s.1.map uV) (ys := (s.1.set i (F (a.getD i 0) (b.getD i 0) s.2)).map uV) rfl rfl rfl rfl rfl rfl (by rw [List.length_map, hs4]; omega) (W6 rfl) rfl ?_
  refine LT 2 rfl rfl (Jg ?_); refine Jj (Vi [1, 2] (L' := [_, _]) (by decide) rfl (QN (yo F G a b (i + 1)) ⟨rfl, by omega⟩ ?_)); simp only [yo, ← hs]
  rintro D i s hfi ⟨hs, -⟩
  have hi4 : i = 4 := hfi
  subst hi4
  have hs4 : s.1.length = 4 := by rw [hs]; exact Zn F G a b 4
  have hcr : crR F G a b = if s.2 = 0 then (s.1, 0) else (zW, 6) := by rw [hs]; rfl
  refine Jj (hK4 ?_); refine sQ fun _ hK7 => sR fun _ hK8 => ?_; refine LS 2 [2] rfl rfl (nK hK8 ?_); refine Jc rfl (fun h9 => ?_) (fun h9 => ?_)
  try simp only [ZZ] at h9
  refine sR fun _ hK10 => ?_; refine LR rfl (JI (r := [_, _, _, _]) rfl rfl) ?_
  refine LT 5 rfl rfl (Ji rfl ?_); refine nK hK10 (Jb (Jd ?_)); refine QK (k := 0) rfl rfl ?_
  (refine Jv rfl rfl (.cons (J6 (vs := [_, _, _, _]) rfl (kn 5 rfl) rfl rfl) (.cons (J4 rfl) .nil)) (fun w1 hs1 => ?_)
   exact ⟨by rw [hcr, if_neg (by omega)]; rfl, hs1.keep⟩)
  try simp only [ZZ] at h9
  refine Jf (hK7 ?_); refine sR fun _ hK11 => ?_; refine LR rfl (Jq (xs := s.1.map uV) (n := 4) rfl (kn 1 rfl) rfl rfl (by rw [List.length_map, hs4])) ?_; refine Jz (k := 5) (n := 4) (ys := s.1.map uV) rfl rfl rfl rfl rfl (by rw [List.length_map, hs4]) rfl (by simp [uV, QR, List.all_map, List.all_eq_true]) rfl ?_; refine Ji rfl (nK hK11 ?_); refine Jb (QK (k := 0) rfl rfl ?_)
  (refine Jv rfl rfl (.cons (J6 (vs := s.1.map uV) rfl (kn 5 rfl) rfl (by rw [List.length_map, hs4]; rfl)) (.cons (J4 rfl) .nil)) (fun w1 hs1 => ?_)
   exact ⟨by rw [hcr, if_pos (by omega)]; rfl, hs1.keep⟩)
  · exact fun _ _ _ h => h.elim
theorem Jqw : Car Tryz.prog 271 jh ZA := by
  refine ⟨fun x y c w hc => ?_, fun x y c => Nat.mod_lt _ (by decide), fun x y c hx hy hc => ?_⟩
  · show (callFunc _ #[.int .u64 (x : Int), .int .u64 (y : Int), .int .u64 (c : Int)]).run _ _ = _
    rw [run_callFunc_extern Tryz.func271 (by kernel_rfl) (by kernel_rfl) (by kernel_rfl) (e := sub64Entry) (by kernel_rfl), run_sub64 x y c hc]
    rfl
  · unfold ZA; split <;> omega
theorem Jee {a b : List Nat} (ha : WOk a) (hb : WOk b) : Pure Tryz.prog 253 [wV a, wV b].toArray (Jqh (yp a b)) := by
  refine JC Tryz.func253 rfl rfl fun w => ?_; refine sR fun _ hK1 => ?_; refine Qi (cs := (a.map uV).toArray) rfl rfl rfl rfl fun r1 => ?_; refine Qi (cs := (b.map uV).toArray) rfl rfl rfl rfl fun r2 => ?_; refine QF (cs := (zW.map uV).toArray) rfl rfl rfl rfl fun r3 => ?_; refine Ji rfl (nK hK1 ?_); refine sR fun _ hK2 => ?_; refine LR rfl (Jq (xs := a.map uV) (n := 4) rfl (kn 2 rfl) rfl rfl (by rw [List.length_map, ha.1])) ?_; refine LR rfl (Jq (xs := b.map uV) (n := 4) rfl (kn 1 rfl) rfl rfl (by rw [List.length_map, hb.1])) ?_; refine JD rfl rfl rfl (enters_of Tryz.func270 (by kernel_rfl) rfl) (Jqv Jqw ha hb) ?_; refine LS 2 [] rfl rfl ?_; refine Jz (k := 0) (n := 4) (ys := (yp a b).1.map uV) rfl rfl rfl rfl rfl (by rw [List.length_map]; exact zP) rfl (YI _) rfl ?_; refine Ji rfl (nK hK2 ?_); refine Jb ?_; refine Jv rfl rfl (.cons (J6 (vs := (yp a b).1.map uV) rfl (kn 0 rfl) rfl (by rw [List.length_map, show (yp a b).1.length = 4 from zP]; rfl)) (.cons (J4 rfl) .nil)) (fun w1 hs1 => ?_); exact ⟨rfl, hs1.keep⟩
theorem Jbf {a b : List Nat} (ha : WOk a) (hb : WOk b) : Pure Tryz.prog 206 [wV a, wV b].toArray (.bool (yA a b)) := by
  refine JC Tryz.func206 rfl rfl fun w => ?_; refine sR fun _ hK1 => ?_; refine Qi (cs := (a.map uV).toArray) rfl rfl rfl rfl fun r1 => ?_; refine Qi (cs := (b.map uV).toArray) rfl rfl rfl rfl fun r2 => ?_; refine Ji rfl (nK hK1 ?_); refine sQ fun _ hK2 => sR fun _ hK3 => ?_; refine LR rfl (Jq (xs := a.map uV) (n := 4) rfl (kn 1 rfl) rfl rfl (by rw [List.length_map, ha.1])) ?_; refine LR rfl (Jq (xs := b.map uV) (n := 4) rfl (kn 0 rfl) rfl rfl (by rw [List.length_map, hb.1])) ?_; refine LR rfl (zG (xs := a.map uV) (ys := b.map uV) (n := 4) rfl rfl rfl rfl rfl (by kernel_rfl) (by rw [List.length_map, ha.1]) (by rw [List.length_map, hb.1]) (Zo rfl a) (Zo rfl b)) ?_; refine Jy (congrArg Value.bool (vf (ha.1.trans hb.1.symm))) ?_; refine nK hK3 ?_; refine Jc rfl (fun h4 => ?_) (fun h4 => ?_)
  · try simp only [ZZ] at h4
    refine sR fun _ hK5 => Ji rfl (nK hK5 ?_); refine Jb (Jd ?_); refine pT rfl rfl rfl fun w1 hs1 => ?_; refine ⟨?_, hs1.keep⟩
    (have hab : a = b := by assumption
     unfold yA; simp [JP, hab]; done)
  · try simp only [ZZ] at h4
    refine Jf (hK2 ?_); refine sR fun _ hK6 => ?_; refine LR rfl (Jq (xs := a.map uV) (n := 4) rfl (kn 1 rfl) rfl rfl (by rw [List.length_map, ha.1])) ?_; refine LR rfl (Jq (xs := b.map uV) (n := 4) rfl (kn 0 rfl) rfl rfl (by rw [List.length_map, hb.1])) ?_; refine JD rfl rfl rfl (enters_of Tryz.func253 (by kernel_rfl) rfl) (Jee ha hb) ?_; refine LS 3 [] rfl rfl ?_; refine QF (cs := (zW.map uV).toArray) rfl rfl rfl rfl fun r3 => ?_; refine Jz (k := 0) (n := 4) (ys := (yp a b).1.map uV) rfl rfl rfl rfl rfl (by rw [List.length_map]; exact zP) rfl (YI _) rfl ?_; refine Ji rfl (nK hK6 ?_); refine sR fun _ hK7 => LS 3 [] rfl rfl (nK hK7 ?_); refine Jb (pT rfl rfl rfl fun w1 hs1 => ?_); refine ⟨?_, hs1.keep⟩
    (have hab : ¬ a = b := by assumption
     unfold yA; simp [JP, hab])
theorem zU {l : List Nat} (hl : WOk l) : Pure Tryz.prog 61 [wV l].toArray (vR l) := by
  refine JC Tryz.func61 rfl rfl fun w => ?_; refine sR fun _ hK1 => ?_; refine Qi (cs := (l.map uV).toArray) rfl rfl rfl rfl fun r1 => ?_; refine LS 2 [] rfl rfl (nK hK1 ?_); refine sQ fun _ hK2 => sQ fun _ hK3 => ?_; refine Ka 5 (by kernel_rfl) (by kernel_rfl) ?_; refine Jk rfl rfl rfl (Jq (xs := l.map uV) (n := 4) rfl (kn 0 rfl) rfl rfl (by rw [List.length_map, hl.1])) ?_
  refine Jk rfl rfl rfl (JQ (j := 0) rfl rfl rfl rfl rfl (by first | decide | omega) (by first | (simp only [Nat.zero_add, Nat.reduceAdd, Nat.reduceMul, Nat.zero_mul, Nat.mul_one, Nat.add_zero]; exact rfl) | exact rfl)) ?_; refine Jk rfl rfl rfl (KG rfl (kn 0 rfl) rfl (KT (by rw [hl.1]; omega))) ?_; refine Qm rfl rfl rfl Jle (XZ (l.getD 0 0)) ?_; refine Jk rfl rfl rfl (Jfq (xs := l.map uV) (ys := [l.getD 0 0, 0, 0, 0].map uV) (n := 4) rfl rfl rfl rfl rfl (by kernel_rfl) (by rw [List.length_map, hl.1]) rfl (Zo rfl _) (Zo rfl _)) ?_; refine Qk (show _ = Value.bool (!Xm l) from congrArg (fun z => Value.bool (!z)) (vf (by rw [hl.1]; rfl))) ?_; refine Kt ?_; refine nK hK3 ?_; refine Jc rfl (fun h4 => ?_) (fun h4 => ?_)
  try simp only [ZZ] at h4
  refine sR fun _ hK5 => LS 2 [] rfl rfl (nK hK5 ?_); refine Jb (Jd ?_); refine Jv rfl rfl (.cons (J4 rfl) (.cons (J4 rfl) .nil)) (fun w1 hs1 => ?_); refine ⟨?_, hs1.keep⟩
  (have hsm : Xm l = false := by assumption
   unfold vR; simp [JP, hsm, uV])
  · try simp only [ZZ] at h4
    refine Jf (hK2 ?_); refine sR fun _ hK6 => ?_
    refine LR rfl (JQ (j := 0) rfl rfl rfl rfl rfl (by first | decide | omega) (by first | (simp only [Nat.zero_add, Nat.reduceAdd, Nat.reduceMul, Nat.zero_mul, Nat.mul_one, Nat.add_zero]; exact rfl) | exact rfl)) ?_; refine LR rfl (KG rfl (kn 0 rfl) rfl (KT (by rw [hl.1]; omega))) ?_; refine LS 2 [] rfl rfl (nK hK6 ?_); refine Jb ?_; refine Jv rfl rfl (.cons (J4 rfl) (.cons (J4 rfl) .nil)) (fun w1 hs1 => ?_); refine ⟨?_, hs1.keep⟩
    (have hsm : Xm l = true := by assumption
     unfold vR; simp [JP, hsm, uV]; done)
end Go.Proofs.YteceenlfegnigaaGreatDoor
namespace Go.Proofs
open Go.Shelf
def Tryz.lays161_ren : Go.Shelf.Ren := ⟨fun | 161 => 252 | 231 => 266 | 227 => 267 | 233 => 268 | 235 => 269 | 228 => 278 | 197 => 279 | 151 => 280 | 260 => 285 | 152 => 286 | 137 => 288 | 119 => 289 | 224 => 290 | 225 => 291 | 217 => 292 | 266 => 293 | n => n, fun | 9 => 9 | 4 => 4 | 3 => 3 | 5 => 5 | 117 => 241 | 116 => 240 | 0 => 0 | 124 => 244 | 105 => 255 | 21 => 21 | 119 => 264 | 46 => 121 | 139 => 267 | 138 => 266 | n => n, fun | 3 => 1 | 4 => 2 | n => n⟩
theorem Tryz.lays161 : Go.Proofs.Lays.n161 Tryz.prog Tryz.lays161_ren := {
  mixed := by kernel_rfl
  f119 := Tryz.func289.trans (congrArg some (by kernel_rfl))
  f137 := Tryz.func288.trans (congrArg some (by kernel_rfl))
  f151 := Tryz.func280.trans (congrArg some (by kernel_rfl))
  f152 := Tryz.func286.trans (congrArg some (by kernel_rfl))
  f161 := Tryz.func252.trans (congrArg some (by kernel_rfl))
  f197 := Tryz.func279.trans (congrArg some (by kernel_rfl))
  f217 := Tryz.func292.trans (congrArg some (by kernel_rfl))
  f224 := Tryz.func290.trans (congrArg some (by kernel_rfl))
  f225 := Tryz.func291.trans (congrArg some (by kernel_rfl))
  f227 := Tryz.func267.trans (congrArg some (by kernel_rfl))
  f228 := Tryz.func278.trans (congrArg some (by kernel_rfl))
  f231 := Tryz.func266.trans (congrArg some (by kernel_rfl))
  f233 := Tryz.func268.trans (congrArg some (by kernel_rfl))
  f235 := Tryz.func269.trans (congrArg some (by kernel_rfl))
  f260 := Tryz.func285.trans (congrArg some (by kernel_rfl))
  f266 := Tryz.func293.trans (congrArg some (by kernel_rfl))
  t0 := Tryz.underlying0
  a0 := Tryz.isAgg0
  z0 := Tryz.sizeOf0
  v0 := Tryz.zeroValue0
  t3 := Tryz.underlying3
  a3 := Tryz.isAgg3
  z3 := Tryz.sizeOf3
  v3 := Tryz.zeroValue3
  t4 := Tryz.underlying4
  a4 := Tryz.isAgg4
  z4 := Tryz.sizeOf4
  v4 := Tryz.zeroValue4
  t5 := Tryz.underlying5
  a5 := Tryz.isAgg5
  z5 := Tryz.sizeOf5
  v5 := Tryz.zeroValue5
  t9 := Tryz.underlying9
  a9 := Tryz.isAgg9
  z9 := Tryz.sizeOf9
  v9 := Tryz.zeroValue9
  t21 := Tryz.underlying21
  a21 := Tryz.isAgg21
  z21 := Tryz.sizeOf21
  v21 := Tryz.zeroValue21
  t46 := Tryz.underlying121
  a46 := Tryz.isAgg121
  z46 := Tryz.sizeOf121
  v46 := Tryz.zeroValue121
  t105 := Tryz.underlying255
  a105 := Tryz.isAgg255
  z105 := Tryz.sizeOf255
  v105 := Tryz.zeroValue255
  t116 := Tryz.underlying240
  a116 := Tryz.isAgg240
  z116 := Tryz.sizeOf240
  t117 := Tryz.underlying241
  a117 := Tryz.isAgg241
  z117 := Tryz.sizeOf241
  v117 := Tryz.zeroValue241
  t119 := Tryz.underlying264
  a119 := Tryz.isAgg264
  z119 := Tryz.sizeOf264
  t124 := Tryz.underlying244
  a124 := Tryz.isAgg244
  z124 := Tryz.sizeOf244
  v124 := Tryz.zeroValue244
  t138 := Tryz.underlying266
  a138 := Tryz.isAgg266
  z138 := Tryz.sizeOf266
  v138 := Tryz.zeroValue266
  t139 := Tryz.underlying267
  a139 := Tryz.isAgg267
  z139 := Tryz.sizeOf267
  v139 := Tryz.zeroValue267
  g3 := by kernel_rfl
  g4 := by kernel_rfl }
open Go.RowKit in
theorem Tryz.strings_TrimLeft_one (s : ByteArray) (c : UInt8) (hc : c.toNat < 128) (w : World) :
    Calls Tryz.prog 252 #[.string s, .string ⟨#[c]⟩] w fun e w' => e = .returned (.string ⟨(Lib.trimLeftB s.data.toList c).toArray⟩) ∧ w' = w := Any.strings_TrimLeft_one Tryz.lays161 s c hc w
def Tryz.lays105_ren : Go.Shelf.Ren := ⟨fun | 105 => 69 | 212 => 98 | 99 => 99 | 165 => 100 | 166 => 101 | 170 => 102 | 169 => 103 | 263 => 153 | 264 => 154 | 206 => 155 | 240 => 156 | 241 => 157 | 276 => 192 | 277 => 193 | n => n, fun | 9 => 9 | 3 => 3 | 4 => 4 | 20 => 20 | 0 => 0 | 46 => 121 | 109 => 122 | 5 => 5 | 72 => 127 | 76 => 131 | 51 => 163 | 146 => 164 | 53 => 29 | 148 => 166 | 70 => 125 | 37 => 55 | 75 => 130 | 127 => 168 | 164 => 200 | 80 => 60 | n => n, fun | n => n⟩
theorem Tryz.lays105 : Go.Proofs.Lays.n105 Tryz.prog Tryz.lays105_ren := {
  mixed := by kernel_rfl
  f99 := Tryz.func99.trans (congrArg some (by kernel_rfl))
  f105 := Tryz.func69.trans (congrArg some (by kernel_rfl))
  f165 := Tryz.func100.trans (congrArg some (by kernel_rfl))
  f166 := Tryz.func101.trans (congrArg some (by kernel_rfl))
  f169 := Tryz.func103.trans (congrArg some (by kernel_rfl))
  f170 := Tryz.func102.trans (congrArg some (by kernel_rfl))
  f206 := Tryz.func155.trans (congrArg some (by kernel_rfl))
  f212 := Tryz.func98.trans (congrArg some (by kernel_rfl))
  f240 := Tryz.func156.trans (congrArg some (by kernel_rfl))
  f241 := Tryz.func157.trans (congrArg some (by kernel_rfl))
  f263 := Tryz.func153.trans (congrArg some (by kernel_rfl))
  f264 := Tryz.func154.trans (congrArg some (by kernel_rfl))
  f276 := Tryz.func192.trans (congrArg some (by kernel_rfl))
  f277 := Tryz.func193.trans (congrArg some (by kernel_rfl))
  t0 := Tryz.underlying0
  a0 := Tryz.isAgg0
  z0 := Tryz.sizeOf0
  v0 := Tryz.zeroValue0
  t3 := Tryz.underlying3
  a3 := Tryz.isAgg3
  z3 := Tryz.sizeOf3
  v3 := Tryz.zeroValue3
  t4 := Tryz.underlying4
  a4 := Tryz.isAgg4
  z4 := Tryz.sizeOf4
  v4 := Tryz.zeroValue4
  t5 := Tryz.underlying5
  a5 := Tryz.isAgg5
  z5 := Tryz.sizeOf5
  v5 := Tryz.zeroValue5
  t9 := Tryz.underlying9
  a9 := Tryz.isAgg9
  z9 := Tryz.sizeOf9
  v9 := Tryz.zeroValue9
  t20 := Tryz.underlying20
  a20 := Tryz.isAgg20
  z20 := Tryz.sizeOf20
  v20 := Tryz.zeroValue20
  t37 := Tryz.underlying55
  a37 := Tryz.isAgg55
  z37 := Tryz.sizeOf55
  v37 := Tryz.zeroValue55
  t46 := Tryz.underlying121
  a46 := Tryz.isAgg121
  z46 := Tryz.sizeOf121
  v46 := Tryz.zeroValue121
  t51 := Tryz.underlying163
  a51 := Tryz.isAgg163
  z51 := Tryz.sizeOf163
  v51 := Tryz.zeroValue163
  t53 := Tryz.underlying29
  a53 := Tryz.isAgg29
  z53 := Tryz.sizeOf29
  v53 := Tryz.zeroValue29
  t70 := Tryz.underlying125
  a70 := Tryz.isAgg125
  z70 := Tryz.sizeOf125
  v70 := Tryz.zeroValue125
  t72 := Tryz.underlying127
  a72 := Tryz.isAgg127
  z72 := Tryz.sizeOf127
  v72 := Tryz.zeroValue127
  t75 := Tryz.underlying130
  a75 := Tryz.isAgg130
  z75 := Tryz.sizeOf130
  v75 := Tryz.zeroValue130
  t76 := Tryz.underlying131
  a76 := Tryz.isAgg131
  z76 := Tryz.sizeOf131
  v76 := Tryz.zeroValue131
  t109 := Tryz.underlying122
  a109 := Tryz.isAgg122
  z109 := Tryz.sizeOf122
  v109 := Tryz.zeroValue122
  t127 := Tryz.underlying168
  a127 := Tryz.isAgg168
  z127 := Tryz.sizeOf168
  v127 := Tryz.zeroValue168
  t146 := Tryz.underlying164
  a146 := Tryz.isAgg164
  z146 := Tryz.sizeOf164
  v146 := Tryz.zeroValue164
  t148 := Tryz.underlying166
  a148 := Tryz.isAgg166
  z148 := Tryz.sizeOf166
  v148 := Tryz.zeroValue166
  t164 := Tryz.underlying200
  a164 := Tryz.isAgg200
  z164 := Tryz.sizeOf200
  v164 := Tryz.zeroValue200 }
theorem Tryz.Builder_Extra_105 : Builder.Extra Tryz.prog Tryz.lays105_ren := {
  sizeBuilder := by kernel_rfl
  liesBuilder := by kernel_rfl
  t5 := Tryz.underlying5
  a5 := Tryz.isAgg5
  z5 := Tryz.sizeOf5
  v5 := Tryz.zeroValue5
  infoByte := by kernel_rfl
  cellsByte := by kernel_rfl
  sizeByte := by kernel_rfl
  neB5 := by decide }
open Go.RowKit Go.Lib in
theorem Tryz.strings_Repeat (s : ByteArray) (c : Nat) (w : World) (hc : c ≤ 9223372036854775807) (hlen : s.size * c ≤ 140737488355328) :
    Calls Tryz.prog 69 #[.string s, .int .i64 c] w fun e w' => e = .returned (.string ⟨(Lib.repeatL s.data.toList c).toArray⟩) ∧ Below w.heap.size w w' := Any.strings_Repeat Tryz.lays105 Tryz.Builder_Extra_105 s c w hc hlen
end Go.Proofs
namespace Go.Proofs.YteceenlfegnigaaGreatDoor
set_option linter.all false
open Go.SL Go.RowKit Go.Shelf
theorem Jbg (s : List UInt8) : Pure Tryz.prog 252 [.string (bs s), .string ⟨#[0]⟩].toArray (.string (bs (Lib.trimLeftB s 0))) := ⟨fun w => by
  have h := Tryz.strings_TrimLeft_one (bs s) 0 (by decide) w
  refine h.mono fun e w' ⟨h1, h2⟩ => ⟨?_, h2 ▸ Keep.refl _ _⟩
  rw [h1]; simp [bs]⟩
theorem qb {n : Nat} (hn : n ≤ 32) : Pure Tryz.prog 69 [.string ⟨#[0]⟩, .int .i64 (n : Int)].toArray (.string (bs (Lib.repeatL [0] n))) := ⟨fun w => by
  have hs : (ByteArray.mk #[0]).size = 1 := rfl
  have h := Tryz.strings_Repeat ⟨#[0]⟩ n w (by omega) (by rw [hs]; omega)
  refine h.mono fun e w' ⟨h1, h2⟩ => ⟨?_, Keep.of_below h2⟩
  rw [h1]; rfl⟩
def Ws (l : List Nat) : List UInt8 := Lib.trimLeftB (Zm l 32) 0
theorem jn {l : List Nat} (hl : WOk l) : Pure Tryz.prog 201 [wV l].toArray (.string (bs (Ws l))) := by
  refine JC Tryz.func201 rfl rfl fun w => ?_; refine sR fun _ hK1 => ?_; refine Qi (cs := (l.map uV).toArray) rfl rfl rfl rfl fun r1 => ?_; refine Ji rfl (nK hK1 ?_); refine sR fun _ hK2 => ?_; refine LR rfl (Jq (xs := l.map uV) (n := 4) rfl (kn 0 rfl) rfl rfl (by rw [List.length_map, hl.1])) ?_; refine JD rfl rfl rfl Jf3 (Yv hl) ?_; refine JD rfl rfl rfl (enters_of Tryz.func252 (by kernel_rfl) rfl) (Jbg (Zm l 32)) ?_; refine Ji rfl (nK hK2 ?_); refine Jb (pT rfl rfl rfl fun w1 hs1 => ?_); exact ⟨rfl, hs1.keep⟩
def QZ (v : Vl) (num bits items pick : Bool) : Bool := (num || decide (v.num = [0, 0, 0, 0])) && (bits || decide (v.bits.length = 0)) && (items || decide (v.items.length = 0)) && (pick || decide (v.pick = 0))
def yC (k n : Int) (m : Nat) (v : Vl) : Bool :=
  if k = 1 then QZ v true false false false && decide (((Ws v.num).length : Int) ≤ n)
  else if k = 2 then QZ v true false false false && (decide (v.num = [0, 0, 0, 0]) || decide (v.num = [1, 0, 0, 0]))
  else if k = 3 then QZ v false false true false && decide ((v.items.length : Int) = n)
  else if k = 4 then QZ v false false true false
  else if k = 5 then QZ v false true false false && decide ((v.bits.length : Int) = n)
  else if k = 6 then QZ v false true false false
  else if k = 7 then QZ v false false true false && decide (v.items.length = m)
  else QZ v false false true true && decide (v.items.length = 1) && decide (0 ≤ v.pick) && decide (v.pick < m)
instance : Inhabited Ty := ⟨.mk 0 0 none []⟩
def VY (k pick : Int) (i : Nat) : Nat := if k = 7 then i else if k = 8 then pick.toNat else 0
def JK (k pick : Int) (ins : List Ty) (i : Nat) : Ty := ins.getD (VY k pick i) default
mutual
def Kq : Vl → Ty → Int
  | .mk a b c d bits pb items pi pick, .mk k n p ins => if (k = 4 ∧ n < items.length) ∨ (k = 6 ∧ n < bits.length) then 5 else if yC k n ins.length (.mk a b c d bits pb items pi pick) = false then 2 else Qq items k pick ins 0
def Qq : List Vl → Int → Int → List Ty → Nat → Int
  | [], _, _, _, _ => 0
  | x :: xs, k, pick, ins, i => if Kq x (JK k pick ins i) = 0 then Qq xs k pick ins (i + 1) else Kq x (JK k pick ins i)
end
theorem qc {k n : Int} {p : Pl} {ins : List Ty} {dp : Int} {v : Vl} {i : Nat} (hc : V6 (.mk k n p ins) dp = 0) (ho : yC k n ins.length v = true) (hi : i < v.items.length) : VY k v.pick i < ins.length := by
  obtain ⟨hk, hf, _, _⟩ := QQ hc
  unfold yC QZ at ho
  unfold Kk at hf
  unfold VY
  have h9 : k = 1 ∨ k = 2 ∨ k = 3 ∨ k = 4 ∨ k = 5 ∨ k = 6 ∨ k = 7 ∨ k = 8 := by omega
  have hl : ¬ v.items = [] := fun h => by rw [h] at hi; simp at hi
  rcases h9 with rfl | rfl | rfl | rfl | rfl | rfl | rfl | rfl
  all_goals simp [hl] at ho hf ⊢
  all_goals omega
theorem Qn {k pick : Int} {ins : List Ty} {i : Nat} (h : VY k pick i < ins.length) : ins[VY k pick i]? = some (JK k pick ins i) ∧ JK k pick ins i ∈ ins := by
  unfold JK
  rw [List.getD_eq_getElem?_getD, List.getElem?_eq_getElem h]; exact ⟨rfl, List.getElem_mem h⟩
theorem Qe (a b c d : Nat) (bits : List Bool) (pb : Pl) (items : List Vl) (pi : Pl) (pick : Int) (h1 h2 h3 h4 : Bool) : QZ (.mk a b c d bits pb items pi pick) h1 h2 h3 h4 = ((h1 || decide ([a, b, c, d] = [0, 0, 0, 0])) && (h2 || decide (bits.length = 0)) && (h3 || decide (items.length = 0)) && (h4 || decide (pick = 0))) := rfl
theorem Qo (k n : Int) (m a b c d : Nat) (bits : List Bool) (pb : Pl) (items : List Vl) (pi : Pl) (pick : Int) (v : Vl) (hv : v = .mk a b c d bits pb items pi pick) : yC k n m v =
  if k = 1 then QZ v true false false false && decide (((Ws [a, b, c, d]).length : Int) ≤ n)
  else if k = 2 then QZ v true false false false && (decide ([a, b, c, d] = [0, 0, 0, 0]) || decide ([a, b, c, d] = [1, 0, 0, 0]))
  else if k = 3 then QZ v false false true false && decide ((items.length : Int) = n)
  else if k = 4 then QZ v false false true false
  else if k = 5 then QZ v false true false false && decide ((bits.length : Int) = n)
  else if k = 6 then QZ v false true false false
  else if k = 7 then QZ v false false true false && decide (items.length = m)
  else QZ v false false true true && decide (items.length = 1) && decide (0 ≤ pick) && decide (pick < m) := by subst hv; rfl
theorem Jtl {n : Int} {m : Nat} {v : Vl} (h : yC 8 n m v = true) : 0 ≤ v.pick := by
  unfold yC at h
  simp at h; omega
def Vv (t : Ty) (v : Vl) : Int := if V6 t 0 = 0 then Kq v t else V6 t 0
theorem Jqx (x y : Bool) : Pure Tryz.prog 275 [.bool x, .bool y].toArray (.bool (x == y)) := by
  refine JC Tryz.func275 rfl rfl fun w => ?_; refine sR fun _ hK1 => Ji rfl (nK hK1 ?_); refine sR fun _ hK2 => LS 4 [] rfl rfl (nK hK2 ?_); refine Jb (pT rfl rfl rfl fun w1 hs1 => ?_); exact ⟨rfl, hs1.keep⟩
def fV (f : FuncId) : Value := .func (.func f) #[] #[]
theorem Jlu {R : Jr} {bits bits' : List Bool} {p p' : Pl} (hl : bits.length ≤ 9223372036854775807) (hl' : bits'.length ≤ 9223372036854775807) (hs : Seg R bits.length (Qy bits) p) (hs' : Seg R bits'.length (Qy bits') p') :
    PureR Tryz.prog 283 [KM bits.length p, KM bits'.length p', fV 275].toArray (.bool (decide (bits = bits'))) R := by
  refine Je Tryz.func283 rfl rfl fun w => ?_; refine sR fun K1 hK1 => Ji rfl (nK hK1 ?_); clear hK1 K1; refine sQ fun K2 hK2 => sR fun K3 hK3 => ?_; refine Ji rfl (LR rfl (J3 rfl hs rfl) ?_); refine Ji rfl (LR rfl (J3 rfl hs' rfl) (JZ rfl ?_)); refine nK hK3 ?_; clear hK3 K3; refine Jc rfl (fun h4 => ?_) (fun h4 => ?_)
  · try simp only [ZZ] at h4
    refine sR fun K5 hK5 => Ji rfl (nK hK5 ?_); clear hK5 K5; refine Jb (Jd ?_); clear hK2 K2; refine pT rfl rfl rfl fun w1 hs1 => ?_; refine ⟨?_, hs1.keep⟩
    (have hse : bits ≠ bits' := fun e => by subst e; omega
     simp [JP, hse]; done)
  · try simp only [ZZ] at h4
    refine Jf (hK2 ?_); clear hK2 K2; refine sQ fun K6 hK6 => sR fun K7 hK7 => ?_; refine Ji rfl (LR rfl (J3 rfl hs rfl) (Ji rfl ?_)); refine nK hK7 ?_; clear hK7 K7; refine Ju ?_
    have hlb2 : bits.length = bits'.length := by omega
    refine JG (σ := Nat) (fun i => i ≤ bits.length ∧ ∀ j, j < i → bits[j]? = bits'[j]?) (fun i => [(1, KM bits'.length p'), (2, fV 275), (15, KM bits.length p), (16, .int .i64 (bits.length : Int)), (17, .int .i64 (i : Int))]) (fun _ => []) (fun _ _ _ => True) (fun i => bits.length - i) 0 ⟨by omega, fun j hj => absurd hj (by omega)⟩ (.cons rfl (.cons rfl (.cons rfl (.cons rfl (.cons rfl .nil))))) (List.nil_sublist _) (fun _ _ h => h) ?_; rintro i ⟨hi1, hinv⟩; refine sR fun K8 hK8 => JZ rfl (nK hK8 ?_); clear hK8 K8; refine sQ fun K9 hK9 => ?_; refine Jc rfl (fun h10 => ?_) (fun h10 => ?_)
    · try simp only [ZZ] at h10
      refine Jf (hK9 ?_); clear hK9 K9; refine sB fun K11 hK11 => sQ fun K12 hK12 => ?_
      obtain ⟨x, hx, hmx⟩ := QC (show i < bits.length by omega)
      obtain ⟨y, hy, hmy⟩ := QC (show i < bits'.length by omega)
      refine Ja (Ji rfl (LR rfl (Jp (j := i) rfl hs rfl rfl rfl rfl (by omega)) ?_)); refine LR rfl (XY (fun q hq => Or.inr hq) rfl hs hx rfl) ?_; refine LS 2 [] rfl rfl (nK hK12 ?_); clear hK12 K12; refine sR fun K13 hK13 => LS 2 [] rfl rfl ?_; refine LR rfl (Jp (j := i) rfl hs' rfl rfl rfl rfl (by omega)) ?_; refine LR rfl (XY (fun q hq => Or.inr hq) rfl hs' hy rfl) ?_; refine Ji rfl (nK hK13 ?_); clear hK13 K13; refine sR fun K14 hK14 => LS 3 [] rfl rfl ?_; refine JD rfl rfl rfl (enters_of Tryz.func275 (by kernel_rfl) rfl) (Jqx x y) ?_; refine JZ rfl (nK hK14 ?_); clear hK14 K14; refine Jc rfl (fun h15 => ?_) (fun h15 => ?_)
      · try simp only [ZZ] at h15
        refine sR fun K16 hK16 => Ji rfl (nK hK16 ?_); clear hK16 K16; refine Jb (Jn (Jd ?_)); clear hK11 K11; refine Jd (Jn (Jd ?_)); clear hK6 K6; refine pT rfl rfl rfl fun w1 hs1 => ?_; refine ⟨?_, hs1.keep⟩
        (have hse : bits ≠ bits' := Jqp hx hy (by simp_all)
         simp [JP, hse]; done)
      try simp only [ZZ] at h15
      refine Jf (Jj (hK11 ?_)); clear hK11 K11; refine Ja (JZ rfl (Jt (by omega) (by omega) ?_)); refine Ji rfl (Jg (J5 ?_))
      exact J1 (i + 1) ⟨by omega, fun j hj => by
        rcases Nat.lt_succ_iff_lt_or_eq.1 hj with hj | rfl
        exact hinv j hj
        rw [hx, hy]; simp_all⟩ (by omega) (.cons rfl (.cons rfl (.cons rfl (.cons rfl (.cons rfl .nil))))) (List.nil_sublist _) (fun _ _ h => h)
    · try simp only [ZZ] at h10
      refine JE (Jl ?_); clear hK9 K9; refine Jl (J0 (hK6 ?_)); clear hK6 K6; refine sR fun K17 hK17 => Ji rfl (nK hK17 ?_); clear hK17 K17; refine Jb (pT rfl rfl rfl fun w1 hs1 => ?_); refine ⟨?_, hs1.keep⟩
      (have hse : bits = bits' := Jqq hlb2 (by omega) hinv
       simp [JP, hse]; done)
theorem Jlv {R : Jr} {items items' : List Vl} {p p' : Pl} {g : FuncId} (eg : Enters Tryz.prog g) (hg : ∀ x ∈ items, ∀ y ∈ items', PureR Tryz.prog g [x.val, y.val].toArray (.bool (Xo x y)) R) (hl : items.length ≤ 9223372036854775807) (hl' : items'.length ≤ 9223372036854775807) (hs : Seg R items.length (Qj items) p) (hs' : Seg R items'.length (Qj items') p') :
    PureR Tryz.prog 284 [KM items.length p, KM items'.length p', fV g].toArray (.bool (VU items items')) R := by
  refine Je Tryz.func284 rfl rfl fun w => ?_; refine sR fun _ hK1 => Ji rfl (nK hK1 ?_); refine sQ fun _ hK2 => sR fun _ hK3 => ?_; refine Ji rfl (LR rfl (J3 rfl hs rfl) ?_); refine Ji rfl (LR rfl (J3 rfl hs' rfl) (JZ rfl ?_)); refine nK hK3 ?_; refine Jc rfl (fun h4 => ?_) (fun h4 => ?_)
  · try simp only [ZZ] at h4
    refine sR fun _ hK5 => Ji rfl (nK hK5 ?_); refine Jb (Jd ?_); refine pT rfl rfl rfl fun w1 hs1 => ?_; refine ⟨?_, hs1.keep⟩
    (have hse : VU items items' = false := Jqs (by omega)
     simp [JP, hse]; done)
  · try simp only [ZZ] at h4
    refine Jf (hK2 ?_); refine sQ fun _ hK6 => sR fun _ hK7 => ?_; refine Ji rfl (LR rfl (J3 rfl hs rfl) (Ji rfl ?_)); refine nK hK7 (Ju ?_)
    have hl2 : items.length = items'.length := by omega
    refine JG (σ := Nat) (fun i => i ≤ items.length ∧ ∀ q, q < i → ∀ x y, items[q]? = some x → items'[q]? = some y → Xo x y = true) (fun i => [(1, KM items'.length p'), (2, fV g), (15, KM items.length p), (16, .int .i64 (items.length : Int)), (17, .int .i64 (i : Int))]) (fun _ => []) (fun _ _ _ => True) (fun i => items.length - i) 0 ⟨by omega, fun j hj => absurd hj (by omega)⟩ (.cons rfl (.cons rfl (.cons rfl (.cons rfl (.cons rfl .nil))))) (List.nil_sublist _) (fun _ _ h => h) ?_; rintro i ⟨hi1, hinv⟩; refine sR fun _ hK8 => JZ rfl (nK hK8 ?_); refine sQ fun _ hK9 => ?_; refine Jc rfl (fun h10 => ?_) (fun h10 => ?_)
    · try simp only [ZZ] at h10
      refine Jf (hK9 ?_); refine sB fun _ hK11 => sQ fun _ hK12 => ?_
      obtain ⟨x, hx, hmx⟩ := QC (show i < items.length by omega)
      obtain ⟨y, hy, hmy⟩ := QC (show i < items'.length by omega)
      refine Ja (Ji rfl (LR rfl (Jp (j := i) rfl hs rfl rfl rfl rfl (by omega)) ?_)); refine LR rfl (QI (fun q hq => Or.inr hq) rfl hs hx rfl rfl) ?_; refine LN rfl fun r1 => ?_; refine Ji rfl (Jz (k := 0) (n := 7) (ys := x.cells) rfl rfl rfl rfl rfl x.len rfl x.one rfl ?_); refine nK hK12 (sR fun _ hK13 => ?_); refine LS 2 [] rfl rfl ?_; refine LR rfl (Jp (j := i) rfl hs' rfl rfl rfl rfl (by omega)) ?_; refine LR rfl (QI (fun q hq => Or.inr hq) rfl hs' hy rfl rfl) ?_; refine LN rfl fun r2 => ?_; refine Jz (k := 0) (n := 7) (ys := y.cells) rfl rfl rfl rfl rfl y.len rfl y.one rfl ?_; refine nK hK13 (sR fun _ hK14 => ?_); refine Ji rfl (LR rfl (Jq (xs := x.cells) (n := 7) rfl (kn 1 rfl) rfl rfl x.len) (LR rfl (Jq (xs := y.cells) (n := 7) rfl (kn 0 rfl) rfl rfl y.len) ?_)); refine Jh rfl rfl rfl eg (hg x hmx y hmy) (fun q hq => Or.inr hq) ?_; refine JZ rfl (nK hK14 ?_); refine Jc rfl (fun h15 => ?_) (fun h15 => ?_)
      · try simp only [ZZ] at h15
        refine sR fun _ hK16 => Ji rfl (nK hK16 ?_); refine Jb (Jn (Jd ?_)); refine Jd (Jn (Jd ?_)); refine pT rfl rfl rfl fun w1 hs1 => ?_; refine ⟨?_, hs1.keep⟩
        (have hse : VU items items' = false := Jqr hx hy (by assumption)
         simp [JP, hse]; done)
      try simp only [ZZ] at h15
      refine Jf (Jj (hK11 ?_)); refine Ja (JZ rfl (Jt (by omega) (by omega) ?_)); refine Ji rfl (Jg (J5 ?_))
      exact J1 (i + 1) ⟨by omega, fun q hq u v hu hv => by
        rcases Nat.lt_succ_iff_lt_or_eq.1 hq with hq | rfl
        exact hinv q hq u v hu hv
        rw [hx] at hu; rw [hy] at hv; cases hu; cases hv; assumption⟩ (by omega) (.cons rfl (.cons rfl (.cons rfl (.cons rfl (.cons rfl .nil))))) (List.nil_sublist _) (fun _ _ h => h)
    · try simp only [ZZ] at h10
      refine JE (Jl ?_); refine Jl (J0 (hK6 ?_)); refine sR fun _ hK17 => Ji rfl (nK hK17 ?_); refine Jb (pT rfl rfl rfl fun w1 hs1 => ?_); refine ⟨?_, hs1.keep⟩
      (have hse : VU items items' = true := Wr.2 ⟨hl2, fun q x y hx hy => hinv q (by have := (List.getElem?_eq_some_iff.1 hx).1; omega) x y hx hy⟩
       simp [JP, hse]; done)
theorem Jqy {R : Jr} {v0 v1 v2 v : Value} (h : PureR Tryz.prog 283 [v0, v1, v2].toArray v R) : PureR Tryz.prog 276 [v0, v1, v2].toArray v R := by
  refine Je Tryz.func276 rfl rfl fun w => ?_; refine sR fun _ hK1 => Ji rfl (nK hK1 ?_); refine sR fun _ hK2 => LS 3 [] rfl rfl ?_; refine Jh rfl rfl rfl (enters_of Tryz.func283 (by kernel_rfl) rfl) h (fun q hq => Or.inr hq) ?_; refine Ji rfl (nK hK2 ?_); refine Jb (pT rfl rfl rfl fun w1 hs1 => ?_); exact ⟨rfl, hs1.keep⟩
theorem Jqz {R : Jr} {v0 v1 v2 v : Value} (h : PureR Tryz.prog 284 [v0, v1, v2].toArray v R) : PureR Tryz.prog 277 [v0, v1, v2].toArray v R := by
  refine Je Tryz.func277 rfl rfl fun w => ?_; refine sR fun _ hK1 => Ji rfl (nK hK1 ?_); refine sR fun _ hK2 => LS 3 [] rfl rfl ?_; refine Jh rfl rfl rfl (enters_of Tryz.func284 (by kernel_rfl) rfl) h (fun q hq => Or.inr hq) ?_; refine Ji rfl (nK hK2 ?_); refine Jb (pT rfl rfl rfl fun w1 hs1 => ?_); exact ⟨rfl, hs1.keep⟩
theorem Juu {R : Jr} {u : Vl} (hu : u.In R) : ∀ v : Vl, v.In R → PureR Tryz.prog 265 [u.val, v.val].toArray (.bool (Xo u v)) R := by
  induction hu with
  | @mk a b c d bits pb items pi pick ha hb hc hd hlb hsb hl hs hp hi ih =>
  intro v hv
  cases hv with
  | @mk a' b' c' d' bits' pb' items' pi' pick' ha' hb' hc' hd' hlb' hsb' hl' hs' hp' hi' =>
  rw [YJ]
  have h1 := Jqy (Jlu hlb hlb' hsb hsb')
  have h2 := Jqz (Jlv (enters_of Tryz.func265 (by kernel_rfl) rfl) (fun x hx y hy => ih x hx y (hi' y hy)) hl hl' hs hs')
  refine Je Tryz.func265 rfl rfl fun w => ?_; refine sR fun K1 hK1 => ?_; refine LN rfl fun r1 => ?_; refine LN rfl fun r2 => ?_; refine Ji rfl (nK hK1 ?_); clear hK1 K1; refine sR fun K2 hK2 => Ji rfl (nK hK2 ?_); clear hK2 K2; refine sR fun K3 hK3 => LS 2 [1] rfl rfl ?_
  refine LS 2 [0] rfl rfl ?_; refine LR rfl (zG rfl rfl rfl rfl rfl (by kernel_rfl) rfl rfl rfl rfl) ?_
  first | (refine Jy (congrArg Value.bool (vf (a := [a, b, c, d]) (b := [a', b', c', d']) rfl)) ?_) | skip
  refine Ji rfl ?_
  refine JA 11 rfl (fun hb4 => ?_) (fun hb4 => ?_) <;> (try simp only [ZZ] at hb4) <;> first | (refine LR rfl (JL rfl rfl rfl) ?_) | (refine LK rfl ?_)
  all_goals refine LW 1 [1] rfl rfl ?_
  all_goals first
    | (refine LR rfl (JL rfl rfl rfl) ?_)
    | (refine LK rfl ?_)
  all_goals refine LW 4 [0] rfl rfl ?_
  all_goals first
    | (refine LK rfl ?_)
    | (refine JA 18 rfl (fun hb9 => ?_) (fun hb9 => ?_) <;> (try simp only [ZZ] at hb9) <;> first | (refine LR rfl (JL rfl rfl rfl) ?_) | (refine LK rfl ?_))
  all_goals refine LW 1 [1] rfl rfl ?_
  all_goals first
    | (refine LR rfl (JL rfl rfl rfl) ?_)
    | (refine LK rfl ?_)
  all_goals refine LW 2 [0] rfl rfl ?_
  all_goals first
    | (refine Jh rfl rfl rfl (enters_of Tryz.func276 (by kernel_rfl) rfl) h1 (fun q hq => Or.inr hq) ?_)
    | (refine LK rfl ?_)
  all_goals refine LW 2 [] rfl rfl ?_
  all_goals first
    | (refine LK rfl ?_)
    | (refine JA 26 rfl (fun hb15 => ?_) (fun hb15 => ?_) <;> (try simp only [ZZ] at hb15) <;> first | (refine LR rfl (JL rfl rfl rfl) ?_) | (refine LK rfl ?_))
  all_goals refine LW 1 [1] rfl rfl ?_
  all_goals first
    | (refine LR rfl (JL rfl rfl rfl) ?_)
    | (refine LK rfl ?_)
  all_goals refine LW 1 [0] rfl rfl ?_
  all_goals first
    | (refine Jh rfl rfl rfl (enters_of Tryz.func277 (by kernel_rfl) rfl) h2 (fun q hq => Or.inr hq) ?_)
    | (refine LK rfl ?_)
  all_goals refine LW 2 [] rfl rfl ?_
  all_goals refine Jg ?_
  all_goals (
   refine hK3 ?_; clear hK3 K3; refine Jb (pT rfl rfl rfl fun w1 hs1 => ?_); refine ⟨?_, hs1.keep⟩
   simp_all [JP]
   skip)
end Go.Proofs.YteceenlfegnigaaGreatDoor
namespace Go.SL
set_option linter.all false
open Go Go.RowKit Go.Shelf
open Go.Proofs (Enters enters_of)
structure PureMR (P : Program) (f : FuncId) (args : Array Value) (v : Value) (r : Nat) (o o' : Obj) (Rl : Jr) : Prop where
  run : ∀ w, w.heap[r]? = some o → jT Rl w → Calls P f args w fun e w' => e = .returned v ∧ Keep [r] w w' ∧ w'.heap[r]? = some o'
def zV (P : Program) (w : World) (r : Nat) (Rl : Jr) (n : Nat) : Cx := ⟨P, none, w, [r], [], Rl, n⟩
theorem St.startMR {P : Program} {w : World} {r n : Nat} {o : Obj} {Rl : Jr} (h : w.heap[r]? = some o) (hR : jT Rl w) (hne : ∀ p ∈ Rl, p.1 ≠ r) : St (zV P w r Rl n) [(r, o)] (fun _ _ => True) w :=
  ⟨Keep.refl _ _, fun p hp => by rw [List.mem_singleton.1 hp]; exact ⟨.inl List.mem_cons_self, by simp [zV], h⟩, List.pairwise_singleton _ _, fun p hp => ⟨by simp [zV]; exact hne p hp, by simp [zV], hR p hp⟩, by simp [zV], ⟨[], by simp, fun _ _ => trivial⟩⟩
theorem WV {P : Program} {f : FuncId} {fn : Func} {code : Code} {vs : List Value} {v : Value} {r : Nat} {o o' : Obj} {Rl : Jr} (hne : ∀ p ∈ Rl, p.1 ≠ r) (hf : P.funcs[f]? = some fn) (hb : fn.body = some code) (hlen : Nat.ble vs.length fn.ntmps = true)
    (h : ∀ w, HC (zV P w r Rl fn.ntmps) [] (Vg 0 vs) [(r, o)] (fun _ _ => True) code (bodyPostM (FW none) 0 P fn (fun e w' => e = .returned v ∧ ∃ L, (r, o') ∈ L ∧ St (zV P w r Rl fn.ntmps) L (fun _ _ => True) w'))) : PureMR P f vs.toArray v r o o' Rl := ⟨fun w hr hR =>
  (QB (zV P w r Rl fn.ntmps) hf hb rfl rfl rfl hlen (St.startMR hr hR hne) (h w)).mono fun _ _ ⟨he, L, hm, hs⟩ => ⟨he, by have := hs.keep; simpa [zV] using this, (hs.own _ hm).2.2⟩⟩
section
variable {c : Cx} {l : Kn} {L : Jr} {X : XP} {Q : Exit → Act → World → Prop} {d : List Deferred}
variable {ops : Array Oper} {rest : List Oper} {i : Nat} {v : Value} {t : TypeId} {ps : String} {af : Array Edge} {gd : Option (Nat × Bool)} {ty t2 : TypeId}
theorem St.apart {w : World} (hs : St c L X w) {k r : Nat} {o : Obj} (hk : L[k]? = some (r, o)) : ∀ p ∈ c.R, p.1 ≠ r := by
  rintro p hp rfl
  have h1 := (hs.own _ (List.mem_of_getElem? hk)).1
  obtain ⟨h2, _, h3⟩ := hs.ext p hp
  rcases h1 with h1 | h1
  · exact h2 h1
  · have := Js h3
    exact absurd this (Nat.not_lt.2 h1)
theorem Jih {k r : Nat} {o o' : Obj} {L' : Jr} {Rl : Jr} {f : Operand} {args : Array Operand} {at_ : Array TypeId} {g : FuncId} {vs : List Value}
    (hg : Kj l ops ⟨some i, .call ⟨.value f, args, at_⟩, ty, ps, af, gd⟩ = some true) (hi : Nat.ble (i + 1) c.n = true) (hca : KA l f args = some (g, vs)) (eg : Enters c.P g) (hk : L[k]? = some (r, o))
    (hp : (∀ p ∈ Rl, p.1 ≠ r) → PureMR c.P g vs.toArray v r o o' Rl) (hR : ∀ p ∈ Rl, p ∈ c.R) (hL : L.set k (r, o') = L') (h : HL c d ((i, v) :: l) L' X ops rest Q) : HL c d l L X ops (⟨some i, .call ⟨.value f, args, at_⟩, ty, ps, af, gd⟩ :: rest) Q :=
  XU (α := Unit) (V := fun _ => v) (L' := fun _ => L') (X' := fun _ => X) hg hi hca eg (fun w hs => ((hp fun p hq => hs.apart hk p (hR p hq)).run w (hs.get hk) (fun p hq => hs.readR (hR p hq))).mono fun _ _ ⟨he, hkp, ho⟩ => ⟨(), he, hL ▸ hs.set hk hkp ho⟩) (fun _ => h)
theorem vV (hg : Kj l ops ⟨some i, .makeMap t none, ty, ps, af, gd⟩ = some true) (hi : Nat.ble (i + 1) c.n = true)
    (h : ∀ r, HL c d ((i, .map (some r)) :: l) ((r, .map #[] 0) :: L) X ops rest Q) : HL c d l L X ops (⟨some i, .makeMap t none, ty, ps, af, gd⟩ :: rest) Q :=
  Wa (α := Nat) (V := fun r => .map (some r)) (L' := fun r => (r, .map #[] 0) :: L) (X' := fun _ => X) hg rfl rfl hi (fun a w _ hs => ⟨w.heap.size, w.alloc (.map #[] 0), by simp only [execOp, Sem.run_bind, Option.map]; rfl, hs.alloc _⟩) h
theorem KY {m x y : Operand} {kt et r clock q : Nat} {es : Array MapEntry} {key val : Value} {dom : Value → Prop} {eq : Value → Value → Bool} {L' : Jr} (K : KeyL c.P kt dom eq) (hg : Kj l ops ⟨none, .insert t m x y, ty, ps, af, gd⟩ = some true)
    (hm : Ke l m = some (.map (some r))) (hx : Ke l x = some key) (hy : Ke l y = some val) (hq : L[q]? = some (r, .map es clock)) (ht : yx c.P t = some (kt, et)) (hk : dom key) (he : ∀ e ∈ es.toList, dom e.key) (hn : QP eq key (es.toList.map XL) = none)
    (hL : L.set q (r, .map (es.push { key := key, val := val, born := clock }) (clock + 1)) = L') (h : HL c d l L' X ops rest Q) : HL c d l L X ops (⟨none, .insert t m x y, ty, ps, af, gd⟩ :: rest) Q :=
  zw hg rfl rfl (fun a w hf hs => ⟨_, by
    simp only [execOp, Sem.run_bind]
    rw [hf.eval hm, hf.eval hx, hf.eval hy, Jd5 K ht (hs.get hq) hk he hn]; rfl, hL ▸ hs.set hq (Keep.putObj r _) (World.putObj_heap_same (Js (hs.get hq)))⟩) h
end
def isI (v : Value) : Prop := ∃ n, v = .int .i64 n
def YB (x y : Value) : Bool := eqS x y
theorem vW {P : Program} {t : TypeId} (ht : P.underlying t = some (.int .i64)) (b : Bool) (n : Nat) (x : Int) (w : World) : (Instr.checkKey b (n + 1) t (.int .i64 x)).run P w = .ok () w := by
  simp [Instr.checkKey, Sem.run_bind, Qd ht, Result.andThen]
theorem X6 {P : Program} {t : TypeId} (ht : P.underlying t = some (.int .i64)) : KeyL P t isI YB where
  now := ⟨_, ht, fun a b ⟨a1, ha⟩ ⟨b1, hb⟩ => by subst ha hb; exact .inr (by simp [Instr.sameNow, YB, eqS])⟩
  equal := by
    rintro _ _ w ⟨a, rfl⟩ ⟨b, rfl⟩
    exact zF (by simp [Wb, ht]) (by simp [Wb, ht]) 9999 w
  check := by
    rintro _ b w ⟨x, rfl⟩
    exact vW ht b 9999 x w
theorem Jlw (a b : Int) : YB (.int .i64 a) (.int .i64 b) = (a == b) := rfl
end Go.SL
namespace Go.Proofs.YteceenlfegnigaaGreatDoor
set_option linter.all false
open Go.SL Go.RowKit Go.Shelf
def kfs : List (Nat × Nat × Nat × Bool) := [(196, 199, 202, false), (203, 205, 207, false), (208, 211, 213, false), (215, 216, 0, true),
  (217, 218, 220, false), (221, 222, 0, true), (223, 224, 225, false), (226, 227, 0, true)]
def kAt (k : Int) : Nat × Nat × Nat × Bool := kfs.getD (k - 1).toNat (0, 0, 0, false)
def zX (k : Int) : Bool := decide (1 ≤ k) && decide (k ≤ 8)
def Jlx (k : Int) : FuncId := (kAt k).1
def ofF (k : Int) : FuncId := (kAt k).2.1
def Jly (k : Int) : FuncId := (kAt k).2.2.1
def Jef (k : Int) : Bool := (kAt k).2.2.2
def fnV (b : Bool) (f : FuncId) : Value := if b then fV f else .nilFunc
def YK (k : Int) : List Value := [fnV (zX k) (Jlx k), fnV (zX k) (ofF k), fnV (zX k && !Jef k) (Jly k), .bool (Jef k)]
def zY (j : Nat) : MapEntry := { key := .int .i64 ((j : Int) + 1), val := .agg (YK ((j : Int) + 1)).toArray, born := j }
def kMap : Array MapEntry := #[zY 0, zY 1, zY 2, zY 3, zY 4, zY 5, zY 6, zY 7]
def Jii : Obj := .map kMap 8
theorem YL : ∀ e ∈ kMap.toList, isI e.key := by
  intro e he; simp only [kMap, List.mem_cons, List.not_mem_nil, or_false] at he
  rcases he with rfl | rfl | rfl | rfl | rfl | rfl | rfl | rfl <;> exact ⟨_, rfl⟩
theorem Jbh (k : Int) : QP YB (.int .i64 k) (kMap.toList.map XL) = if zX k then some (.agg (YK k).toArray) else none := by
  by_cases h : 1 ≤ k ∧ k ≤ 8
  · have : k = 1 ∨ k = 2 ∨ k = 3 ∨ k = 4 ∨ k = 5 ∨ k = 6 ∨ k = 7 ∨ k = 8 := by omega
    rcases this with rfl | rfl | rfl | rfl | rfl | rfl | rfl | rfl <;> rfl
  · have e : zX k = false := by unfold zX; simp; omega
    rw [e]
    have h1 : k ≠ 1 := by omega
    have h2 : k ≠ 2 := by omega
    have h3 : k ≠ 3 := by omega
    have h4 : k ≠ 4 := by omega
    have h5 : k ≠ 5 := by omega
    have h6 : k ≠ 6 := by omega
    have h7 : k ≠ 7 := by omega
    have h8 : k ≠ 8 := by omega
    simp [kMap, zY, XL, QP, Jlw, h1, h2, h3, h4, h5, h6, h7, h8]
theorem Jlz (k : Int) : (if true = true then Value.tuple #[((QP YB (.int .i64 k) (kMap.toList.map XL)).getD (.agg #[.nilFunc, .nilFunc, .nilFunc, .bool false])), .bool (QP YB (.int .i64 k) (kMap.toList.map XL)).isSome] else (QP YB (.int .i64 k) (kMap.toList.map XL)).getD (.agg #[.nilFunc, .nilFunc, .nilFunc, .bool false])) =
    .tuple #[.agg (YK k).toArray, .bool (zX k)] := by
  rw [Jbh, if_pos rfl]
  cases h : zX k with
  | true => rfl
  | false =>
    have : Jef k = false := by
      unfold zX at h
      simp at h
      unfold Jef kAt
      by_cases h1 : 1 ≤ k
      · have := h h1
        rw [List.getD_eq_getElem?_getD, List.getElem?_eq_none (by show 8 ≤ _; omega)]; rfl
      · have : (k - 1).toNat = 0 := by omega
        rw [this]; rfl
    simp [YK, fnV, h, this]
theorem Zq {k : Int} (h : zX k = true) : (if false = true then Value.tuple #[((QP YB (.int .i64 k) (kMap.toList.map XL)).getD (.agg #[.nilFunc, .nilFunc, .nilFunc, .bool false])), .bool (QP YB (.int .i64 k) (kMap.toList.map XL)).isSome] else (QP YB (.int .i64 k) (kMap.toList.map XL)).getD (.agg #[.nilFunc, .nilFunc, .nilFunc, .bool false])) =
    .agg (YK k).toArray := by
  rw [Jbh, h]; rfl
theorem jo : PureE (α := Nat) Tryz.prog 161 [].toArray (fun r => .map (some r)) (fun r => [(r, Jii)]) := by
  refine Vy Tryz.func161 rfl rfl fun w => ?_; refine sR fun _ hK1 => Ji rfl (nK hK1 ?_); refine sR fun _ hK2 => ?_; refine vV rfl rfl fun mr => ?_; refine LR rfl (JI (r := [_, _, _, _]) rfl rfl) ?_; refine KY (q := 0) (key := .int .i64 1) (X6 (t := 3) (by kernel_rfl)) rfl rfl rfl rfl rfl rfl ⟨_, rfl⟩ (by intro e he; simp at he) rfl rfl ?_; refine LR rfl (JI (r := [_, _, _, _]) rfl rfl) ?_
  refine KY (q := 0) (key := .int .i64 2) (X6 (t := 3) (by kernel_rfl)) rfl rfl rfl rfl rfl rfl ⟨_, rfl⟩ (by intro e he; simp at he; rcases he with rfl <;> exact ⟨_, rfl⟩) rfl rfl ?_; refine LR rfl (JI (r := [_, _, _, _]) rfl rfl) ?_
  refine KY (q := 0) (key := .int .i64 3) (X6 (t := 3) (by kernel_rfl)) rfl rfl rfl rfl rfl rfl ⟨_, rfl⟩ (by intro e he; simp at he; rcases he with rfl | rfl <;> exact ⟨_, rfl⟩) rfl rfl ?_; refine LR rfl (JI (r := [_, _, _, _]) rfl rfl) ?_
  refine KY (q := 0) (key := .int .i64 4) (X6 (t := 3) (by kernel_rfl)) rfl rfl rfl rfl rfl rfl ⟨_, rfl⟩ (by intro e he; simp at he; rcases he with rfl | rfl | rfl <;> exact ⟨_, rfl⟩) rfl rfl ?_; refine LR rfl (JI (r := [_, _, _, _]) rfl rfl) ?_
  refine KY (q := 0) (key := .int .i64 5) (X6 (t := 3) (by kernel_rfl)) rfl rfl rfl rfl rfl rfl ⟨_, rfl⟩ (by intro e he; simp at he; rcases he with rfl | rfl | rfl | rfl <;> exact ⟨_, rfl⟩) rfl rfl ?_; refine LR rfl (JI (r := [_, _, _, _]) rfl rfl) ?_
  refine KY (q := 0) (key := .int .i64 6) (X6 (t := 3) (by kernel_rfl)) rfl rfl rfl rfl rfl rfl ⟨_, rfl⟩ (by intro e he; simp at he; rcases he with rfl | rfl | rfl | rfl | rfl <;> exact ⟨_, rfl⟩) rfl rfl ?_; refine LR rfl (JI (r := [_, _, _, _]) rfl rfl) ?_
  refine KY (q := 0) (key := .int .i64 7) (X6 (t := 3) (by kernel_rfl)) rfl rfl rfl rfl rfl rfl ⟨_, rfl⟩ (by intro e he; simp at he; rcases he with rfl | rfl | rfl | rfl | rfl | rfl <;> exact ⟨_, rfl⟩) rfl rfl ?_; refine LR rfl (JI (r := [_, _, _, _]) rfl rfl) ?_
  refine KY (q := 0) (key := .int .i64 8) (X6 (t := 3) (by kernel_rfl)) rfl rfl rfl rfl rfl rfl ⟨_, rfl⟩ (by intro e he; simp at he; rcases he with rfl | rfl | rfl | rfl | rfl | rfl | rfl <;> exact ⟨_, rfl⟩) rfl rfl ?_; refine LS 2 [] rfl rfl (nK hK2 ?_); refine Jb (pT rfl rfl rfl fun w1 hs1 => ?_); exact ⟨mr, rfl, hs1⟩
theorem YM {R : Jr} {k n : Int} {p : Pl} {ins : List Ty} (ht : Ty.In R (.mk k n p ins)) : PureR Tryz.prog 197 [Ty.val (.mk k n p ins)].toArray (.bool (decide (ins.length = 0))) R := by
  cases ht with
  | mk hk hn hl hs hi =>
  refine Je Tryz.func197 rfl rfl fun w => ?_; refine sR fun _ hK1 => ?_; refine LN rfl fun r1 => ?_; refine Ji rfl (nK hK1 ?_); refine sR fun _ hK2 => ?_
  refine LS 2 [0] rfl rfl ?_; refine LR rfl (J3 rfl hs rfl) ?_; refine LS 2 [] rfl rfl (nK hK2 ?_); refine Jb (pT rfl rfl rfl fun w1 hs1 => ?_); exact ⟨congrArg (fun b => Ending.returned (Value.bool b)) (by rw [Bool.eq_iff_iff]; simp only [beq_iff_eq, decide_eq_true_eq]; omega), hs1.keep⟩
theorem XA {R : Jr} {k n : Int} {p : Pl} {ins : List Ty} (ht : Ty.In R (.mk k n p ins)) : PureR Tryz.prog 204 [Ty.val (.mk k n p ins)].toArray (.bool (decide (n = 0))) R := by
  cases ht with
  | mk hk hn hl hs hi =>
  refine Je Tryz.func204 rfl rfl fun w => ?_; refine sR fun K1 hK1 => ?_; refine LN rfl fun r1 => ?_; refine Ji rfl (nK hK1 ?_); clear hK1 K1; refine sR fun K2 hK2 => ?_
  refine LS 4 [0] rfl rfl (nK hK2 ?_); clear hK2 K2; refine Jb (pT rfl rfl rfl fun w1 hs1 => ?_); refine ⟨?_, hs1.keep⟩
  simp_all [JP]
  first | done | rfl | omega | (rw [Bool.eq_iff_iff]; simp only [Bool.and_eq_true, Bool.or_eq_true, decide_eq_true_eq, beq_iff_eq]; omega) | (simp only [decide_eq_true_eq, decide_eq_false_iff_not]; omega)
theorem q6 {R : Jr} {k n : Int} {p : Pl} {ins : List Ty} (ht : Ty.In R (.mk k n p ins)) : PureR Tryz.prog 210 [Ty.val (.mk k n p ins)].toArray (.bool (decide (1 ≤ n) && decide (n ≤ 512))) R := by
  cases ht with
  | mk hk hn hl hs hi =>
  refine Je Tryz.func210 rfl rfl fun w => ?_; refine sR fun K1 hK1 => ?_; refine LN rfl fun r1 => ?_; refine Ji rfl (nK hK1 ?_); clear hK1 K1; refine sR fun K2 hK2 => LS 4 [0] rfl rfl ?_
  refine JA 6 rfl (fun hb3 => ?_) (fun hb3 => ?_) <;> (try simp only [ZZ] at hb3) <;> first | (refine LR rfl (JL rfl rfl rfl) ?_) | (refine LK rfl ?_)
  all_goals refine LW 4 [0] rfl rfl ?_
  all_goals refine Jg ?_
  all_goals (
   refine hK2 ?_; clear hK2 K2; refine Jb (pT rfl rfl rfl fun w1 hs1 => ?_); refine ⟨?_, hs1.keep⟩
   simp_all [JP]
   all_goals first | done | rfl | omega | (rw [Bool.eq_iff_iff]; simp only [Bool.and_eq_true, Bool.or_eq_true, decide_eq_true_eq, beq_iff_eq]; omega) | (simp only [decide_eq_true_eq, decide_eq_false_iff_not]; omega)
   skip)
theorem YN {R : Jr} {k n : Int} {p : Pl} {ins : List Ty} (ht : Ty.In R (.mk k n p ins)) (most : Int) : PureR Tryz.prog 209 [Ty.val (.mk k n p ins), .int .i64 most].toArray (.bool (decide (1 ≤ ins.length) && decide ((ins.length : Int) ≤ most))) R := by
  cases ht with
  | mk hk hn hl hs hi =>
  refine Je Tryz.func209 rfl rfl fun w => ?_; refine sR fun K1 hK1 => ?_; refine LN rfl fun r1 => ?_; refine Ji rfl (nK hK1 ?_); clear hK1 K1; refine sR fun K2 hK2 => ?_
  refine LS 2 [0] rfl rfl ?_; refine LR rfl (J3 rfl hs rfl) ?_; refine LS 2 [] rfl rfl ?_
  refine JA 9 rfl (fun hb3 => ?_) (fun hb3 => ?_) <;> (try simp only [ZZ] at hb3) <;> first | (refine LR rfl (JL rfl rfl rfl) ?_) | (refine LK rfl ?_)
  all_goals refine LW 1 [0] rfl rfl ?_
  all_goals first
    | (refine LR rfl (J3 rfl hs rfl) ?_)
    | (refine LK rfl ?_)
  all_goals refine LW 4 [] rfl rfl ?_
  all_goals refine Jg ?_
  all_goals (
   refine hK2 ?_; clear hK2 K2; refine Jb (pT rfl rfl rfl fun w1 hs1 => ?_); refine ⟨?_, hs1.keep⟩
   simp_all [JP]
   first | done | rfl | omega | (rw [Bool.eq_iff_iff]; simp only [Bool.and_eq_true, Bool.or_eq_true, decide_eq_true_eq, beq_iff_eq]; omega) | (simp only [decide_eq_true_eq, decide_eq_false_iff_not]; omega)
   skip)
def zZ : List Int → Int → Int → Int
  | [], _, _ => -1
  | y :: ys, x, j => if x = y then j else zZ ys x (j + 1)
def Jl0 (l : List Int) : List Value := l.map (Value.int .i64)
theorem Jq0 {R : Jr} {xs : List Int} {p : Pl} (x : Int) (hl : xs.length ≤ 9223372036854775807) (hs : Seg R xs.length (Jl0 xs) p) : PureR Tryz.prog 249 [KM xs.length p, .int .i64 x].toArray (.int .i64 (zZ xs x 0)) R := by
  refine Je Tryz.func249 rfl rfl fun w => ?_; refine sR fun _ hK1 => Ji rfl (nK hK1 ?_); refine sQ fun _ hK2 => sR fun _ hK3 => ?_; refine Ji rfl (LR rfl (J3 rfl hs rfl) (Ji rfl ?_)); refine nK hK3 ?_; refine Ju (JG (σ := Nat) (fun i => i ≤ xs.length ∧ zZ (xs.drop i) x (i : Int) = zZ xs x 0) (fun i => [(0, KM xs.length p), (1, .int .i64 x), (7, .int .i64 (xs.length : Int)), (8, .int .i64 (i : Int))]) (fun _ => []) (fun _ _ _ => True) (fun i => xs.length - i) 0 ⟨by omega, rfl⟩ (.cons rfl (.cons rfl (.cons rfl (.cons rfl .nil)))) (List.nil_sublist _) (fun _ _ h => h) ?_); rintro i ⟨hi1, hinv⟩; refine sR fun _ hK4 => JZ rfl (nK hK4 ?_); refine sQ fun _ hK5 => ?_; refine Jc rfl (fun h6 => ?_) (fun h6 => ?_)
  try simp only [ZZ] at h6
  refine Jf (hK5 ?_); refine sB fun _ hK7 => sR fun _ hK8 => ?_; refine LS 2 [] rfl rfl (nK hK8 ?_); refine sQ fun _ hK9 => ?_
  obtain ⟨y, hy, hmy⟩ := QC (show i < xs.length by omega)
  rw [Y9 hy, zZ] at hinv; refine Ja (LS 3 [] rfl rfl (LR rfl (Jp (j := i) rfl hs rfl rfl rfl rfl (by omega)) ?_)); refine LR rfl (Zp (v := .int .i64 y) (j := i) (fun q hq => Or.inr hq) rfl hs (by omega) rfl (by unfold Jl0; rw [List.getElem?_map, hy]; rfl)) ?_; refine JZ rfl (nK hK9 ?_); refine Jc rfl (fun h10 => ?_) (fun h10 => ?_)
  try simp only [ZZ] at h10
  refine sR fun _ hK11 => LS 2 [] rfl rfl (nK hK11 ?_); refine Jb (Jn (Jd ?_)); refine Jd (Jn (Jd ?_)); refine pT rfl rfl rfl fun w1 hs1 => ?_; refine ⟨?_, hs1.keep⟩; rw [← hinv, if_pos (by assumption)]; rfl
  try simp only [ZZ] at h10
  refine Jf (Jj (hK7 ?_)); refine Ja (JZ rfl (Jt (by omega) (by omega) ?_)); refine Ji rfl (Jg (J5 ?_)); exact J1 (i + 1) ⟨by omega, by rw [if_neg (by assumption)] at hinv; exact hinv⟩ (by omega) (.cons rfl (.cons rfl (.cons rfl (.cons rfl .nil)))) (List.nil_sublist _) (fun _ _ h => h)
  · try simp only [ZZ] at h6
    refine JE (Jl ?_); refine Jl (J0 (hK2 ?_)); refine sR fun _ hK12 => Ji rfl (nK hK12 ?_); refine Jb (pT rfl rfl rfl fun w1 hs1 => ?_); refine ⟨?_, hs1.keep⟩; rw [← hinv, List.drop_of_length_le (by omega), zZ]; rfl
theorem Jeg {R : Jr} {xs : List Int} {p : Pl} (x : Int) (hl : xs.length ≤ 9223372036854775807) (hs : Seg R xs.length (Jl0 xs) p) : PureR Tryz.prog 198 [KM xs.length p, .int .i64 x].toArray (.bool (decide (0 ≤ zZ xs x 0))) R := by
  have h := Jq0 x hl hs
  refine Je Tryz.func198 rfl rfl fun w => ?_; refine sR fun _ hK1 => Ji rfl (nK hK1 ?_); refine sR fun _ hK2 => LS 2 [] rfl rfl ?_; refine Jh rfl rfl rfl (enters_of Tryz.func249 (by kernel_rfl) rfl) h (fun q hq => Or.inr hq) ?_; refine LS 2 [] rfl rfl (nK hK2 ?_); refine Jb (pT rfl rfl rfl fun w1 hs1 => ?_); exact ⟨rfl, hs1.keep⟩
theorem Jyc (n : Int) : decide (0 ≤ zZ [1, 2, 4, 8, 32] n 0) = (decide (n = 1) || decide (n = 2) || decide (n = 4) || decide (n = 8) || decide (n = 32)) := by
  simp only [zZ]
  by_cases h1 : n = 1
  · simp [h1]
  by_cases h2 : n = 2
  · simp [h2]
  by_cases h4 : n = 4
  · simp [h4]
  by_cases h8 : n = 8
  · simp [h8]
  by_cases h32 : n = 32
  · simp [h32]
  simp [h1, h2, h4, h8, h32]
theorem F_1 {R : Jr} {n : Int} {p : Pl} {ins : List Ty} (ht : Ty.In R (.mk 1 n p ins)) : PureR Tryz.prog 196 [Ty.val (.mk 1 n p ins)].toArray (.bool (Kk 1 n ins.length)) R := by
  have hno := YM ht
  have hpl := XA ht
  have hro := q6 ht
  have hma := fun m => YN ht m
  cases ht with
  | mk hk hn hl hs hi =>
  refine Je Tryz.func196 rfl rfl fun w => ?_; refine sR fun K1 hK1 => ?_; refine LN rfl fun r1 => ?_; refine Ji rfl (nK hK1 ?_); clear hK1 K1; refine sR fun K2 hK2 => ?_; refine LR rfl (Jx (vs := [_, _, _]) rfl (kn 0 rfl) rfl rfl rfl rfl) ?_; refine Jh rfl rfl rfl Jf6 hno (fun q hq => Or.inr hq) ?_; refine Ji rfl ?_
  refine JA 5 rfl (fun hb3 => ?_) (fun hb3 => ?_) <;> (try simp only [ZZ] at hb3) <;> first | (refine Kh (vs := [_, _, _, _, _]) (zs := [_, _, _, _, _]) (r := [_, _, _, _, _]) rfl rfl rfl rfl rfl rfl rfl rfl rfl (by show (madeCells #[_] _).toList = _; rw [VJ]; exact rfl) rfl fun r2 => ?_) | (refine LK rfl ?_)
  all_goals first
    | (refine LR rfl (JL rfl rfl rfl) ?_)
    | (refine LK rfl ?_)
  all_goals refine LW 1 [1] rfl rfl ?_
  all_goals first
    | (refine Jh rfl rfl rfl (enters_of Tryz.func198 (by kernel_rfl) rfl) (Jeg (R := [(r2, _)]) (xs := [1, 2, 4, 8, 32]) (p := some (⟨r2, 0, none⟩, 5)) n (by decide) ⟨by decide, fun _ => ⟨rfl, _, _, _, List.mem_cons_self, rfl⟩⟩) (fun q hq => .inl (by rw [List.mem_singleton.1 hq]; exact List.mem_cons_self)) ?_; refine Jy (congrArg Value.bool (Jyc n)) ?_)
    | (refine LK rfl ?_)
  all_goals refine LW 2 [] rfl rfl ?_
  all_goals refine Jg ?_
  all_goals (
   refine hK2 ?_; clear hK2 K2; refine Jb (pT rfl rfl rfl fun w1 hs1 => ?_); refine ⟨?_, hs1.keep⟩
   unfold Kk
   simp_all [JP]
   skip)
theorem F_2 {R : Jr} {n : Int} {p : Pl} {ins : List Ty} (ht : Ty.In R (.mk 2 n p ins)) : PureR Tryz.prog 203 [Ty.val (.mk 2 n p ins)].toArray (.bool (Kk 2 n ins.length)) R := by
  have hno := YM ht
  have hpl := XA ht
  have hro := q6 ht
  have hma := fun m => YN ht m
  cases ht with
  | mk hk hn hl hs hi =>
  refine Je Tryz.func203 rfl rfl fun w => ?_; refine sR fun K1 hK1 => ?_; refine LN rfl fun r1 => ?_; refine Ji rfl (nK hK1 ?_); clear hK1 K1; refine sR fun K2 hK2 => ?_; refine LR rfl (Jx (vs := [_, _, _]) rfl (kn 0 rfl) rfl rfl rfl rfl) ?_; refine Jh rfl rfl rfl Jf6 hno (fun q hq => Or.inr hq) ?_; refine Ji rfl ?_
  refine JA 5 rfl (fun hb3 => ?_) (fun hb3 => ?_) <;> (try simp only [ZZ] at hb3) <;> first | (refine LR rfl (Jx (vs := [_, _, _]) rfl (kn 0 rfl) rfl rfl rfl rfl) ?_) | (refine LK rfl ?_)
  all_goals first
    | (refine Jh rfl rfl rfl Jlp hpl (fun q hq => Or.inr hq) ?_)
    | (refine LK rfl ?_)
  all_goals refine LW 2 [] rfl rfl ?_
  all_goals refine Jg ?_
  all_goals (
   refine hK2 ?_; clear hK2 K2; refine Jb (pT rfl rfl rfl fun w1 hs1 => ?_); refine ⟨?_, hs1.keep⟩
   unfold Kk
   simp_all [JP]
   skip)
theorem F_3 {R : Jr} {n : Int} {p : Pl} {ins : List Ty} (ht : Ty.In R (.mk 3 n p ins)) : PureR Tryz.prog 208 [Ty.val (.mk 3 n p ins)].toArray (.bool (Kk 3 n ins.length)) R := by
  have hno := YM ht
  have hpl := XA ht
  have hro := q6 ht
  have hma := fun m => YN ht m
  cases ht with
  | mk hk hn hl hs hi =>
  refine Je Tryz.func208 rfl rfl fun w => ?_; refine sR fun K1 hK1 => ?_; refine LN rfl fun r1 => ?_; refine Ji rfl (nK hK1 ?_); clear hK1 K1; refine sR fun K2 hK2 => ?_; refine LR rfl (Jx (vs := [_, _, _]) rfl (kn 0 rfl) rfl rfl rfl rfl) ?_; refine Jh rfl rfl rfl Jf7 (hma 1) (fun q hq => Or.inr hq) ?_; refine Ji rfl ?_
  refine JA 5 rfl (fun hb3 => ?_) (fun hb3 => ?_) <;> (try simp only [ZZ] at hb3) <;> first | (refine LR rfl (Jx (vs := [_, _, _]) rfl (kn 0 rfl) rfl rfl rfl rfl) ?_) | (refine LK rfl ?_)
  all_goals first
    | (refine Jh rfl rfl rfl Jf8 hro (fun q hq => Or.inr hq) ?_)
    | (refine LK rfl ?_)
  all_goals refine LW 2 [] rfl rfl ?_
  all_goals refine Jg ?_
  all_goals (
   refine hK2 ?_; clear hK2 K2; refine Jb (pT rfl rfl rfl fun w1 hs1 => ?_); refine ⟨?_, hs1.keep⟩
   unfold Kk
   simp_all [JP]
   first | done | rfl | omega | (rw [Bool.eq_iff_iff]; simp only [Bool.and_eq_true, Bool.or_eq_true, decide_eq_true_eq, beq_iff_eq]; omega) | (simp only [decide_eq_true_eq, decide_eq_false_iff_not]; omega)
   skip)
theorem F_4 {R : Jr} {n : Int} {p : Pl} {ins : List Ty} (ht : Ty.In R (.mk 4 n p ins)) : PureR Tryz.prog 215 [Ty.val (.mk 4 n p ins)].toArray (.bool (Kk 4 n ins.length)) R := by
  have hno := YM ht
  have hpl := XA ht
  have hro := q6 ht
  have hma := fun m => YN ht m
  cases ht with
  | mk hk hn hl hs hi =>
  refine Je Tryz.func215 rfl rfl fun w => ?_; refine sR fun K1 hK1 => ?_; refine LN rfl fun r1 => ?_; refine Ji rfl (nK hK1 ?_); clear hK1 K1; refine sR fun K2 hK2 => ?_; refine LR rfl (Jx (vs := [_, _, _]) rfl (kn 0 rfl) rfl rfl rfl rfl) ?_; refine Jh rfl rfl rfl Jf7 (hma 1) (fun q hq => Or.inr hq) ?_; refine Ji rfl ?_
  refine JA 5 rfl (fun hb3 => ?_) (fun hb3 => ?_) <;> (try simp only [ZZ] at hb3) <;> first | (refine LR rfl (Jx (vs := [_, _, _]) rfl (kn 0 rfl) rfl rfl rfl rfl) ?_) | (refine LK rfl ?_)
  all_goals first
    | (refine Jh rfl rfl rfl Jf8 hro (fun q hq => Or.inr hq) ?_)
    | (refine LK rfl ?_)
  all_goals refine LW 2 [] rfl rfl ?_
  all_goals refine Jg ?_
  all_goals (
   refine hK2 ?_; clear hK2 K2; refine Jb (pT rfl rfl rfl fun w1 hs1 => ?_); refine ⟨?_, hs1.keep⟩
   unfold Kk
   simp_all [JP]
   first | done | rfl | omega | (rw [Bool.eq_iff_iff]; simp only [Bool.and_eq_true, Bool.or_eq_true, decide_eq_true_eq, beq_iff_eq]; omega) | (simp only [decide_eq_true_eq, decide_eq_false_iff_not]; omega)
   skip)
theorem F_5 {R : Jr} {n : Int} {p : Pl} {ins : List Ty} (ht : Ty.In R (.mk 5 n p ins)) : PureR Tryz.prog 217 [Ty.val (.mk 5 n p ins)].toArray (.bool (Kk 5 n ins.length)) R := by
  have hno := YM ht
  have hpl := XA ht
  have hro := q6 ht
  have hma := fun m => YN ht m
  cases ht with
  | mk hk hn hl hs hi =>
  refine Je Tryz.func217 rfl rfl fun w => ?_; refine sR fun K1 hK1 => ?_; refine LN rfl fun r1 => ?_; refine Ji rfl (nK hK1 ?_); clear hK1 K1; refine sR fun K2 hK2 => ?_; refine LR rfl (Jx (vs := [_, _, _]) rfl (kn 0 rfl) rfl rfl rfl rfl) ?_; refine Jh rfl rfl rfl Jf6 hno (fun q hq => Or.inr hq) ?_; refine Ji rfl ?_
  refine JA 5 rfl (fun hb3 => ?_) (fun hb3 => ?_) <;> (try simp only [ZZ] at hb3) <;> first | (refine LR rfl (Jx (vs := [_, _, _]) rfl (kn 0 rfl) rfl rfl rfl rfl) ?_) | (refine LK rfl ?_)
  all_goals first
    | (refine Jh rfl rfl rfl Jf8 hro (fun q hq => Or.inr hq) ?_)
    | (refine LK rfl ?_)
  all_goals refine LW 2 [] rfl rfl ?_
  all_goals refine Jg ?_
  all_goals (
   refine hK2 ?_; clear hK2 K2; refine Jb (pT rfl rfl rfl fun w1 hs1 => ?_); refine ⟨?_, hs1.keep⟩
   unfold Kk
   simp_all [JP]
   skip)
theorem F_6 {R : Jr} {n : Int} {p : Pl} {ins : List Ty} (ht : Ty.In R (.mk 6 n p ins)) : PureR Tryz.prog 221 [Ty.val (.mk 6 n p ins)].toArray (.bool (Kk 6 n ins.length)) R := by
  have hno := YM ht
  have hpl := XA ht
  have hro := q6 ht
  have hma := fun m => YN ht m
  cases ht with
  | mk hk hn hl hs hi =>
  refine Je Tryz.func221 rfl rfl fun w => ?_; refine sR fun K1 hK1 => ?_; refine LN rfl fun r1 => ?_; refine Ji rfl (nK hK1 ?_); clear hK1 K1; refine sR fun K2 hK2 => ?_; refine LR rfl (Jx (vs := [_, _, _]) rfl (kn 0 rfl) rfl rfl rfl rfl) ?_; refine Jh rfl rfl rfl Jf6 hno (fun q hq => Or.inr hq) ?_; refine Ji rfl ?_
  refine JA 5 rfl (fun hb3 => ?_) (fun hb3 => ?_) <;> (try simp only [ZZ] at hb3) <;> first | (refine LR rfl (Jx (vs := [_, _, _]) rfl (kn 0 rfl) rfl rfl rfl rfl) ?_) | (refine LK rfl ?_)
  all_goals first
    | (refine Jh rfl rfl rfl Jf8 hro (fun q hq => Or.inr hq) ?_)
    | (refine LK rfl ?_)
  all_goals refine LW 2 [] rfl rfl ?_
  all_goals refine Jg ?_
  all_goals (
   refine hK2 ?_; clear hK2 K2; refine Jb (pT rfl rfl rfl fun w1 hs1 => ?_); refine ⟨?_, hs1.keep⟩
   unfold Kk
   simp_all [JP]
   skip)
theorem F_7 {R : Jr} {n : Int} {p : Pl} {ins : List Ty} (ht : Ty.In R (.mk 7 n p ins)) : PureR Tryz.prog 223 [Ty.val (.mk 7 n p ins)].toArray (.bool (Kk 7 n ins.length)) R := by
  have hno := YM ht
  have hpl := XA ht
  have hro := q6 ht
  have hma := fun m => YN ht m
  cases ht with
  | mk hk hn hl hs hi =>
  refine Je Tryz.func223 rfl rfl fun w => ?_; refine sR fun K1 hK1 => ?_; refine LN rfl fun r1 => ?_; refine Ji rfl (nK hK1 ?_); clear hK1 K1; refine sR fun K2 hK2 => ?_; refine LR rfl (Jx (vs := [_, _, _]) rfl (kn 0 rfl) rfl rfl rfl rfl) ?_; refine Jh rfl rfl rfl Jf7 (hma 16) (fun q hq => Or.inr hq) ?_; refine Ji rfl ?_
  refine JA 5 rfl (fun hb3 => ?_) (fun hb3 => ?_) <;> (try simp only [ZZ] at hb3) <;> first | (refine LR rfl (Jx (vs := [_, _, _]) rfl (kn 0 rfl) rfl rfl rfl rfl) ?_) | (refine LK rfl ?_)
  all_goals first
    | (refine Jh rfl rfl rfl Jlp hpl (fun q hq => Or.inr hq) ?_)
    | (refine LK rfl ?_)
  all_goals refine LW 2 [] rfl rfl ?_
  all_goals refine Jg ?_
  all_goals (
   refine hK2 ?_; clear hK2 K2; refine Jb (pT rfl rfl rfl fun w1 hs1 => ?_); refine ⟨?_, hs1.keep⟩
   unfold Kk
   simp_all [JP]
   first | done | rfl | omega | (rw [Bool.eq_iff_iff]; simp only [Bool.and_eq_true, Bool.or_eq_true, decide_eq_true_eq, beq_iff_eq]; omega) | (simp only [decide_eq_true_eq, decide_eq_false_iff_not]; omega)
   skip)
theorem F_8 {R : Jr} {n : Int} {p : Pl} {ins : List Ty} (ht : Ty.In R (.mk 8 n p ins)) : PureR Tryz.prog 226 [Ty.val (.mk 8 n p ins)].toArray (.bool (Kk 8 n ins.length)) R := by
  have hno := YM ht
  have hpl := XA ht
  have hro := q6 ht
  have hma := fun m => YN ht m
  cases ht with
  | mk hk hn hl hs hi =>
  refine Je Tryz.func226 rfl rfl fun w => ?_; refine sR fun K1 hK1 => ?_; refine LN rfl fun r1 => ?_; refine Ji rfl (nK hK1 ?_); clear hK1 K1; refine sR fun K2 hK2 => ?_; refine LR rfl (Jx (vs := [_, _, _]) rfl (kn 0 rfl) rfl rfl rfl rfl) ?_; refine Jh rfl rfl rfl Jf7 (hma 8) (fun q hq => Or.inr hq) ?_; refine Ji rfl ?_
  refine JA 5 rfl (fun hb3 => ?_) (fun hb3 => ?_) <;> (try simp only [ZZ] at hb3) <;> first | (refine LR rfl (Jx (vs := [_, _, _]) rfl (kn 0 rfl) rfl rfl rfl rfl) ?_) | (refine LK rfl ?_)
  all_goals first
    | (refine Jh rfl rfl rfl Jlp hpl (fun q hq => Or.inr hq) ?_)
    | (refine LK rfl ?_)
  all_goals refine LW 2 [] rfl rfl ?_
  all_goals refine Jg ?_
  all_goals (
   refine hK2 ?_; clear hK2 K2; refine Jb (pT rfl rfl rfl fun w1 hs1 => ?_); refine ⟨?_, hs1.keep⟩
   unfold Kk
   simp_all [JP]
   first | done | rfl | omega | (rw [Bool.eq_iff_iff]; simp only [Bool.and_eq_true, Bool.or_eq_true, decide_eq_true_eq, beq_iff_eq]; omega) | (simp only [decide_eq_true_eq, decide_eq_false_iff_not]; omega)
   skip)
theorem W1 {k : Int} : zX k = true ↔ 1 ≤ k ∧ k ≤ 8 := by unfold zX; simp
theorem Jwu {R : Jr} {k n : Int} {p : Pl} {ins : List Ty} (ht : Ty.In R (.mk k n p ins)) (h : zX k = true) : Enters Tryz.prog (Jlx k) ∧ PureR Tryz.prog (Jlx k) [Ty.val (.mk k n p ins)].toArray (.bool (Kk k n ins.length)) R := by
  have := W1.1 h
  have : k = 1 ∨ k = 2 ∨ k = 3 ∨ k = 4 ∨ k = 5 ∨ k = 6 ∨ k = 7 ∨ k = 8 := by omega
  rcases this with rfl | rfl | rfl | rfl | rfl | rfl | rfl | rfl
  · exact ⟨enters_of Tryz.func196 (by kernel_rfl) rfl, F_1 ht⟩
  · exact ⟨enters_of Tryz.func203 (by kernel_rfl) rfl, F_2 ht⟩
  · exact ⟨enters_of Tryz.func208 (by kernel_rfl) rfl, F_3 ht⟩
  · exact ⟨enters_of Tryz.func215 (by kernel_rfl) rfl, F_4 ht⟩
  · exact ⟨enters_of Tryz.func217 (by kernel_rfl) rfl, F_5 ht⟩
  · exact ⟨enters_of Tryz.func221 (by kernel_rfl) rfl, F_6 ht⟩
  · exact ⟨enters_of Tryz.func223 (by kernel_rfl) rfl, F_7 ht⟩
  · exact ⟨enters_of Tryz.func226 (by kernel_rfl) rfl, F_8 ht⟩
end Go.Proofs.YteceenlfegnigaaGreatDoor
namespace Go.SL
set_option linter.all false
open Go Go.RowKit Go.Shelf
open Go.Proofs (Enters enters_of)
structure GE where
  α : Type
  V : α → Value
  LL : α → Jr
  x0 : α
inductive Kb
  | quiet
  | pure
  | grow (e : GE)
  | turn
  | dep (ts : List Nat) (e : List Value → GE)
abbrev jp := Nat → Kb
def Kb.isGrow : Kb → Bool
  | .grow _ => true
  | .dep _ _ => true
  | _ => false
def Xp (a : Act) (ts : List Nat) : List Value := ts.map fun t => a.eval (.tmp t)
def Kb.ge : Kb → Act → Option GE
  | .grow e, _ => some e
  | .dep ts e, a => some (e (Xp a ts))
  | _, _ => none
def Jij (ops : Array Oper) (tb : jp) (m : Nat) : Prop :=
  ∀ j, j < m → ∀ o, ops[j]? = some o → ∀ ts e, tb j = .dep ts e → ∀ t ∈ ts, t ∈ o.looksAt ops
theorem Jik {ops : Array Oper} {o : Oper} {a : Act} {dst : Option Tmp} {v : Value} {ts : List Nat} (h : ∀ d, dst = some d → d ∉ o.looksAt ops) (ht : ∀ t ∈ ts, t ∈ o.looksAt ops) : Xp (a.put dst v) ts = Xp a ts :=
  List.map_congr_left fun t hm => Act.eval_put fun d hd e => by cases e; exact h t hd (ht t hm)
theorem vX {ops : Array Oper} {tb : jp} {m j : Nat} {o : Oper} {a : Act} {dst : Option Tmp} {v : Value} (hd : Jij ops tb m) (hj : j < m) (ho : ops[j]? = some o) (h : ∀ d, dst = some d → d ∉ o.looksAt ops) : (tb j).ge (a.put dst v) = (tb j).ge a := by
  cases ht : tb j with
  | dep ts e => show some (e (Xp (a.put dst v) ts)) = some (e (Xp a ts)); rw [Jik h (hd j hj o ho ts e ht)]
  | _ => rfl
theorem yD {k : Kb} (a : Act) (h : k.isGrow = true) : ∃ e, k.ge a = some e := by
  cases k with
  | grow e => exact ⟨e, rfl⟩
  | dep ts e => exact ⟨_, rfl⟩
  | _ => cases h
def Kb.isTurn : Kb → Bool
  | .turn => true
  | _ => false
def Kb.isQuiet : Kb → Bool
  | .quiet => true
  | _ => false
section
variable {c : Cx} {X : XP} {S : Jr} {ops : Array Oper} {md : Region.Mode}
def Jl1 (LL : Jr) (w w' : World) : Prop := Keep [] w w' ∧ (∀ p ∈ LL, w.heap.size ≤ p.1 ∧ w'.heap[p.1]? = some p.2) ∧ LL.Pairwise fun p q => p.1 ≠ q.1
def YG (c : Cx) (X : XP) (S : Jr) (ops : Array Oper) (o : Oper) (e : GE) (a : Act) : Prop :=
  Region.wanted o (yielded ops a.tmps) = true ∧ ∀ E, SubS S E → ∀ w, St c E X w → actAt c o a w fun u w' => ∃ x, u = e.V x ∧ Jl1 (e.LL x) w w'
theorem YG.same {o : Oper} {e : GE} {a a' : Act} (hy : YG c X S ops o e a) (he : execOp a'.eval o = execOp a.eval o) (hw : Region.wanted o (yielded ops a'.tmps) = Region.wanted o (yielded ops a.tmps)) : YG c X S ops o e a' :=
  ⟨hw.trans hy.1, fun E hE w hs => (hy.2 E hE w hs).same he⟩
def YT (c : Cx) (E : Jr) (X : XP) (ops : Array Oper) (o : Oper) {α : Type} (V : α → Value) (G : α → Jr) (a : Act) : Prop :=
  Region.wanted o (yielded ops a.tmps) = true ∧ ∀ w, St c E X w → actAt c o a w fun u w' => ∃ x, u = V x ∧ St c (G x) X w'
def stB (c : Cx) (X : XP) (S : Jr) (ops : Array Oper) (tb : jp) (i : Nat) (K : Jr → Act → Prop) (E : Jr) (a : Act) : Prop :=
  ∃ o, ops[i]? = some o ∧ match tb i with
    | .quiet => ∃ v, YQ c E X ops o v a ∧ K E (a.put o.dst v)
    | .pure => ∃ v, YP c X S ops o v a ∧ K E (a.put o.dst v)
    | .grow e => (YG c X S ops o e a ∧ ∀ x, K (e.LL x ++ E) (a.put o.dst (e.V x))) ∨ (Region.wanted o (yielded ops a.tmps) = false ∧ K E (a.put o.dst undef))
    | .turn => (∃ (α : Type) (V : α → Value) (G : α → Jr), YT c E X ops o V G a ∧ ∀ x, SubS S (G x) ∧ K (G x) (a.put o.dst (V x))) ∨ (Region.wanted o (yielded ops a.tmps) = false ∧ K E (a.put o.dst undef))
    | .dep ts e => (YG c X S ops o (e (Xp a ts)) a ∧ ∀ x, K ((e (Xp a ts)).LL x ++ E) (a.put o.dst ((e (Xp a ts)).V x))) ∨ (Region.wanted o (yielded ops a.tmps) = false ∧ K E (a.put o.dst undef))
theorem qd {tb : jp} {i : Nat} {K : Jr → Act → Prop} {E : Jr} {a : Act} {e : GE} (h : (tb i).ge a = some e) :
    stB c X S ops tb i K E a ↔ ∃ o, ops[i]? = some o ∧ ((YG c X S ops o e a ∧ ∀ x, K (e.LL x ++ E) (a.put o.dst (e.V x))) ∨ (Region.wanted o (yielded ops a.tmps) = false ∧ K E (a.put o.dst undef))) := by
  unfold stB
  cases ht : tb i with
  | grow e' => rw [ht] at h; cases h; exact Iff.rfl
  | dep ts e' => rw [ht] at h; cases h; exact Iff.rfl
  | _ => rw [ht] at h; cases h
def XN (c : Cx) (X : XP) (S : Jr) (ops : Array Oper) (md : Region.Mode) (tb : jp) (m : Nat) (T : Jr → Array Bool → Act → Prop) : Nat → Array Bool → Jr → Act → Prop
  | 0, listed, E, a => T E listed a
  | f + 1, listed, E, a => Region.ready md ops listed ≠ [] ∧ ∀ i ∈ Region.ready md ops listed, i < m ∧ stB c X S ops tb i (fun E' a' => XN c X S ops md tb m T f (listed.setIfInBounds i true) E' a') E a
theorem SubS.grow {E LL : Jr} (h : SubS S E) : SubS S (LL ++ E) := fun p hp => List.mem_append_right _ (h p hp)
theorem YQ.perm {E E' : Jr} {o : Oper} {v : Value} {a : Act} (hy : YQ c E X ops o v a) (hp : E.Perm E') : YQ c E' X ops o v a := by
  rcases hy with ⟨h1, h2⟩ | h
  · exact .inl ⟨h1, fun w hs => h2 w (hs.perm hp.symm)⟩
  · exact .inr h
theorem VV {tb : jp} {m : Nat} {T : Jr → Array Bool → Act → Prop} (hTp : ∀ E E' listed a, E.Perm E' → T E listed a → T E' listed a) :
    ∀ (f : Nat) (listed : Array Bool) (E E' : Jr) (a : Act), E.Perm E' → XN c X S ops md tb m T f listed E a → XN c X S ops md tb m T f listed E' a
  | 0, listed, E, E', a, hp, h => hTp _ _ _ _ hp h
  | f + 1, listed, E, E', a, hp, h => by
    refine ⟨h.1, fun i hi => ⟨(h.2 i hi).1, ?_⟩⟩
    obtain ⟨o, ho, hm⟩ := (h.2 i hi).2
    refine ⟨o, ho, ?_⟩
    cases ha : tb i with
    | quiet => rw [ha] at hm; obtain ⟨v, h1, h2⟩ := hm; exact ⟨v, h1.perm hp, VV hTp f _ _ _ _ hp h2⟩
    | pure => rw [ha] at hm; obtain ⟨v, h1, h2⟩ := hm; exact ⟨v, h1, VV hTp f _ _ _ _ hp h2⟩
    | grow e =>
      rw [ha] at hm
      rcases hm with ⟨h1, h2⟩ | ⟨h1, h2⟩
      · exact .inl ⟨h1, fun x => VV hTp f _ _ _ _ (hp.append_left _) (h2 x)⟩
      · exact .inr ⟨h1, VV hTp f _ _ _ _ hp h2⟩
    | turn =>
      rw [ha] at hm
      rcases hm with ⟨α, V, G, ⟨h1, h2⟩, h3⟩ | ⟨h1, h2⟩
      · exact .inl ⟨α, V, G, ⟨h1, fun w hs => h2 w (hs.perm hp.symm)⟩, h3⟩
      · exact .inr ⟨h1, VV hTp f _ _ _ _ hp h2⟩
    | dep ts e =>
      rw [ha] at hm
      rcases hm with ⟨h1, h2⟩ | ⟨h1, h2⟩
      · exact .inl ⟨h1, fun x => VV hTp f _ _ _ _ (hp.append_left _) (h2 x)⟩
      · exact .inr ⟨h1, VV hTp f _ _ _ _ hp h2⟩
theorem Juv {tb : jp} {i : Nat} {K : Jr → Act → Prop} {K' : Act → World → Prop} {Q' : Exit → Act → World → Prop} {E : Jr} {a : Act} {w : World} (hnd : ∀ (j : Nat) (o : Oper), ops[j]? = some o → Kp o.op = true)
    (hs : St c E X w) (hE : SubS S E) (h : ∀ E a w', SubS S E → St c E X w' → K E a → K' a w') (hh : stB c X S ops tb i K E a) : wpOpIn (FW c.ro) 0 c.P ops Q' i K' a w := by
  obtain ⟨o, ho, hm⟩ := hh
  have no : Region.wanted o (yielded ops a.tmps) = false → K E (a.put o.dst undef) → wpOpIn (FW c.ro) 0 c.P ops Q' i K' a w := fun hw hk => by
    unfold wpOpIn
    simp only [ho]
    rw [if_neg (by rw [hw]; simp)]
    exact ⟨KR, h E _ w hE hs hk⟩
  have yes : ∀ v, YQ c E X ops o v a → K E (a.put o.dst v) → wpOpIn (FW c.ro) 0 c.P ops Q' i K' a w := fun v hy hk => by
    rcases hy with ⟨hw, hq⟩ | ⟨hw, rfl⟩
    · exact jZ ho (hnd i o ho) hw (hq w hs) fun u w' ⟨e, hk'⟩ => h E _ w' hE (hs.more hk') (e ▸ hk)
    · exact no hw hk
  cases ha : tb i with
  | quiet => rw [ha] at hm; obtain ⟨v, h1, h2⟩ := hm; exact yes v h1 h2
  | pure => rw [ha] at hm; obtain ⟨v, h1, h2⟩ := hm; exact yes v (h1.quiet hE) h2
  | grow e =>
    rw [ha] at hm
    rcases hm with ⟨⟨hw, hr⟩, h2⟩ | ⟨hw, h2⟩
    · exact jZ ho (hnd i o ho) hw (hr E hE w hs) fun u w' ⟨x, e', hk, hf, hd⟩ => h _ _ w' hE.grow (hs.freshs hk hf hd) (e' ▸ (h2 x))
    · exact no hw h2
  | turn =>
    rw [ha] at hm
    rcases hm with ⟨α, V, G, ⟨hw, hr⟩, h2⟩ | ⟨hw, h2⟩
    · exact jZ ho (hnd i o ho) hw (hr w hs) fun u w' ⟨x, e', hs'⟩ => h _ _ w' (h2 x).1 hs' (e' ▸ (h2 x).2)
    · exact no hw h2
  | dep ts e =>
    rw [ha] at hm
    rcases hm with ⟨⟨hw, hr⟩, h2⟩ | ⟨hw, h2⟩
    · exact jZ ho (hnd i o ho) hw (hr E hE w hs) fun u w' ⟨x, e', hk, hf, hd⟩ => h _ _ w' hE.grow (hs.freshs hk hf hd) (e' ▸ (h2 x))
    · exact no hw h2
theorem Jgc {tb : jp} {m g : Nat} {T : Jr → Array Bool → Act → Prop} {Q' : Exit → Act → World → Prop} (hnd : ∀ (j : Nat) (o : Oper), ops[j]? = some o → Kp o.op = true)
    (hT : ∀ E listed a w, SubS S E → St c E X w → T E listed a → wpAnyIn (FW c.ro) 0 c.P md ops Q' g listed a w) :
    ∀ (f : Nat) (listed : Array Bool) (E : Jr) (a : Act) (w : World), SubS S E → St c E X w → XN c X S ops md tb m T f listed E a → wpAnyIn (FW c.ro) 0 c.P md ops Q' (f + g) listed a w
  | 0, listed, E, a, w, hE, hw, h => by rw [Nat.zero_add]; exact hT _ _ _ _ hE hw h
  | f + 1, listed, E, a, w, hE, hw, h => by
    rw [show f + 1 + g = (f + g) + 1 from by omega]
    exact ⟨fun h0 => absurd h0 h.1, fun i hi => Juv hnd hw hE (fun E' a' w' hE' hw' h' => Jgc hnd hT f _ E' a' w' hE' hw' h') (h.2 i hi).2⟩
def Jeh (md : Region.Mode) (ops : Array Oper) (tb : jp) (m i : Nat) : Prop :=
  tb i = .quiet → ∀ j, j < m → tb j = .turn → ∀ listed, i ∈ Region.ready md ops listed → j ∈ Region.ready md ops listed → False
def okG (md : Region.Mode) (ops : Array Oper) (tb : jp) (i : Nat) : Nat → Array Bool → Bool
  | 0, listed => (Region.ready md ops listed).all fun j => j == i
  | f + 1, listed => (Region.ready md ops listed).all fun j => j == i || ((tb j).isGrow && okG md ops tb i f (listed.setIfInBounds j true))
theorem Jei {tb : jp} {m i : Nat} {oi : Oper} {v : Value} {T : Jr → Array Bool → Act → Prop} (hi : ops[i]? = some oi) (hai : tb i = .quiet ∨ tb i = .pure) (hsel : ∀ (j : Nat) (o : Oper) cs b, ops[j]? = some o → o.op ≠ .select cs b)
    (hbd : Jeh md ops tb m i) (hdep : Jij ops tb m)
    (hlt : ∀ listed, HeadInv md ops m listed → listed.getD i true = false → ∀ j ∈ Region.ready md ops listed, j < m)
    (hT : ∀ E listed a, T E listed a → ∀ j ∈ Region.ready md ops listed, m ≤ j) :
    ∀ (f : Nat) (listed : Array Bool) (E : Jr) (a : Act), HeadInv md ops m listed →
      (∀ j oj, ops[j]? = some oj → j ≠ i → listed.getD j true = false → (∀ e ∈ oj.after, Region.binds md e = true → e.on ≠ i) → oi.apart ops oj = true) →
      SubS S E → i ∈ Region.ready md ops listed → (YQ c E X ops oi v a ∧ (tb i = .pure → YP c X S ops oi v a)) →
      XN c X S ops md tb m T f (listed.setIfInBounds i true) E (a.put oi.dst v) → XN c X S ops md tb m T (f + 1) listed E a := by
  have self : ∀ {K : Jr → Act → Prop} {E : Jr} {a : Act}, (YQ c E X ops oi v a ∧ (tb i = .pure → YP c X S ops oi v a)) → K E (a.put oi.dst v) → stB c X S ops tb i K E a := by
    intro K E a hy H
    refine ⟨oi, hi, ?_⟩
    rcases hai with h | h <;> rw [h]
    · exact ⟨v, hy.1, H⟩
    · exact ⟨v, hy.2 h, H⟩
  intro f
  induction f with
  | zero =>
    intro listed E a inv _ hSE hr hy H
    refine ⟨fun h => (by rw [h] at hr; cases hr), fun j hj => ⟨hlt _ inv (mem_ready.1 hr).1 j hj, ?_⟩⟩
    by_cases hji : j = i
    · subst hji; exact self hy H
    · have h1 := hT _ _ _ H j (ready_mono hj hji)
      have h2 := hlt _ inv (mem_ready.1 hr).1 j hj
      omega
  | succ f ih =>
    intro listed E a inv hfree hSE hr hy H
    refine ⟨fun h => (by rw [h] at hr; cases hr), fun j hj => ?_⟩
    have hjm := hlt _ inv (mem_ready.1 hr).1 j hj
    refine ⟨hjm, ?_⟩
    by_cases hji : j = i
    · subst hji; exact self hy H
    · obtain ⟨oj, hoj, hm⟩ := (H.2 j (ready_mono hj hji)).2
      obtain ⟨hjun, oj', hoj', hall⟩ := mem_ready.1 hj
      rw [hoj] at hoj'
      cases hoj'
      have hnot : ∀ e ∈ oj.after, Region.binds md e = true → e.on ≠ i := fun e he hb heq => by
        have h2 := hall e he hb
        rw [heq, getD_both (mem_ready.1 hr).1] at h2
        cases h2
      obtain ⟨h1, h2, h3⟩ := Oper.apart_spec (hfree j oj hoj hji hjun hnot)
      have hfree' : ∀ k ok, ops[k]? = some ok → k ≠ i → (listed.setIfInBounds j true).getD k true = false →
          (∀ e ∈ ok.after, Region.binds md e = true → e.on ≠ i) → oi.apart ops ok = true := fun k ok hk hki hun hno => by
        refine hfree k ok hk hki ?_ hno
        by_cases hjk : j = k
        · subst hjk; exact hjun
        · rw [getD_set_ne true hjk] at hun; exact hun
      have back1 := fun u => (execOp_put oj (fun cs b => hsel j oj cs b hoj) a oi.dst u h1)
      have back2 := fun u => (wanted_put oj a oi.dst u h1)
      have forth1 := fun u => (execOp_put oi (fun cs b => hsel i oi cs b hi) a oj.dst u h3)
      have forth2 := fun u => (wanted_put oi a oj.dst u h3)
      have go : ∀ E' u, SubS S E' → (E.Sublist E' ∨ tb i = .pure) → XN c X S ops md tb m T f ((listed.setIfInBounds i true).setIfInBounds j true) E' ((a.put oi.dst v).put oj.dst u) →
          XN c X S ops md tb m T (f + 1) (listed.setIfInBounds j true) E' (a.put oj.dst u) := fun E' u hSE' hsub hK => by
        refine ih (listed.setIfInBounds j true) E' (a.put oj.dst u) (inv.set hj hjm) hfree' hSE' (ready_mono hr (Ne.symm hji)) ⟨?_, fun hp => (hy.2 hp).same (forth1 u) (forth2 u)⟩ ?_
        · rcases hsub with hsub | hp
          · exact (hy.1.weak hsub).same (forth1 u) (forth2 u)
          · exact ((hy.2 hp).same (forth1 u) (forth2 u)).quiet hSE'
        · rw [Array.setIfInBounds_comm _ _ hji, ← Act.put_comm a v u h2]
          exact hK
      refine ⟨oj, hoj, ?_⟩
      cases ha : tb j with
      | quiet => rw [ha] at hm; obtain ⟨u, g1, g2⟩ := hm; exact ⟨u, g1.same (back1 v).symm (back2 v).symm, go E u hSE (.inl (List.Sublist.refl _)) g2⟩
      | pure => rw [ha] at hm; obtain ⟨u, g1, g2⟩ := hm; exact ⟨u, g1.same (back1 v).symm (back2 v).symm, go E u hSE (.inl (List.Sublist.refl _)) g2⟩
      | grow e =>
        rw [ha] at hm
        rcases hm with ⟨g1, g2⟩ | ⟨g1, g2⟩
        · exact .inl ⟨g1.same (back1 v).symm (back2 v).symm, fun x => go _ _ hSE.grow (.inl (List.sublist_append_right _ _)) (g2 x)⟩
        · exact .inr ⟨(back2 v).symm.trans g1, go E undef hSE (.inl (List.Sublist.refl _)) g2⟩
      | turn =>
        rw [ha] at hm
        rcases hm with ⟨α, V, G, ⟨g0, g1⟩, g2⟩ | ⟨g1, g2⟩
        · refine .inl ⟨α, V, G, ⟨(back2 v).symm.trans g0, fun w hs => (g1 w hs).same (back1 v).symm⟩, fun x => ⟨(g2 x).1, go _ _ (g2 x).1 ?_ (g2 x).2⟩⟩
          rcases hai with hq | hp
          · exact (hbd hq j hjm ha listed hr hj).elim
          · exact .inr hp
        · exact .inr ⟨(back2 v).symm.trans g1, go E undef hSE (.inl (List.Sublist.refl _)) g2⟩
      | dep ts e =>
        obtain ⟨o', ho', hm'⟩ := (qd (e := e (Xp a ts)) ((vX hdep hjm hoj h1).trans (by rw [ha]; rfl))).1 (H.2 j (ready_mono hj hji)).2
        rw [hoj] at ho'
        cases ho'
        rcases hm' with ⟨g1, g2⟩ | ⟨g1, g2⟩
        · exact .inl ⟨g1.same (back1 v).symm (back2 v).symm, fun x => go _ _ hSE.grow (.inl (List.sublist_append_right _ _)) (g2 x)⟩
        · exact .inr ⟨(back2 v).symm.trans g1, go E undef hSE (.inl (List.Sublist.refl _)) g2⟩
theorem Jbi {tb : jp} {m i : Nat} {oi : Oper} {T : Jr → Array Bool → Act → Prop} (hi : ops[i]? = some oi) (hai : (tb i).isGrow = true) (hdep : Jij ops tb m) (hsel : ∀ (j : Nat) (o : Oper) cs b, ops[j]? = some o → o.op ≠ .select cs b)
    (hlt : ∀ listed, HeadInv md ops m listed → listed.getD i true = false → ∀ j ∈ Region.ready md ops listed, j < m)
    (hT : ∀ E listed a, T E listed a → ∀ j ∈ Region.ready md ops listed, m ≤ j) :
    ∀ (f : Nat) (listed : Array Bool) (E : Jr) (a : Act), HeadInv md ops m listed →
      (∀ j oj, ops[j]? = some oj → j ≠ i → listed.getD j true = false → (∀ e ∈ oj.after, Region.binds md e = true → e.on ≠ i) → oi.apart ops oj = true) →
      SubS S E → i ∈ Region.ready md ops listed → Region.wanted oi (yielded ops a.tmps) = false →
      XN c X S ops md tb m T f (listed.setIfInBounds i true) E (a.put oi.dst undef) → XN c X S ops md tb m T (f + 1) listed E a := by
  have self : ∀ {K : Jr → Act → Prop} {E : Jr} {a : Act}, Region.wanted oi (yielded ops a.tmps) = false → K E (a.put oi.dst undef) → stB c X S ops tb i K E a := by
    intro K E a hy H
    obtain ⟨e, he⟩ := yD a hai
    exact (qd he).2 ⟨oi, hi, .inr ⟨hy, H⟩⟩
  intro f
  induction f with
  | zero =>
    intro listed E a inv _ hSE hr hy H
    refine ⟨fun h => (by rw [h] at hr; cases hr), fun j hj => ⟨hlt _ inv (mem_ready.1 hr).1 j hj, ?_⟩⟩
    by_cases hji : j = i
    · subst hji; exact self hy H
    · have h1 := hT _ _ _ H j (ready_mono hj hji)
      have h2 := hlt _ inv (mem_ready.1 hr).1 j hj
      omega
  | succ f ih =>
    intro listed E a inv hfree hSE hr hy H
    refine ⟨fun h => (by rw [h] at hr; cases hr), fun j hj => ?_⟩
    have hjm := hlt _ inv (mem_ready.1 hr).1 j hj
    refine ⟨hjm, ?_⟩
    by_cases hji : j = i
    · subst hji; exact self hy H
    · obtain ⟨oj, hoj, hm⟩ := (H.2 j (ready_mono hj hji)).2
      obtain ⟨hjun, oj', hoj', hall⟩ := mem_ready.1 hj
      rw [hoj] at hoj'
      cases hoj'
      have hnot : ∀ e ∈ oj.after, Region.binds md e = true → e.on ≠ i := fun e he hb heq => by
        have h2 := hall e he hb
        rw [heq, getD_both (mem_ready.1 hr).1] at h2
        cases h2
      obtain ⟨h1, h2, h3⟩ := Oper.apart_spec (hfree j oj hoj hji hjun hnot)
      have hfree' : ∀ k ok, ops[k]? = some ok → k ≠ i → (listed.setIfInBounds j true).getD k true = false →
          (∀ e ∈ ok.after, Region.binds md e = true → e.on ≠ i) → oi.apart ops ok = true := fun k ok hk hki hun hno => by
        refine hfree k ok hk hki ?_ hno
        by_cases hjk : j = k
        · subst hjk; exact hjun
        · rw [getD_set_ne true hjk] at hun; exact hun
      have back1 := fun u => (execOp_put oj (fun cs b => hsel j oj cs b hoj) a oi.dst u h1)
      have back2 := fun u => (wanted_put oj a oi.dst u h1)
      have forth1 := fun u => (execOp_put oi (fun cs b => hsel i oi cs b hi) a oj.dst u h3)
      have forth2 := fun u => (wanted_put oi a oj.dst u h3)
      have go : ∀ E' u, SubS S E' → XN c X S ops md tb m T f ((listed.setIfInBounds i true).setIfInBounds j true) E' ((a.put oi.dst undef).put oj.dst u) →
          XN c X S ops md tb m T (f + 1) (listed.setIfInBounds j true) E' (a.put oj.dst u) := fun E' u hSE' hK => by
        refine ih (listed.setIfInBounds j true) E' (a.put oj.dst u) (inv.set hj hjm) hfree' hSE' (ready_mono hr (Ne.symm hji)) ((forth2 u).trans hy) ?_
        rw [Array.setIfInBounds_comm _ _ hji, ← Act.put_comm a undef u h2]
        exact hK
      refine ⟨oj, hoj, ?_⟩
      cases ha : tb j with
      | quiet => rw [ha] at hm; obtain ⟨u, g1, g2⟩ := hm; exact ⟨u, g1.same (back1 undef).symm (back2 undef).symm, go E u hSE g2⟩
      | pure => rw [ha] at hm; obtain ⟨u, g1, g2⟩ := hm; exact ⟨u, g1.same (back1 undef).symm (back2 undef).symm, go E u hSE g2⟩
      | grow e =>
        rw [ha] at hm
        rcases hm with ⟨g1, g2⟩ | ⟨g1, g2⟩
        · exact .inl ⟨g1.same (back1 undef).symm (back2 undef).symm, fun x => go _ _ hSE.grow (g2 x)⟩
        · exact .inr ⟨(back2 undef).symm.trans g1, go E undef hSE g2⟩
      | turn =>
        rw [ha] at hm
        rcases hm with ⟨α, V, G, ⟨g0, g1⟩, g2⟩ | ⟨g1, g2⟩
        · exact .inl ⟨α, V, G, ⟨(back2 undef).symm.trans g0, fun w hs => (g1 w hs).same (back1 undef).symm⟩, fun x => ⟨(g2 x).1, go _ _ (g2 x).1 (g2 x).2⟩⟩
        · exact .inr ⟨(back2 undef).symm.trans g1, go E undef hSE g2⟩
      | dep ts e =>
        obtain ⟨o', ho', hm'⟩ := (qd (e := e (Xp a ts)) ((vX hdep hjm hoj h1).trans (by rw [ha]; rfl))).1 (H.2 j (ready_mono hj hji)).2
        rw [hoj] at ho'
        cases ho'
        rcases hm' with ⟨g1, g2⟩ | ⟨g1, g2⟩
        · exact .inl ⟨g1.same (back1 undef).symm (back2 undef).symm, fun x => go _ _ hSE.grow (g2 x)⟩
        · exact .inr ⟨(back2 undef).symm.trans g1, go E undef hSE g2⟩
theorem yE {tb : jp} {m i : Nat} {oi : Oper} {ei : GE} {T : Jr → Array Bool → Act → Prop} (hi : ops[i]? = some oi) (him : i < m) (hdep : Jij ops tb m) (hsel : ∀ (j : Nat) (o : Oper) cs b, ops[j]? = some o → o.op ≠ .select cs b)
    (hTp : ∀ E E' listed a, E.Perm E' → T E listed a → T E' listed a)
    (hlt : ∀ listed, HeadInv md ops m listed → listed.getD i true = false → ∀ j ∈ Region.ready md ops listed, j < m)
    (hT : ∀ E listed a, T E listed a → ∀ j ∈ Region.ready md ops listed, m ≤ j) :
    ∀ (f : Nat) (listed : Array Bool) (E : Jr) (a : Act), HeadInv md ops m listed →
      (∀ j oj, ops[j]? = some oj → j ≠ i → listed.getD j true = false → (∀ e ∈ oj.after, Region.binds md e = true → e.on ≠ i) → oi.apart ops oj = true) →
      SubS S E → (tb i).ge a = some ei → i ∈ Region.ready md ops listed → okG md ops tb i f listed = true → YG c X S ops oi ei a →
      (∀ x, XN c X S ops md tb m T f (listed.setIfInBounds i true) (ei.LL x ++ E) (a.put oi.dst (ei.V x))) → XN c X S ops md tb m T (f + 1) listed E a := by
  have self : ∀ {K : Jr → Act → Prop} {E : Jr} {a : Act}, (tb i).ge a = some ei → YG c X S ops oi ei a → (∀ x, K (ei.LL x ++ E) (a.put oi.dst (ei.V x))) → stB c X S ops tb i K E a := by
    intro K E a hai hy H
    exact (qd hai).2 ⟨oi, hi, .inl ⟨hy, H⟩⟩
  intro f
  induction f with
  | zero =>
    intro listed E a inv _ hSE hai hr hok hy H
    refine ⟨fun h => (by rw [h] at hr; cases hr), fun j hj => ⟨hlt _ inv (mem_ready.1 hr).1 j hj, ?_⟩⟩
    by_cases hji : j = i
    · subst hji; exact self hai hy H
    · have h1 := hT _ _ _ (H ei.x0) j (ready_mono hj hji)
      have h2 := hlt _ inv (mem_ready.1 hr).1 j hj
      omega
  | succ f ih =>
    intro listed E a inv hfree hSE hai hr hok hy H
    refine ⟨fun h => (by rw [h] at hr; cases hr), fun j hj => ?_⟩
    have hjm := hlt _ inv (mem_ready.1 hr).1 j hj
    refine ⟨hjm, ?_⟩
    by_cases hji : j = i
    · subst hji; exact self hai hy H
    · unfold okG at hok
      have hokj := List.all_eq_true.1 hok j hj
      simp only [Bool.or_eq_true, beq_iff_eq, hji, false_or, Bool.and_eq_true] at hokj
      obtain ⟨hgj, hok'⟩ := hokj
      obtain ⟨ej, ha⟩ := yD a hgj
      obtain ⟨hjun, oj, hoj, hall⟩ := mem_ready.1 hj
      have hnot : ∀ e ∈ oj.after, Region.binds md e = true → e.on ≠ i := fun e he hb heq => by
        have h2 := hall e he hb
        rw [heq, getD_both (mem_ready.1 hr).1] at h2
        cases h2
      obtain ⟨h1, h2, h3⟩ := Oper.apart_spec (hfree j oj hoj hji hjun hnot)
      have hfree' : ∀ k ok, ops[k]? = some ok → k ≠ i → (listed.setIfInBounds j true).getD k true = false →
          (∀ e ∈ ok.after, Region.binds md e = true → e.on ≠ i) → oi.apart ops ok = true := fun k ok hk hki hun hno => by
        refine hfree k ok hk hki ?_ hno
        by_cases hjk : j = k
        · subst hjk; exact hjun
        · rw [getD_set_ne true hjk] at hun; exact hun
      have back1 := fun u => (execOp_put oj (fun cs b => hsel j oj cs b hoj) a oi.dst u h1)
      have back2 := fun u => (wanted_put oj a oi.dst u h1)
      have forth1 := fun u => (execOp_put oi (fun cs b => hsel i oi cs b hi) a oj.dst u h3)
      have forth2 := fun u => (wanted_put oi a oj.dst u h3)
      have hstep : ∀ x, (YG c X S ops oj ej (a.put oi.dst (ei.V x)) ∧ ∀ y, XN c X S ops md tb m T f ((listed.setIfInBounds i true).setIfInBounds j true) (ej.LL y ++ (ei.LL x ++ E)) ((a.put oi.dst (ei.V x)).put oj.dst (ej.V y))) ∨
          (Region.wanted oj (yielded ops (a.put oi.dst (ei.V x)).tmps) = false ∧ XN c X S ops md tb m T f ((listed.setIfInBounds i true).setIfInBounds j true) (ei.LL x ++ E) ((a.put oi.dst (ei.V x)).put oj.dst undef)) := fun x => by
        obtain ⟨o', ho', hm⟩ := (qd ((vX hdep hjm hoj h1).trans ha)).1 ((H x).2 j (ready_mono hj hji)).2
        rw [hoj] at ho'
        cases ho'
        exact hm
      refine (qd ha).2 ⟨oj, hoj, ?_⟩
      cases hw : Region.wanted oj (yielded ops a.tmps) with
      | true =>
        have hpos : ∀ x, YG c X S ops oj ej (a.put oi.dst (ei.V x)) ∧ ∀ y, XN c X S ops md tb m T f ((listed.setIfInBounds i true).setIfInBounds j true) (ej.LL y ++ (ei.LL x ++ E)) ((a.put oi.dst (ei.V x)).put oj.dst (ej.V y)) := fun x => by
          rcases hstep x with h | h
          · exact h
          · have := (back2 (ei.V x)).symm.trans h.1; rw [hw] at this; cases this
        refine .inl ⟨(hpos ei.x0).1.same (back1 _).symm (back2 _).symm, fun y => ?_⟩
        refine ih (listed.setIfInBounds j true) (ej.LL y ++ E) (a.put oj.dst (ej.V y)) (inv.set hj hjm) hfree' hSE.grow ((vX hdep him hi h3).trans hai) (ready_mono hr (Ne.symm hji)) hok' (hy.same (forth1 _) (forth2 _)) fun x => ?_
        rw [Array.setIfInBounds_comm _ _ hji, ← Act.put_comm a _ _ h2]
        refine VV hTp f _ _ _ _ ?_ ((hpos x).2 y)
        rw [← List.append_assoc, ← List.append_assoc]
        exact List.Perm.append_right _ List.perm_append_comm
      | false =>
        have hneg : ∀ x, XN c X S ops md tb m T f ((listed.setIfInBounds i true).setIfInBounds j true) (ei.LL x ++ E) ((a.put oi.dst (ei.V x)).put oj.dst undef) := fun x => by
          rcases hstep x with h | h
          · have := (back2 (ei.V x)).symm.trans h.1.1; rw [hw] at this; cases this
          · exact h.2
        refine .inr ⟨rfl, ?_⟩
        refine ih (listed.setIfInBounds j true) E (a.put oj.dst undef) (inv.set hj hjm) hfree' hSE ((vX hdep him hi h3).trans hai) (ready_mono hr (Ne.symm hji)) hok' (hy.same (forth1 _) (forth2 _)) fun x => ?_
        rw [Array.setIfInBounds_comm _ _ hji, ← Act.put_comm a _ _ h2]
        exact hneg x
def Jej (c : Cx) (X : XP) (S : Jr) (ops : Array Oper) (tb : jp) (T : Jr → Act → Prop) : List Nat → Jr → Act → Prop
  | [], E, a => T E a
  | k :: rest, E, a => stB c X S ops tb k (fun E' a' => Jej c X S ops tb T rest E' a') E a
def Jl2 (md : Region.Mode) (ops : Array Oper) (tb : jp) (m g : Nat) : List Nat → Array Bool → Bool
  | [], listed => Region.seqB md ops g m listed
  | k :: r, listed => Nat.blt k m && (match (tb k).isTurn with
      | true => decide (Region.ready md ops listed = [k])
      | false => (Region.ready md ops listed).contains k && Region.free md ops listed k && (!(tb k).isGrow || okG md ops tb k r.length listed)) && Jl2 md ops tb m g r (listed.setIfInBounds k true)
theorem Jbj {tb : jp} {m g : Nat} {T : Jr → Act → Prop} (hsel : Region.noSelect ops = true) (hTp : ∀ E E' a, E.Perm E' → T E a → T E' a) (hbd : ∀ i, i < m → Jeh md ops tb m i) (hdep : Jij ops tb m) (hlt : ∀ i, i < m → ∀ listed, HeadInv md ops m listed → listed.getD i true = false → ∀ j ∈ Region.ready md ops listed, j < m)
    (hseq : ∀ listed, Region.seqB md ops g m listed = true → ∀ j ∈ Region.ready md ops listed, m ≤ j) :
    ∀ (l : List Nat) (listed : Array Bool) (E : Jr) (a : Act), HeadInv md ops m listed → SubS S E →
    Jl2 md ops tb m g l listed = true → Jej c X S ops tb T l E a →
    XN c X S ops md tb m (fun E' listed' a' => Region.seqB md ops g m listed' = true ∧ T E' a') l.length listed E a
  | [], listed, E, a, _, _, hB, h => ⟨by simpa [Jl2] using hB, h⟩
  | k :: l, listed, E, a, inv, hSE, hB, h => by
    simp only [Jl2, Bool.and_eq_true] at hB
    obtain ⟨⟨hkm, hr⟩, hB'⟩ := hB
    have hkm : k < m := by
      have : k + 1 ≤ m := Nat.le_of_ble_eq_true hkm
      omega
    have hr' : k ∈ Region.ready md ops listed := by
      cases ht : (tb k).isTurn with
      | true => rw [ht] at hr; simp only [decide_eq_true_eq] at hr; rw [hr]; exact List.mem_cons_self
      | false => rw [ht] at hr; simp only [Bool.and_eq_true] at hr; simpa using hr.1.1
    have next : ∀ E' a', SubS S E' → Jej c X S ops tb T l E' a' → XN c X S ops md tb m (fun E' listed' a' => Region.seqB md ops g m listed' = true ∧ T E' a') l.length (listed.setIfInBounds k true) E' a' := fun E' a' hSE' hw =>
      Jbj hsel hTp hbd hdep hlt hseq l _ E' a' (inv.set hr' hkm) hSE' hB' hw
    obtain ⟨o, h0, hm⟩ := h
    have quiet : (tb k).isTurn = false → ∀ v, (tb k = .quiet ∨ tb k = .pure) → (YQ c E X ops o v a ∧ (tb k = .pure → YP c X S ops o v a)) → Jej c X S ops tb T l E (a.put o.dst v) →
        XN c X S ops md tb m (fun E' listed' a' => Region.seqB md ops g m listed' = true ∧ T E' a') (l.length + 1) listed E a := fun hnt v hai hy hw => by
      rw [hnt] at hr
      simp only [Bool.and_eq_true] at hr
      exact Jei h0 hai (Region.noSelect_spec hsel) (hbd k hkm) hdep (hlt k hkm) (fun E' listed' a' hL => hseq _ hL.1) l.length listed E a inv (Region.free_spec h0 hr.1.2) hSE hr' hy (next _ _ hSE hw)
    cases ha : tb k with
    | quiet => rw [ha] at hm; obtain ⟨v, hy, hw⟩ := hm; exact quiet (by rw [ha]; rfl) v (.inl ha) ⟨hy, fun e => by rw [ha] at e; cases e⟩ hw
    | pure => rw [ha] at hm; obtain ⟨v, hy, hw⟩ := hm; exact quiet (by rw [ha]; rfl) v (.inr ha) ⟨hy.quiet hSE, fun _ => hy⟩ hw
    | grow e =>
      rw [ha] at hm hr
      simp only [Kb.isTurn, Kb.isGrow, Bool.not_true, Bool.false_or, Bool.and_eq_true] at hr
      rcases hm with ⟨h1, h2⟩ | ⟨h1, h2⟩
      · exact yE h0 hkm hdep (Region.noSelect_spec hsel) (fun E E' listed a hp hT => ⟨hT.1, hTp _ _ _ hp hT.2⟩) (hlt k hkm) (fun E' listed' a' hL => hseq _ hL.1) l.length listed E a inv (Region.free_spec h0 hr.1.2) hSE (by rw [ha]; rfl) hr' hr.2 h1 fun x => next _ _ hSE.grow (h2 x)
      · exact Jbi h0 (by rw [ha]; rfl) hdep (Region.noSelect_spec hsel) (hlt k hkm) (fun E' listed' a' hL => hseq _ hL.1) l.length listed E a inv (Region.free_spec h0 hr.1.2) hSE hr' h1 (next _ _ hSE h2)
    | dep ts e =>
      rw [ha] at hm hr
      simp only [Kb.isTurn, Kb.isGrow, Bool.not_true, Bool.false_or, Bool.and_eq_true] at hr
      rcases hm with ⟨h1, h2⟩ | ⟨h1, h2⟩
      · exact yE h0 hkm hdep (Region.noSelect_spec hsel) (fun E E' listed a hp hT => ⟨hT.1, hTp _ _ _ hp hT.2⟩) (hlt k hkm) (fun E' listed' a' hL => hseq _ hL.1) l.length listed E a inv (Region.free_spec h0 hr.1.2) hSE (by rw [ha]; rfl) hr' hr.2 h1 fun x => next _ _ hSE.grow (h2 x)
      · exact Jbi h0 (by rw [ha]; rfl) hdep (Region.noSelect_spec hsel) (hlt k hkm) (fun E' listed' a' hL => hseq _ hL.1) l.length listed E a inv (Region.free_spec h0 hr.1.2) hSE hr' h1 (next _ _ hSE h2)
    | turn =>
      rw [ha] at hm hr
      simp only [Kb.isTurn, decide_eq_true_eq] at hr
      refine ⟨fun e => (by rw [e] at hr'; cases hr'), fun i hi => ?_⟩
      rw [hr] at hi
      have hik : i = k := by simpa using hi
      subst hik
      refine ⟨hkm, o, h0, ?_⟩
      rw [ha]
      rcases hm with ⟨α, V, G, h1, h2⟩ | ⟨h1, h2⟩
      · exact .inl ⟨α, V, G, h1, fun x => ⟨(h2 x).1, next _ _ (h2 x).1 (h2 x).2⟩⟩
      · exact .inr ⟨h1, next _ _ hSE h2⟩
def Jek : List (Nat × Kb) → jp
  | [], _ => .quiet
  | (j, p) :: r, k => match Nat.beq k j with | true => p | false => Jek r k
def Jgd (md : Region.Mode) (ops : Array Oper) (tb : jp) (m : Nat) : Bool :=
  (List.range m).all fun j => if (tb j).isTurn then (List.range m).all fun i => !(tb i).isQuiet || onB md ops j i || onB md ops i j else true
theorem xf {tb : jp} {m : Nat} (h : Jgd md ops tb m = true) {i : Nat} (hi : i < m) : Jeh md ops tb m i := fun hq j hj he listed hir hjr => by
  have h1 := List.all_eq_true.1 h j (List.mem_range.2 hj)
  rw [he] at h1
  simp only [Kb.isTurn, if_true] at h1
  have h2 := List.all_eq_true.1 h1 i (List.mem_range.2 hi)
  rw [hq] at h2
  simp only [Kb.isQuiet, Bool.not_true, Bool.false_or, Bool.or_eq_true] at h2
  rcases h2 with h2 | h2
  · exact zI h2 hjr hir
  · exact zI h2 hir hjr
end
section
variable {c : Cx} {l : Kn} {L E : Jr} {X : XP} {Q : Exit → Act → World → Prop} {d : List Deferred}
variable {ops : Array Oper} {rest : List Nat} {i k : Nat} {v : Value} {o : Oper} {tb : jp} {S : Jr} {T : Jr → Act → Prop}
def HB (c : Cx) (d : List Deferred) (l : Kn) (E : Jr) (X : XP) (S : Jr) (ops : Array Oper) (tb : jp) (rest : List Nat) (T : Jr → Act → Prop) : Prop :=
  ∀ a, Fr c.n d l a → Jej c X S ops tb T rest E a
def Jwv (ops : Array Oper) (tb : jp) (m : Nat) : Bool :=
  (List.range m).all fun j => match tb j with
    | .dep ts _ => match ops[j]? with
      | some o => ts.all fun t => (o.looksAt ops).contains t
      | none => true
    | _ => true
theorem Jil {m : Nat} (h : Jwv ops tb m = true) : Jij ops tb m := fun j hj o ho ts e ht t hm => by
  have h1 := List.all_eq_true.1 h j (List.mem_range.2 hj)
  rw [ht] at h1
  simp only [ho] at h1
  simpa using List.all_eq_true.1 h1 t hm
def Jl3 (ops : List Oper) (tb : jp) (m : Nat) (order : List Nat) : Bool :=
  (ops.all fun o => Kp o.op) && Region.noSelect ops.toArray && Nat.ble m ops.length && Nat.beq order.length m &&
  (Nat.beq m ops.length || (Region.sinkB .any ops.toArray m && Region.chainB .any ops.toArray m)) && Jgd .any ops.toArray tb m && Jwv ops.toArray tb m &&
  Jl2 .any ops.toArray tb m (ops.length - m) order (Array.replicate ops.length false)
theorem JS {id : Nat} {ops : List Oper} (S : Jr) (tab : List (Nat × Kb)) (m : Nat) (order : List Nat) (hm : c.P.follows .mixedOrders = true) (hB : Jl3 ops (Jek tab) m order = true) (hSL : SubS S L)
    (h : HB c d l L X S ops.toArray (Jek tab) order (fun E a' => ∀ w, St c E X w → wpListIn (FW c.ro) 0 c.P ops.toArray Q (ops.drop m) a' w)) : HC c d l L X (.region id ops.toArray true) Q := fun a w hf hs => by
  simp only [Jl3, Bool.and_eq_true, Bool.or_eq_true] at hB
  obtain ⟨⟨⟨⟨⟨⟨⟨h1, hsel⟩, hle⟩, hol⟩, hsc⟩, hcr⟩, hdp⟩, hlex⟩ := hB
  have hle' := Nat.le_of_ble_eq_true hle
  have hol' := Nat.eq_of_beq_eq_true hol
  have hnd : ∀ (j : Nat) (o : Oper), ops.toArray[j]? = some o → Kp o.op = true := fun j o ho => List.all_eq_true.1 h1 o (List.mem_of_getElem? (by simpa using ho))
  have hdl : (ops.drop m).length = ops.length - m := by simp
  have hlt : ∀ i, i < m → ∀ listed, HeadInv .any ops.toArray m listed → listed.getD i true = false → ∀ j ∈ Region.ready .any ops.toArray listed, j < m := by
    intro i hi listed inv hun j hj
    rcases Nat.lt_or_ge j m with hjm | hjm
    exact hjm
    have hjs : j < ops.length := by obtain ⟨_, oj, hoj, _⟩ := mem_ready.1 hj; simpa using (Array.getElem?_eq_some_iff.1 hoj).1
    rcases hsc with h0 | ⟨h2, h3⟩
    have := Nat.eq_of_beq_eq_true h0; omega
    exact absurd hj (tail_waits h2 h3 (by simpa using (show m < ops.length by omega)) inv _ i rfl hi hun j hjm)
  have inv0 : HeadInv .any ops.toArray m (Array.replicate ops.length false) :=
    ⟨by simp, fun j oj _ hl => (by rw [getD_replicate_false] at hl; cases hl), fun t _ ht => getD_in (by simpa using ht) (getD_replicate_false _ _)⟩
  have H := Jbj (c := c) (X := X) (md := .any) (g := ops.length - m) hsel (fun E E' a hp hT w hs => hT w (hs.perm hp.symm)) (fun i hi => xf hcr hi) (Jil hdp) hlt (fun listed hq => seqB_ready hq) order _ L a inv0 hSL hlex (h a hf)
  refine wpIn_region_any hm ?_
  have := Jgc (Q' := Q) (g := ops.length - m) hnd (fun E' listed a' w' _ hw' hL => by
    have := WU (ro := c.ro) (P := c.P) (md := .any) (Q' := Q) (ops.drop m) m listed a' w' (fun j => by simp [List.getElem?_drop]) (by rw [hdl]; exact hL.1) (hL.2 w' hw')
    rwa [hdl] at this) _ _ _ _ _ hSL (show St c L X w.drew from hs.drew) H
  rw [hol', show m + (ops.length - m) = ops.toArray.size from by simp; omega] at this
  simpa using this
theorem KC {tail : List Oper} (h : HL c d l E X ops tail Q) : HB c d l E X S ops tb [] (fun E' a' => ∀ w, St c E' X w → wpListIn (FW c.ro) 0 c.P ops Q tail a' w) :=
  fun a hf w hs => h a w hf hs
theorem KW (hk : Wl ops.toList k = some o) (hg : Kj l ops o = some true) (hd : o.dst = some i) (hi : Nat.ble (i + 1) c.n = true) (hA : tb k = .quiet) (hr : J7 c d l E X o v) (h : HB c d ((i, v) :: l) E X S ops tb rest T) : HB c d l E X S ops tb (k :: rest) T := fun a hf => by
  refine ⟨o, QJ hk, ?_⟩
  rw [hA]
  refine ⟨v, .inl ⟨JB hf hg, fun w hs => Yt (hr a w hf hs) ⟨rfl, Keep.refl _ _⟩⟩, ?_⟩
  rw [hd]; exact h _ (hf.put (Nat.le_of_ble_eq_true hi))
theorem Jw (hk : Wl ops.toList k = some o) (hg : Kj l ops o = some true) (hd : o.dst = some i) (hi : Nat.ble (i + 1) c.n = true) (hA : tb k = .pure) (hr : ∀ E', SubS S E' → J7 c d l E' X o v) (h : HB c d ((i, v) :: l) E X S ops tb rest T) : HB c d l E X S ops tb (k :: rest) T := fun a hf => by
  refine ⟨o, QJ hk, ?_⟩
  rw [hA]
  refine ⟨v, .inl ⟨JB hf hg, fun E' hE' w hs => Yt (hr E' hE' a w hf hs) ⟨rfl, Keep.refl _ _⟩⟩, ?_⟩
  rw [hd]; exact h _ (hf.put (Nat.le_of_ble_eq_true hi))
theorem vj (hk : Wl ops.toList k = some o) (hg : Kj l ops o = some false) (hd : o.dst = some i) (hi : Nat.ble (i + 1) c.n = true) (h : HB c d ((i, undef) :: l) E X S ops tb rest T) : HB c d l E X S ops tb (k :: rest) T := fun a hf => by
  refine ⟨o, QJ hk, ?_⟩
  have hw := JB hf hg
  have hn : Jej c X S ops tb T rest E (a.put o.dst undef) := by rw [hd]; exact h _ (hf.put (Nat.le_of_ble_eq_true hi))
  cases tb k with
  | quiet => exact ⟨undef, .inr ⟨hw, rfl⟩, hn⟩
  | pure => exact ⟨undef, .inr ⟨hw, rfl⟩, hn⟩
  | grow e => exact .inr ⟨hw, hn⟩
  | turn => exact .inr ⟨hw, hn⟩
  | dep ts e => exact .inr ⟨hw, hn⟩
theorem Jq1 {b : Bool} (t : Nat) (ht : Vs l t = some (.bool b)) (h1 : b = true → HB c d ((t, .bool true) :: l) E X S ops tb rest T) (h0 : b = false → HB c d ((t, .bool false) :: l) E X S ops tb rest T) : HB c d l E X S ops tb rest T := fun a hf => by
  cases hb : b with
  | true => exact h1 hb a (qY hf ht hb.symm)
  | false => exact h0 hb a (qY hf ht hb.symm)
theorem W9 {v' : Value} (e : v = v') (h : HB c d ((i, v') :: l) E X S ops tb rest T) : HB c d ((i, v) :: l) E X S ops tb rest T := e ▸ h
theorem WA {f : Operand} {args : Array Operand} {at_ : Array TypeId} {g : FuncId} {vs : List Value} {ty : TypeId} {ps : String} {af : Array Edge} {gd : Option (Nat × Bool)}
    (hk : Wl ops.toList k = some ⟨some i, .call ⟨.value f, args, at_⟩, ty, ps, af, gd⟩) (hg : Kj l ops ⟨some i, .call ⟨.value f, args, at_⟩, ty, ps, af, gd⟩ = some true) (hi : Nat.ble (i + 1) c.n = true) (hA : tb k = .pure) (hca : KA l f args = some (g, vs)) (eg : Enters c.P g)
    (hp : Pure c.P g vs.toArray v) (h : HB c d ((i, v) :: l) E X S ops tb rest T) : HB c d l E X S ops tb (k :: rest) T := fun a hf => by
  refine ⟨_, QJ hk, ?_⟩
  rw [hA]
  exact ⟨v, .inl ⟨JB hf hg, fun _ _ w _ => Xl hf hca eg ((hp.run w).mono fun _ _ ⟨he, hk⟩ => ⟨v, he, rfl, hk⟩)⟩, h _ (hf.put (Nat.le_of_ble_eq_true hi))⟩
theorem Qp {f : Operand} {args : Array Operand} {at_ : Array TypeId} {g : FuncId} {vs : List Value} {Rl : Jr} {ty : TypeId} {ps : String} {af : Array Edge} {gd : Option (Nat × Bool)}
    (hk : Wl ops.toList k = some ⟨some i, .call ⟨.value f, args, at_⟩, ty, ps, af, gd⟩) (hg : Kj l ops ⟨some i, .call ⟨.value f, args, at_⟩, ty, ps, af, gd⟩ = some true) (hi : Nat.ble (i + 1) c.n = true) (hA : tb k = .quiet) (hca : KA l f args = some (g, vs)) (eg : Enters c.P g)
    (hp : PureR c.P g vs.toArray v Rl) (hR : ∀ p ∈ Rl, known c E p.1 p.2) (h : HB c d ((i, v) :: l) E X S ops tb rest T) : HB c d l E X S ops tb (k :: rest) T := fun a hf => by
  refine ⟨_, QJ hk, ?_⟩
  rw [hA]
  exact ⟨v, .inl ⟨JB hf hg, fun w hs => Xl hf hca eg ((hp.run w fun p hp => hs.known (hR p hp)).mono fun _ _ ⟨he, hk⟩ => ⟨v, he, rfl, hk⟩)⟩, h _ (hf.put (Nat.le_of_ble_eq_true hi))⟩
def Wc (V : Nat → Value) (ob : Obj) : GE := ⟨Nat, V, fun r => [(r, ob)], 0⟩
def Qt {α : Type} (x0 : α) (V : α → Value) (LL : α → Jr) : GE := ⟨α, V, LL, x0⟩
theorem xg {e : GE} (hk : Wl ops.toList k = some o) (hg : Kj l ops o = some true) (hd : o.dst = some i) (hi : Nat.ble (i + 1) c.n = true) (hA : tb k = .grow e) (hr : ∀ E', SubS S E' → ∀ a w, Fr c.n d l a → St c E' X w → actAt c o a w fun u w' => ∃ x, u = e.V x ∧ Jl1 (e.LL x) w w')
    (h : ∀ x, HB c d ((i, e.V x) :: l) (e.LL x ++ E) X S ops tb rest T) : HB c d l E X S ops tb (k :: rest) T := fun a hf => by
  refine ⟨o, QJ hk, ?_⟩
  rw [hA]
  refine .inl ⟨⟨JB hf hg, fun E' hE' w hs => hr E' hE' a w hf hs⟩, fun x => ?_⟩
  rw [hd]; exact h x _ (hf.put (Nat.le_of_ble_eq_true hi))
def Yw (l : Kn) : List Nat → Option (List Value)
  | [] => some []
  | t :: ts => match Vs l t, Yw l ts with
    | some v, some r => some (v :: r)
    | _, _ => none
theorem jq {n : Nat} {a : Act} (hf : Fr n d l a) : ∀ {ts : List Nat} {vs : List Value}, Yw l ts = some vs → Xp a ts = vs
  | [], vs, h => by cases h; rfl
  | t :: ts, vs, h => by
    unfold Yw at h
    cases h1 : Vs l t with
    | none => rw [h1] at h; cases h
    | some v =>
      cases h2 : Yw l ts with
      | none => rw [h1, h2] at h; cases h
      | some r =>
        rw [h1, h2] at h
        cases h
        show a.eval (.tmp t) :: Xp a ts = v :: r
        rw [jq hf h2, hf.eval (x := .tmp t) (v := v) h1]
theorem Juw {ts : List Nat} {e : List Value → GE} {vs : List Value} {e0 : GE} (hk : Wl ops.toList k = some o) (hg : Kj l ops o = some true) (hd : o.dst = some i) (hi : Nat.ble (i + 1) c.n = true) (hA : tb k = .dep ts e) (hv : Yw l ts = some vs) (he : e vs = e0) (hr : ∀ E', SubS S E' → ∀ a w, Fr c.n d l a → St c E' X w → actAt c o a w fun u w' => ∃ x, u = e0.V x ∧ Jl1 (e0.LL x) w w')
    (h : ∀ x, HB c d ((i, e0.V x) :: l) (e0.LL x ++ E) X S ops tb rest T) : HB c d l E X S ops tb (k :: rest) T := fun a hf => by
  refine ⟨o, QJ hk, ?_⟩
  rw [hA]
  subst he
  show (YG c X S ops o (e (Xp a ts)) a ∧ ∀ x, Jej c X S ops tb T rest ((e (Xp a ts)).LL x ++ E) (a.put o.dst ((e (Xp a ts)).V x))) ∨ _
  rw [jq hf hv]
  refine .inl ⟨⟨JB hf hg, fun E' hE' w hs => hr E' hE' a w hf hs⟩, fun x => ?_⟩
  rw [hd]; exact h x _ (hf.put (Nat.le_of_ble_eq_true hi))
theorem Jl4 {V : Nat → Value} {ob : Obj} (hk : Wl ops.toList k = some o) (hg : Kj l ops o = some true) (hd : o.dst = some i) (hi : Nat.ble (i + 1) c.n = true) (hA : tb k = .grow (Wc V ob)) (hr : ∀ a w, Fr c.n d l a → (execOp a.eval o).run c.P w = .ok (.value (V w.heap.size)) (w.alloc ob))
    (h : ∀ r, HB c d ((i, V r) :: l) ((r, ob) :: E) X S ops tb rest T) : HB c d l E X S ops tb (k :: rest) T :=
  xg (e := Wc V ob) hk hg hd hi hA (fun E' _ a w hf hs => Yt (hr a w hf) ⟨w.heap.size, rfl, Keep.alloc ob, fun p hp => by rw [List.mem_singleton.1 hp]; exact ⟨Nat.le_refl _, (MapKept.heap_alloc w _).1⟩, List.pairwise_singleton _ _⟩) h
theorem Jq2 {ts : List Nat} {e : List Value → GE} {vs : List Value} {V : Nat → Value} {ob : Obj} (hk : Wl ops.toList k = some o) (hg : Kj l ops o = some true) (hd : o.dst = some i) (hi : Nat.ble (i + 1) c.n = true) (hA : tb k = .dep ts e) (hv : Yw l ts = some vs) (he : e vs = Wc V ob) (hr : ∀ a w, Fr c.n d l a → (execOp a.eval o).run c.P w = .ok (.value (V w.heap.size)) (w.alloc ob))
    (h : ∀ r, HB c d ((i, V r) :: l) ((r, ob) :: E) X S ops tb rest T) : HB c d l E X S ops tb (k :: rest) T :=
  Juw (e0 := Wc V ob) hk hg hd hi hA hv he (fun E' _ a w hf hs => Yt (hr a w hf) ⟨w.heap.size, rfl, Keep.alloc ob, fun p hp => by rw [List.mem_singleton.1 hp]; exact ⟨Nat.le_refl _, (MapKept.heap_alloc w _).1⟩, List.pairwise_singleton _ _⟩) h
theorem V2 {ts : List Nat} {ev : List Value → GE} {dv : List Value} {t ty : TypeId} {ps : String} {af : Array Edge} {gd : Option (Nat × Bool)} {n e sz : Nat} {pa : List (Nat × Operand)} {vs : Kn} {r zs : List Value} {z : Value} (hk : Wl ops.toList k = some ⟨some i, .buildSlice t n pa.toArray, ty, ps, af, gd⟩) (hg : Kj l ops ⟨some i, .buildSlice t n pa.toArray, ty, ps, af, gd⟩ = some true) (hi : Nat.ble (i + 1) c.n = true)
    (hA : tb k = .dep ts ev) (hv : Yw l ts = some dv) (he : ev dv = Wc (slV n) (.cells r.toArray e (0, 0)))
    (hp : Wy l pa = some vs) (ht : Kl c.P t = some e) (hz : QE c.P e = some z) (hs : KF c.P e = some sz) (hzs : z.cells.size = sz) (hb : Nat.ble (n * sz) 16777216 = true) (h0 : Nat.ble 1 (n * sz) = true)
    (hmk : (madeCells z.cells (n * sz)).toList = zs) (hf : Y8 (fun i => some (i * sz, sz)) zs (Qz vs) = some r)
    (h : ∀ q, HB c d ((i, .slice (some ⟨q, 0, none⟩) n n) :: l) ((q, .cells r.toArray e (0, 0)) :: E) X S ops tb rest T) : HB c d l E X S ops tb (k :: rest) T :=
  Jq2 (V := slV n) hk hg rfl hi hA hv he (fun a w hfr => by
    have h1 := Vh hfr hp
    have h2 : (pa.toArray.map fun (p : Nat × Operand) => (p.1, a.eval p.2)) = vs.toArray := by
      apply Array.toList_inj.1; rw [Array.toList_map]; simpa using h1
    rw [Qs] at hf
    subst hmk
    have h3 := Vx ht hz hs hzs (Nat.le_of_ble_eq_true hb) (Nat.le_of_ble_eq_true h0) hf w
    rw [← h2] at h3
    simp only [execOp, Sem.run_bind]
    have h4 : (Instr.buildSlice t n (pa.toArray.map fun (i, x) => (i, a.eval x))).run c.P w = .ok (.slice (some ⟨w.heap.size, 0, none⟩) n n) (w.alloc (.cells r.toArray e)) := h3
    rw [h4]; rfl) h
def Jbk (n e : Nat) (vs : List Value) : GE := Wc (slV n) (.cells (vs.flatMap fun v => v.cells.toList).toArray e (0, 0))
theorem Ya {z : Value} {cs : Array Value} {t ty : TypeId} {ps : String} {af : Array Edge} {gd : Option (Nat × Bool)} (hk : Wl ops.toList k = some ⟨some i, .alloc t, ty, ps, af, gd⟩) (hg : Kj l ops ⟨some i, .alloc t, ty, ps, af, gd⟩ = some true) (hi : Nat.ble (i + 1) c.n = true) (hA : tb k = .grow (Wc zJ (.cells cs t (0, 0)))) (hz : QE c.P t = some z) (hc : z.cells = cs)
    (h : ∀ r, HB c d ((i, .pointer (some ⟨r, 0, none⟩)) :: l) ((r, .cells cs t (0, 0)) :: E) X S ops tb rest T) : HB c d l E X S ops tb (k :: rest) T :=
  Jl4 (V := zJ) hk hg rfl hi hA (fun a w hf => by simp [execOp, Instr.alloc, Sem.run_bind, Xh hz, Result.andThen, newVar, newRow, hc, zJ]) h
theorem Yb {α : Type} {x0 : α} {V : α → Value} {LL : α → Jr} {f : Operand} {args : Array Operand} {at_ : Array TypeId} {g : FuncId} {vs : List Value} {ty : TypeId} {ps : String} {af : Array Edge} {gd : Option (Nat × Bool)}
    (hk : Wl ops.toList k = some ⟨some i, .call ⟨.value f, args, at_⟩, ty, ps, af, gd⟩) (hg : Kj l ops ⟨some i, .call ⟨.value f, args, at_⟩, ty, ps, af, gd⟩ = some true) (hi : Nat.ble (i + 1) c.n = true) (hA : tb k = .grow (Qt x0 V LL)) (hca : KA l f args = some (g, vs)) (eg : Enters c.P g)
    (hp : PureE c.P g vs.toArray V LL) (h : ∀ x, HB c d ((i, V x) :: l) (LL x ++ E) X S ops tb rest T) : HB c d l E X S ops tb (k :: rest) T :=
  xg (e := Qt x0 V LL) hk hg rfl hi hA (fun E' _ a w hf hs => Xl hf hca eg ((hp.run w).mono fun _ _ ⟨x, he, hk, h1, h2⟩ => ⟨V x, he, x, rfl, hk, h1, h2⟩)) h
theorem vY {E' : Jr} (hk : Wl ops.toList k = some o) (hg : Kj l ops o = some true) (hd : o.dst = none) (hA : tb k = .turn) (hr : ∀ a w, Fr c.n d l a → St c E X w → ∃ w', (execOp a.eval o).run c.P w = .ok .skip w' ∧ St c E' X w') (hS : SubS S E')
    (h : HB c d l E' X S ops tb rest T) : HB c d l E X S ops tb (k :: rest) T := fun a hf => by
  refine ⟨o, QJ hk, ?_⟩
  rw [hA]
  refine .inl ⟨Unit, fun _ => undef, fun _ => E', ⟨JB hf hg, fun w hs => ?_⟩, fun _ => ⟨hS, ?_⟩⟩
  · obtain ⟨w', h1, h2⟩ := hr a w hf hs
    exact Jko h1 ⟨(), rfl, h2⟩
  · rw [hd]; exact h _ hf
theorem q7 {t ty : TypeId} {ps : String} {af : Array Edge} {gd : Option (Nat × Bool)} {x y : Operand} {q r n : Nat} {cs : Array Value} {ys : List Value} {e : TypeId} {E' : Jr} (hko : Wl ops.toList k = some ⟨none, .store t x y, ty, ps, af, gd⟩) (hg : Kj l ops ⟨none, .store t x y, ty, ps, af, gd⟩ = some true) (hA : tb k = .turn)
    (hx : Ke l x = some (.pointer (some ⟨r, 0, none⟩))) (hk : E[q]? = some (r, .cells cs e (0, 0))) (hy : Ke l y = some (.agg ys.toArray)) (ht : KF c.P t = some n) (hn : ys.length = n) (hcz : cs.size = n) (ho : ys.all QR = true) (hL : E.set q (r, .cells ys.toArray e (0, 0)) = E') (hS : SubS S E')
    (h : HB c d l E' X S ops tb rest T) : HB c d l E X S ops tb (k :: rest) T :=
  vY hko hg rfl hA (fun a w hf hst => ⟨w.setRow r ys.toArray, by
    have hcs : (cs.toList.take 0 ++ ys.toArray.toList ++ cs.toList.drop (0 + n)).toArray = ys.toArray := by
      apply Array.toList_inj.1
      simp [← hcz]
    simp only [execOp]; rw [hf.eval hx, hf.eval hy]
    have h1 := run_storeCells_at (P := c.P) r 0 e ys.toArray.toList 0 cs w (hst.get hk) (by simp [hn]; omega) (fun u hu => by rw [X7]; exact List.all_eq_true.1 ho u (by simpa using hu))
    simp only [Nat.add_zero, Array.length_toList, List.size_toArray, hn] at h1
    rw [hcs] at h1
    simp [Instr.storeAt, Instr.sureAddr, Sem.run_bind, Result.andThen, storeVar, Vw ht, Value.cells, hn, h1], by
    subst hL
    exact hst.set hk (Keep.setRow r ys.toArray) (setRow_heap _ _ _ _ _ _ (hst.get hk))⟩) hS h
theorem WB {t ty : TypeId} {ps : String} {af : Array Edge} {gd : Option (Nat × Bool)} {x y : Operand} {q r off : Nat} {cs cs' : Array Value} {e : TypeId} {E' : Jr} (hko : Wl ops.toList k = some ⟨none, .store t x y, ty, ps, af, gd⟩) (hg : Kj l ops ⟨none, .store t x y, ty, ps, af, gd⟩ = some true) (hA : tb k = .turn)
    (hx : Ke l x = some (.pointer (some ⟨r, off, none⟩))) (hk : E[q]? = some (r, .cells cs e (0, 0))) (hy : Ke l y = some v) (ht : KF c.P t = some 1) (ho : QR v = true) (hc : (cs[off]?).isSome = true)
    (hcs : cs.setIfInBounds off v = cs') (hL : E.set q (r, .cells cs' e (0, 0)) = E') (hS : SubS S E')
    (h : HB c d l E' X S ops tb rest T) : HB c d l E X S ops tb (k :: rest) T :=
  vY hko hg rfl hA (fun a w hf hs => ⟨w.setCell ⟨r, off, none⟩ v, by
    simp only [execOp]; rw [hf.eval hx, hf.eval hy]
    obtain ⟨old, hold⟩ := Option.isSome_iff_exists.1 hc
    have h1 := run_store c.P w ⟨r, off, none⟩ v .plain (by rw [X7]; exact ho)
    rw [VZ (hs.get hk), hold, jR (hs.get hk) (Juh off)] at h1
    have hcell : v.cells = #[v] := by cases v <;> first | rfl | cases ho
    simp [Instr.storeAt, Instr.sureAddr, Sem.run_bind, Result.andThen, storeVar, Vw ht, hcell, storeCells, Addr.add, h1], by
    subst hL; subst hcs
    exact hs.set hk (Keep.setCell r off v) (heap_setCell_same v (hs.get hk))⟩) hS h
end
end Go.SL
namespace Go.Proofs.YteceenlfegnigaaGreatDoor
set_option linter.all false
open Go.SL Go.RowKit Go.Shelf
theorem Jel (k : Int) : (YK k).all QR = true := by
  unfold YK fnV
  cases zX k <;> cases Jef k <;> rfl
theorem Zr {k : Int} (h : zX k = false) : k < 1 ∨ 8 < k := by unfold zX at h; simp at h; omega
theorem Jge {b : Bool} {f : FuncId} (h : b = true) : fnV b f = .func (.func f) #[] #[] := by rw [h]; rfl
theorem Jgf {k : Int} (h : zX k = true) : Jef k = (decide (k = 4) || decide (k = 6) || decide (k = 8)) := by
  have := W1.1 h
  have : k = 1 ∨ k = 2 ∨ k = 3 ∨ k = 4 ∨ k = 5 ∨ k = 6 ∨ k = 7 ∨ k = 8 := by omega
  rcases this with rfl | rfl | rfl | rfl | rfl | rfl | rfl | rfl <;> rfl
theorem Jq3 {R : Jr} {t : Ty} (ht : t.In R) : ∀ d : Int, 0 ≤ d → d ≤ 1000 → PureR Tryz.prog 141 [t.val, .int .i64 d].toArray (.int .i64 (V6 t d)) R := by
  induction ht with
  | @mk k n p ins hk hn hl hs hi ih =>
  intro d hd0 hd1
  have hF := fun h => Jwu (.mk hk hn hl hs hi : Ty.In R (.mk k n p ins)) h
  refine Je Tryz.func141 rfl rfl fun w => ?_; refine sR fun K1 hK1 => ?_; refine LN rfl fun r1 => ?_; refine Ji rfl (nK hK1 ?_); clear hK1 K1; refine sQ fun K2 hK2 => ?_
  refine JS [] [(0, .grow (Qt 0 (fun r : Nat => Value.map (some r)) (fun r => [(r, Jii)]))), (1, .pure), (4, .pure), (5, .pure), (6, .pure), (7, .grow (Wc zJ (.cells #[.nilFunc, .nilFunc, .nilFunc, .bool false] 171 (0, 0)))), (8, .turn), (9, .pure)] 10 [1, 2, 0, 3, 4, 5, 6, 7, 8, 9] (by kernel_rfl) (by kernel_rfl) (by first | exact (fun _ h => absurd h List.not_mem_nil) | simp [SubS] | (intro p hp; simp [hp])) ?_
  refine Jw (k := 1) rfl rfl rfl rfl rfl (fun _ hS => (JL rfl rfl rfl)) ?_; refine KW (k := 2) rfl rfl rfl rfl rfl (Jm rfl (kn 0 rfl) rfl rfl) ?_; refine Yb (k := 0) rfl rfl rfl rfl rfl Jbd jo fun mr => ?_; refine KW (k := 3) rfl rfl rfl rfl rfl (XW (X6 (t := 3) (by kernel_rfl)) rfl rfl (kn 0 rfl) rfl rfl ⟨_, rfl⟩ YL (Jlz k)) ?_; refine Jw (k := 4) rfl rfl rfl rfl rfl (fun _ hS => (Jo rfl)) ?_; refine Jw (k := 5) rfl rfl rfl rfl rfl (fun _ hS => (Qh rfl rfl)) ?_; refine Jw (k := 6) rfl rfl rfl rfl rfl (fun _ hS => (Qh rfl rfl)) ?_; refine Ya (k := 7) (cs := #[_, _, _, _]) rfl rfl rfl rfl rfl rfl fun r2 => ?_
  refine q7 (k := 8) (q := 0) (n := 4) (ys := YK k) rfl rfl rfl rfl rfl rfl rfl rfl rfl (Jel k) (by first | (simp only [List.set_cons_zero, List.set_cons_succ]; exact rfl) | exact rfl) (by first | exact (fun _ h => nomatch h) | simp [SubS]) ?_; refine Jw (k := 9) rfl rfl rfl rfl rfl (fun _ hS => (JN rfl)) ?_; refine KC ?_; refine nK hK2 ?_; clear hK2 K2; refine sB fun K3 hK3 => sR fun K4 hK4 => ?_; refine LS 3 [] rfl rfl (nK hK4 ?_); clear hK4 K4; refine Jc rfl (fun h5 => ?_) (fun h5 => ?_)
  try simp only [ZZ] at h5
  refine sR fun K6 hK6 => Ji rfl (nK hK6 ?_); clear hK6 K6; refine Jb (Jn (Jd ?_)); clear hK3 K3; refine pT rfl rfl rfl fun w1 hs1 => ?_; refine ⟨?_, hs1.keep⟩; rw [V6, if_pos (Zr (by assumption))]; rfl
  · try simp only [ZZ] at h5
    refine sR fun K7 hK7 => ?_
    refine LS 2 [0] rfl rfl ?_; refine Jy (Jge (by assumption)) ?_; refine LR rfl (Jx (vs := [_, _, _]) rfl (kn 2 rfl) rfl rfl rfl rfl) ?_; refine Jh rfl rfl rfl (hF (by assumption)).1 (hF (by assumption)).2 (fun q hq => Or.inr hq) ?_; refine LS 2 [] rfl rfl (nK hK7 ?_); clear hK7 K7; refine Jc rfl (fun h8 => ?_) (fun h8 => ?_)
    try simp only [ZZ] at h8
    refine sR fun K9 hK9 => Ji rfl (nK hK9 ?_); clear hK9 K9; refine Jb (Jn (Jd ?_)); clear hK3 K3; refine pT rfl rfl rfl fun w1 hs1 => ?_; refine ⟨?_, hs1.keep⟩
    first
      | (rw [V6, if_pos (Zr (by assumption))]; rfl)
      | (have hkk := W1.1 (by assumption)
         rw [V6, if_neg (by omega)]
         first
         | (rw [if_pos (by assumption)]; rfl)
         | (rw [if_neg (by simp_all), if_pos (by omega)]; rfl)
         | (rw [if_neg (by simp_all), if_neg (by omega), ← hinv, if_neg (by assumption)]; rfl)
         | (rw [if_neg (by simp_all), if_neg (by omega), ← hinv, List.drop_of_length_le (by omega), XM]; rfl))
    · try simp only [ZZ] at h8
      refine sR fun K10 hK10 => LS 3 [] rfl rfl (nK hK10 ?_); clear hK10 K10; refine Jc rfl (fun h11 => ?_) (fun h11 => ?_)
      try simp only [ZZ] at h11
      refine sR fun K12 hK12 => Ji rfl (nK hK12 ?_); clear hK12 K12; refine Jb (Jn (Jd ?_)); clear hK3 K3; refine pT rfl rfl rfl fun w1 hs1 => ?_; refine ⟨?_, hs1.keep⟩
      first
        | (rw [V6, if_pos (Zr (by assumption))]; rfl)
        | (have hkk := W1.1 (by assumption)
           rw [V6, if_neg (by omega)]
           first
           | (rw [if_pos (by assumption)]; rfl)
           | (rw [if_neg (by simp_all), if_pos (by omega)]; rfl)
           | (rw [if_neg (by simp_all), if_neg (by omega), ← hinv, if_neg (by assumption)]; rfl)
           | (rw [if_neg (by simp_all), if_neg (by omega), ← hinv, List.drop_of_length_le (by omega), XM]; rfl))
      · try simp only [ZZ] at h11
        refine Jf (Jj (hK3 ?_)); clear hK3 K3; refine sQ fun K13 hK13 => sR fun K14 hK14 => ?_
        refine LS 2 [2] rfl rfl ?_; refine LR rfl (J3 rfl hs rfl) ?_; refine Ji rfl (nK hK14 ?_); clear hK14 K14; refine Ju (JG (σ := Nat) (fun i => i ≤ ins.length ∧ XM (ins.drop i) (d + 1) = XM ins (d + 1)) (fun i => [(1, .int .i64 d), (30, KM ins.length p), (31, .int .i64 (ins.length : Int)), (32, .int .i64 (i : Int))]) (fun _ => []) (fun _ _ _ => True) (fun i => ins.length - i) 0 ⟨by omega, rfl⟩ (.cons rfl (.cons rfl (.cons rfl (.cons rfl .nil)))) (List.nil_sublist _) (fun _ _ h => h) ?_); rintro i ⟨hi1, hinv⟩; refine sR fun K15 hK15 => JZ rfl (nK hK15 ?_); clear hK15 K15; refine sQ fun K16 hK16 => ?_; refine Jc rfl (fun h17 => ?_) (fun h17 => ?_)
        try simp only [ZZ] at h17
        refine Jf (hK16 ?_); clear hK16 K16; refine sB fun K18 hK18 => sQ fun K19 hK19 => ?_
        obtain ⟨y, hy, hmem⟩ := QC (show i < ins.length by omega)
        rw [Y9 hy, XM] at hinv; refine Ja (LR rfl (Jp (j := i) rfl hs rfl rfl rfl rfl (by omega)) (LR rfl (KV (fun q hq => Or.inr hq) rfl hs hy rfl rfl) ?_)); refine LN rfl fun r3 => ?_; refine Jz (k := 0) (n := 3) (ys := y.cells) rfl rfl rfl rfl rfl y.len rfl y.one rfl ?_; refine nK hK19 ?_; clear hK19 K19; refine sR fun K20 hK20 => ?_; refine LR rfl (Jq (xs := y.cells) (n := 3) rfl (kn 0 rfl) rfl rfl y.len) ?_; refine LS 2 [] rfl rfl ?_; refine Jt (by omega) (by omega) ?_; refine Jh rfl rfl rfl (enters_of Tryz.func141 (by kernel_rfl) rfl) (ih y hmem (d + 1) (by omega) (by omega)) (fun q hq => Or.inr hq) ?_; refine Ji rfl (nK hK20 ?_); clear hK20 K20; refine sR fun K21 hK21 => LS 2 [] rfl rfl (nK hK21 ?_); clear hK21 K21; refine Jc rfl (fun h22 => ?_) (fun h22 => ?_)
        try simp only [ZZ] at h22
        refine sR fun K23 hK23 => LS 2 [] rfl rfl (nK hK23 ?_); clear hK23 K23; refine Jb (Jn (Jd ?_)); clear hK18 K18; refine Jd (Jn (Jd ?_)); clear hK13 K13; refine pT rfl rfl rfl fun w1 hs1 => ?_; refine ⟨?_, hs1.keep⟩
        first
          | (rw [V6, if_pos (Zr (by assumption))]; rfl)
          | (have hkk := W1.1 (by assumption)
             rw [V6, if_neg (by omega)]
             first
             | (rw [if_pos (by assumption)]; rfl)
             | (rw [if_neg (by simp_all), if_pos (by omega)]; rfl)
             | (rw [if_neg (by simp_all), if_neg (by omega), ← hinv, if_neg (by assumption)]; rfl)
             | (rw [if_neg (by simp_all), if_neg (by omega), ← hinv, List.drop_of_length_le (by omega), XM]; rfl))
        try simp only [ZZ] at h22
        refine Jf (Jj (hK18 ?_)); clear hK18 K18; refine Ja (JZ rfl (Jt (by omega) (by omega) ?_)); refine Ji rfl (Jg (J5 ?_)); exact J1 (i + 1) ⟨by omega, by rw [if_pos (by assumption)] at hinv; exact hinv⟩ (by omega) (.cons rfl (.cons rfl (.cons rfl (.cons rfl .nil)))) (List.nil_sublist _) (fun _ _ h => h)
        · try simp only [ZZ] at h17
          refine JE (Jl ?_); clear hK16 K16; refine Jl (J0 (hK13 ?_)); clear hK13 K13; refine sR fun K24 hK24 => Ji rfl (nK hK24 ?_); clear hK24 K24; refine Jb (pT rfl rfl rfl fun w1 hs1 => ?_); refine ⟨?_, hs1.keep⟩
          (have hkk := W1.1 (by assumption)
           rw [V6, if_neg (by omega)]
           first
           | (rw [if_pos (by assumption)]; rfl)
           | (rw [if_neg (by simp_all), if_pos (by omega)]; rfl)
           | (rw [if_neg (by simp_all), if_neg (by omega), ← hinv, if_neg (by assumption)]; rfl)
           | (rw [if_neg (by simp_all), if_neg (by omega), ← hinv, List.drop_of_length_le (by omega), XM]; rfl))
theorem xh {R : Jr} {t : Ty} (ht : t.In R) : PureR Tryz.prog 93 [t.val].toArray (.int .i64 (V6 t 0)) R := by
  have h1 := Jq3 ht 0 (by omega) (by omega)
  obtain ⟨k, n, p, ins⟩ := t
  refine Je Tryz.func93 rfl rfl fun w => ?_; refine sR fun _ hK1 => ?_; refine LN rfl fun r1 => ?_; refine Ji rfl (nK hK1 ?_); refine sR fun _ hK2 => ?_; refine LR rfl (Jx (vs := [_, _, _]) rfl (kn 0 rfl) rfl rfl rfl rfl) ?_; refine Jh rfl rfl rfl (enters_of Tryz.func141 (by kernel_rfl) rfl) h1 (fun q hq => Or.inr hq) ?_; refine Ji rfl (nK hK2 ?_); refine Jb (pT rfl rfl rfl fun w1 hs1 => ?_); exact ⟨rfl, hs1.keep⟩
def Jbl {α : Type} (b : α → Bool) : List α → Int → Int
  | [], _ => -1
  | y :: ys, j => if b y = true then j else Jbl b ys (j + 1)
theorem Jbm {α : Type} {b : α → Bool} : ∀ {l : List α} {j : Int}, 0 ≤ j → decide (0 ≤ Jbl b l j) = l.any b
  | [], _, _ => rfl
  | y :: ys, j, h => by
    rw [Jbl, List.any_cons]
    split
    · rename_i hb; rw [hb]; simp [h]
    · rename_i hb; rw [Jbm (by omega)]; simp [hb]
theorem xj {R : Jr} {ins : List Ty} {p : Pl} {g : FuncId} {b : Ty → Bool} (eg : Enters Tryz.prog g) (hg : ∀ x ∈ ins, PureR Tryz.prog g [x.val].toArray (.bool (b x)) R) (hl : ins.length ≤ 9223372036854775807) (hs : Seg R ins.length (zR ins) p) :
    PureR Tryz.prog 263 [KM ins.length p, fV g].toArray (.int .i64 (Jbl b ins 0)) R := by
  refine Je Tryz.func263 rfl rfl fun w => ?_; refine sR fun K1 hK1 => Ji rfl (nK hK1 ?_); clear hK1 K1; refine sQ fun K2 hK2 => sR fun K3 hK3 => ?_; refine Ji rfl (LR rfl (J3 rfl hs rfl) (Ji rfl ?_)); refine nK hK3 ?_; clear hK3 K3; refine Ju (JG (σ := Nat) (fun i => i ≤ ins.length ∧ Jbl b (ins.drop i) (i : Int) = Jbl b ins 0) (fun i => [(0, KM ins.length p), (1, fV g), (7, .int .i64 (ins.length : Int)), (8, .int .i64 (i : Int))]) (fun _ => []) (fun _ _ _ => True) (fun i => ins.length - i) 0 ⟨by omega, rfl⟩ (.cons rfl (.cons rfl (.cons rfl (.cons rfl .nil)))) (List.nil_sublist _) (fun _ _ h => h) ?_); rintro i ⟨hi1, hinv⟩; refine sR fun K4 hK4 => JZ rfl (nK hK4 ?_); clear hK4 K4; refine sQ fun K5 hK5 => ?_; refine Jc rfl (fun h6 => ?_) (fun h6 => ?_)
  try simp only [ZZ] at h6
  refine Jf (hK5 ?_); clear hK5 K5; refine sB fun K7 hK7 => sR fun K8 hK8 => ?_; refine LS 2 [] rfl rfl (nK hK8 ?_); clear hK8 K8; refine sQ fun K9 hK9 => ?_
  obtain ⟨y, hy, hmem⟩ := QC (show i < ins.length by omega)
  rw [Y9 hy, Jbl] at hinv; refine Ja (LS 3 [] rfl rfl (LR rfl (Jp (j := i) rfl hs rfl rfl rfl rfl (by omega)) ?_)); refine LR rfl (KV (fun q hq => Or.inr hq) rfl hs hy rfl rfl) ?_; refine Jh rfl rfl rfl eg (hg y hmem) (fun q hq => Or.inr hq) ?_; refine nK hK9 ?_; clear hK9 K9; refine Jc rfl (fun h10 => ?_) (fun h10 => ?_)
  try simp only [ZZ] at h10
  refine sR fun K11 hK11 => LS 2 [] rfl rfl (nK hK11 ?_); clear hK11 K11; refine Jb (Jn (Jd ?_)); clear hK7 K7; refine Jd (Jn (Jd ?_)); clear hK2 K2; refine pT rfl rfl rfl fun w1 hs1 => ?_; refine ⟨?_, hs1.keep⟩; rw [← hinv, if_pos (by assumption)]; rfl
  try simp only [ZZ] at h10
  refine Jf (Jj (hK7 ?_)); clear hK7 K7; refine Ja (JZ rfl (Jt (by omega) (by omega) ?_)); refine Ji rfl (Jg (J5 ?_)); exact J1 (i + 1) ⟨by omega, by rw [if_neg (by simp_all)] at hinv; exact hinv⟩ (by omega) (.cons rfl (.cons rfl (.cons rfl (.cons rfl .nil)))) (List.nil_sublist _) (fun _ _ h => h)
  · try simp only [ZZ] at h6
    refine JE (Jl ?_); clear hK5 K5; refine Jl (J0 (hK2 ?_)); clear hK2 K2; refine sR fun K12 hK12 => Ji rfl (nK hK12 ?_); clear hK12 K12; refine Jb (pT rfl rfl rfl fun w1 hs1 => ?_); refine ⟨?_, hs1.keep⟩; rw [← hinv, List.drop_of_length_le (by omega), Jbl]; rfl
theorem qQ {R : Jr} {ins : List Ty} {p : Pl} {g : FuncId} {b : Ty → Bool} (eg : Enters Tryz.prog g) (hg : ∀ x ∈ ins, PureR Tryz.prog g [x.val].toArray (.bool (b x)) R) (hl : ins.length ≤ 9223372036854775807) (hs : Seg R ins.length (zR ins) p) :
    PureR Tryz.prog 244 [KM ins.length p, fV g].toArray (.bool (ins.any b)) R := by
  have h := xj (b := b) eg hg hl hs
  rw [← Jbm (b := b) (l := ins) (Int.le_refl 0)]; refine Je Tryz.func244 rfl rfl fun w => ?_; refine sR fun _ hK1 => Ji rfl (nK hK1 ?_); refine sR fun _ hK2 => LS 2 [] rfl rfl ?_; refine Jh rfl rfl rfl (enters_of Tryz.func263 (by kernel_rfl) rfl) h (fun q hq => Or.inr hq) ?_; refine LS 2 [] rfl rfl (nK hK2 ?_); refine Jb (pT rfl rfl rfl fun w1 hs1 => ?_); exact ⟨rfl, hs1.keep⟩
theorem Jgg : ∀ ins : List Ty, (ins.any fun x => !W8 x) = !ZG ins
  | [] => rfl
  | x :: xs => by rw [List.any_cons, Jgg xs, ZG, Bool.not_and]
theorem Jq4 {R : Jr} {t : Ty} (ht : t.In R) : ∀ d : Int, V6 t d = 0 → PureR Tryz.prog 182 [t.val].toArray (.bool (W8 t)) R := by
  induction ht with
  | @mk k n p ins hk hn hl hs hi ih =>
  intro d hc
  obtain ⟨hk8, ho, h6, hci⟩ := QQ hc
  have hkk := W1.2 hk8
  have hcl : ∀ x ∈ ins, PureR Tryz.prog 245 [x.val].toArray (.bool (!W8 x)) R := fun x hx => by
    have h1 := ih x hx (d + 1) (hci x hx)
    obtain ⟨xk, xn, xp, xi⟩ := x
    refine Je Tryz.func245 rfl rfl fun w => ?_; refine sR fun K1 hK1 => ?_; refine LN rfl fun r1 => ?_; refine Ji rfl (nK hK1 ?_); clear hK1 K1; refine sR fun K2 hK2 => ?_; refine LR rfl (Jx (vs := [_, _, _]) rfl (kn 0 rfl) rfl rfl rfl rfl) ?_; refine Jh rfl rfl rfl (enters_of Tryz.func182 (by kernel_rfl) rfl) h1 (fun q hq => Or.inr hq) ?_; refine LS 2 [] rfl rfl (nK hK2 ?_); clear hK2 K2; refine Jb (pT rfl rfl rfl fun w1 hs1 => ?_); exact ⟨rfl, hs1.keep⟩
  have hany := qQ (b := fun x => !W8 x) (enters_of Tryz.func245 (by kernel_rfl) rfl) hcl hl hs
  rw [Jgg] at hany
  have hvb := Jgf hkk
  rw [W8]; refine Je Tryz.func182 rfl rfl fun w => ?_; refine sR fun K1 hK1 => ?_; refine LN rfl fun r1 => ?_; refine Ji rfl (nK hK1 ?_); clear hK1 K1; refine sQ fun K2 hK2 => ?_
  refine JS [] [(0, .grow (Qt 0 (fun r : Nat => Value.map (some r)) (fun r => [(r, Jii)]))), (1, .pure), (4, .pure), (5, .pure), (6, .pure), (7, .pure), (10, .pure), (11, .pure), (12, .pure)] 13 [1, 2, 0, 3, 4, 5, 6, 7, 8, 9, 10, 11, 12] (by kernel_rfl) (by kernel_rfl) (by first | exact (fun _ h => absurd h List.not_mem_nil) | simp [SubS] | (intro p hp; simp [hp])) ?_
  refine Jw (k := 1) rfl rfl rfl rfl rfl (fun _ hS => (JL rfl rfl rfl)) ?_; refine KW (k := 2) rfl rfl rfl rfl rfl (Jm rfl (kn 0 rfl) rfl rfl) ?_; refine Yb (k := 0) rfl rfl rfl rfl rfl Jbd jo fun mr => ?_; refine KW (k := 3) rfl rfl rfl rfl rfl (XW (X6 (t := 3) (by kernel_rfl)) rfl rfl (kn 0 rfl) rfl rfl ⟨_, rfl⟩ YL (Zq hkk)) ?_; refine Jw (k := 4) rfl rfl rfl rfl rfl (fun _ hS => (J9 rfl rfl rfl)) ?_; refine Jw (k := 5) rfl rfl rfl rfl rfl (fun _ hS => (J9 rfl rfl rfl)) ?_; refine Jw (k := 6) rfl rfl rfl rfl rfl (fun _ hS => (Jo rfl)) ?_
  refine Jq1 9 rfl (fun hb3 => ?_) (fun hb3 => ?_) <;> (try simp only [ZZ] at hb3) <;> first | (refine Jw (k := 7) rfl rfl rfl rfl rfl (fun _ hS => (JL rfl rfl rfl)) ?_) | (refine vj (k := 7) rfl rfl rfl rfl ?_)
  all_goals first
    | (refine KW (k := 8) rfl rfl rfl rfl rfl (Jm rfl (kn 1 rfl) rfl rfl) ?_)
    | (refine vj (k := 8) rfl rfl rfl rfl ?_)
  all_goals first
    | (refine Qp (k := 9) rfl rfl rfl rfl rfl (enters_of Tryz.func244 (by kernel_rfl) rfl) hany (fun q hq => Or.inr hq) ?_)
    | (refine vj (k := 9) rfl rfl rfl rfl ?_)
  all_goals first
    | (refine Jw (k := 10) rfl rfl rfl rfl rfl (fun _ hS => (J9 rfl rfl rfl)) ?_)
    | (refine vj (k := 10) rfl rfl rfl rfl ?_)
  all_goals first
    | (refine Jw (k := 11) rfl rfl rfl rfl rfl (fun _ hS => (Yp rfl rfl)) ?_)
    | (refine Jw (k := 11) rfl rfl rfl rfl rfl (fun _ hS => (Yq rfl rfl)) ?_)
  all_goals refine Jw (k := 12) rfl rfl rfl rfl rfl (fun _ hS => (JN rfl)) ?_
  all_goals refine KC ?_
  all_goals refine Jg ?_
  all_goals (
   refine hK2 ?_; clear hK2 K2; refine Jb (pT rfl rfl rfl fun w1 hs1 => ?_); refine ⟨?_, hs1.keep⟩
   simp_all [JP]
   all_goals first | done | (intros; omega)
   skip)
theorem xl {R : Jr} {t : Ty} (ht : t.In R) : PureR Tryz.prog 142 [t.val].toArray (.bool (JJ t)) R := by
  have h1 := xh ht
  have h2 := Jq4 ht 0
  obtain ⟨k, n, p, ins⟩ := t
  refine Je Tryz.func142 rfl rfl fun w => ?_; refine sR fun K1 hK1 => ?_; refine LN rfl fun r1 => ?_; refine Ji rfl (nK hK1 ?_); clear hK1 K1; refine sR fun K2 hK2 => ?_; refine LR rfl (Jx (vs := [_, _, _]) rfl (kn 0 rfl) rfl rfl rfl rfl) ?_; refine Jh rfl rfl rfl Jut h1 (fun q hq => Or.inr hq) ?_; refine LS 2 [] rfl rfl ?_
  refine JA 6 rfl (fun hb3 => ?_) (fun hb3 => ?_) <;> (try simp only [ZZ] at hb3) <;> first | (refine LR rfl (Jx (vs := [_, _, _]) rfl (kn 0 rfl) rfl rfl rfl rfl) ?_) | (refine LK rfl ?_)
  all_goals first
    | (refine Jh rfl rfl rfl (enters_of Tryz.func182 (by kernel_rfl) rfl) (h2 (by assumption)) (fun q hq => Or.inr hq) ?_)
    | (refine LK rfl ?_)
  all_goals refine LW 2 [] rfl rfl ?_
  all_goals refine Jg ?_
  all_goals (
   refine hK2 ?_; clear hK2 K2; refine Jb (pT rfl rfl rfl fun w1 hs1 => ?_); refine ⟨?_, hs1.keep⟩
   simp_all [JJ, JP]
   skip)
theorem Jq5 {R : Jr} {k n : Int} {p : Pl} {ins : List Ty} (ht : Ty.In R (.mk k n p ins)) (hsub : ∀ x ∈ ins, PureR Tryz.prog 183 [x.val].toArray (.int .i64 (JV x)) R) (hpos : ∀ x ∈ ins, 1 ≤ JV x) (hb : Wj ins ≤ 2251799813685248) :
    PureR Tryz.prog 214 [Ty.val (.mk k n p ins)].toArray (.int .i64 (Wj ins)) R := by
  cases ht with
  | mk hk hn hl hs hi =>
  have hdp : ∀ i, 0 ≤ Wj (ins.drop i) := fun i => by
    have : ∀ l : List Ty, (∀ x ∈ l, 1 ≤ JV x) → 0 ≤ Wj l := by
      intro l
      induction l with
      | nil => intro _; rw [Wj]; omega
      | cons x xs ih => intro h; rw [Wj]; have h1 := h x (by simp); have h2 := ih fun y hy => h y (by simp [hy]); omega
    exact this _ fun x hx => hpos x (List.mem_of_mem_drop hx)
  refine Je Tryz.func214 rfl rfl fun w => ?_; refine sR fun _ hK1 => ?_; refine LN rfl fun r1 => ?_; refine Ji rfl (nK hK1 ?_); refine sR fun _ hK2 => Ji rfl (nK hK2 ?_); refine sQ fun _ hK3 => sR fun _ hK4 => ?_
  refine LS 2 [0] rfl rfl ?_; refine LR rfl (J3 rfl hs rfl) ?_; refine Ji rfl (nK hK4 ?_); refine Ju (JG (σ := Nat × Int) (fun s => s.1 ≤ ins.length ∧ 0 ≤ s.2 ∧ s.2 + Wj (ins.drop s.1) = Wj ins) (fun s => [(3, .int .i64 s.2), (7, KM ins.length p), (8, .int .i64 (ins.length : Int)), (9, .int .i64 (s.1 : Int))]) (fun _ => []) (fun _ _ _ => True) (fun s => ins.length - s.1) (0, 0) ⟨by omega, by omega, by simp⟩ (.cons rfl (.cons rfl (.cons rfl (.cons rfl .nil)))) (List.nil_sublist _) (fun _ _ h => h) ?_); rintro ⟨i, m⟩ ⟨hi1, hm, hinv⟩; simp only at hinv hi1 hm; refine sR fun _ hK5 => JZ rfl (nK hK5 ?_); refine sQ fun _ hK6 => ?_; refine Jc rfl (fun h7 => ?_) (fun h7 => ?_)
  try simp only [ZZ] at h7
  refine Jf (hK6 ?_); refine sB fun _ hK8 => sQ fun _ hK9 => ?_
  obtain ⟨y, hy, hmem⟩ := QC (show i < ins.length by omega)
  have hdi := hdp (i + 1)
  have hyp := hpos y hmem
  rw [Y9 hy, Wj] at hinv; refine Ja (LR rfl (Jp (j := i) rfl hs rfl rfl rfl rfl (by omega)) (LR rfl (KV (fun q hq => Or.inr hq) rfl hs hy rfl rfl) ?_)); refine LN rfl fun r2 => ?_; refine Jz (k := 0) (n := 3) (ys := y.cells) rfl rfl rfl rfl rfl y.len rfl y.one rfl ?_; refine nK hK9 ?_; refine Ja (Ji rfl (LR rfl (Jq (xs := y.cells) (n := 3) rfl (kn 0 rfl) rfl rfl y.len) ?_)); refine Jh rfl rfl rfl (enters_of Tryz.func183 (by kernel_rfl) rfl) (hsub y hmem) (fun q hq => Or.inr hq) ?_; refine JZ rfl (Jt (by omega) (by omega) ?_); refine Ji rfl (Jg ?_); refine Jj (hK8 ?_); refine Ja (JZ rfl (Jt (by omega) (by omega) ?_)); refine Ji rfl (Jg (J5 ?_)); exact J1 (i + 1, m + JV y) ⟨by omega, by simp only; omega, by simp only; omega⟩ (by simp only; omega) (.cons rfl (.cons rfl (.cons rfl (.cons rfl .nil)))) (List.nil_sublist _) (fun _ _ h => h)
  · try simp only [ZZ] at h7
    refine JE (Jl ?_); refine Jl (J0 (hK3 ?_)); refine sR fun _ hK10 => LS 2 [] rfl rfl (nK hK10 ?_); refine Jb (pT rfl rfl rfl fun w1 hs1 => ?_); refine ⟨?_, hs1.keep⟩; rw [← hinv, List.drop_of_length_le (by omega), Wj, Int.add_zero]; rfl
theorem Jl5 {k n : Int} {p : Pl} {ins : List Ty} {d : Int} (hd : 0 ≤ d) (hc : V6 (.mk k n p ins) d = 0) (hf : W8 (.mk k n p ins) = true) : (∀ x ∈ ins, 1 ≤ JV x) ∧ Wj ins ≤ 2251799813685248 ∧ (k = 3 → 0 ≤ n * Wj ins ∧ n * Wj ins ≤ 2251799813685248) := by
  have hsz := zT _ d hd hc hf
  have hb5 := Jld (show (5 - d).toNat ≤ 5 by omega)
  obtain ⟨hk8, ho, h6, hci⟩ := QQ hc
  rw [W8, Bool.and_eq_true] at hf
  have hfi := jm.1 hf.2
  have hsub : ∀ x ∈ ins, 1 ≤ JV x ∧ JV x ≤ bnd (5 - (d + 1)).toNat := fun x hx => zT x (d + 1) (by omega) (hci x hx) (hfi x hx)
  have hL := zS hsub
  refine ⟨fun x hx => (hsub x hx).1, ?_, fun h3 => ?_⟩
  · by_cases he : ins = []
    · subst he; rw [Wj]; omega
    · have hd5 : d < 5 := by
        obtain ⟨x, hx⟩ := List.exists_mem_of_ne_nil _ he
        cases x with
        | mk a b c e => have := (QQ (hci _ hx)).2.2.1; omega
      have hlen : ins.length ≤ 16 := by
        have h9 : k = 1 ∨ k = 2 ∨ k = 3 ∨ k = 4 ∨ k = 5 ∨ k = 6 ∨ k = 7 ∨ k = 8 := by omega
        unfold Kk at ho
        rcases h9 with rfl | rfl | rfl | rfl | rfl | rfl | rfl | rfl <;> simp [he] at ho <;> omega
      have e : (5 - d).toNat = (5 - (d + 1)).toNat + 1 := by omega
      rw [e, bnd] at hb5
      have hb2 := vi (5 - (d + 1)).toNat
      generalize bnd (5 - (d + 1)).toNat = B at *
      have : (ins.length : Int) * B ≤ 16 * B := Int.mul_le_mul_of_nonneg_right (by omega) (by omega)
      omega
  · subst h3
    have : JV (.mk 3 n p ins) = n * Wj ins := by rw [JV, if_neg (by decide), if_neg (by decide), if_neg (by decide), if_pos rfl]
    rw [this] at hsz; omega
theorem Jww {R : Jr} {k n : Int} {p : Pl} {ins : List Ty} {d : Int} (ht : Ty.In R (.mk k n p ins)) (hd : 0 ≤ d) (hc : V6 (.mk k n p ins) d = 0) (hf : W8 (.mk k n p ins) = true)
    (hsub : ∀ x ∈ ins, PureR Tryz.prog 183 [x.val].toArray (.int .i64 (JV x)) R) : Enters Tryz.prog (Jly k) ∧ PureR Tryz.prog (Jly k) [Ty.val (.mk k n p ins)].toArray (.int .i64 (JV (.mk k n p ins))) R := by
  obtain ⟨hpos, hb, h3⟩ := Jl5 hd hc hf
  have hp := Jq5 ht hsub hpos hb
  obtain ⟨hk8, ho, h6, hci⟩ := QQ hc
  rw [W8, Bool.and_eq_true] at hf
  have hne : (k ≠ 4 ∧ k ≠ 6) ∧ k ≠ 8 := by simpa using hf.1
  have h9 : k = 1 ∨ k = 2 ∨ k = 3 ∨ k = 5 ∨ k = 7 := by omega
  rcases h9 with rfl | rfl | rfl | rfl | rfl
  refine ⟨enters_of Tryz.func202 (by kernel_rfl) rfl, ?_⟩
  show PureR Tryz.prog 202 _ _ R
  rw [JV, if_pos rfl]; refine Je Tryz.func202 rfl rfl fun w => ?_; refine sR fun _ hK1 => ?_; refine LN rfl fun r1 => ?_; refine Ji rfl (nK hK1 ?_); refine sR fun _ hK2 => ?_
  refine LS 3 [0] rfl rfl (nK hK2 ?_); refine Jb (pT rfl rfl rfl fun w1 hs1 => ?_); exact ⟨rfl, hs1.keep⟩
  refine ⟨enters_of Tryz.func207 (by kernel_rfl) rfl, ?_⟩
  show PureR Tryz.prog 207 _ _ R
  rw [JV, if_neg (by decide), if_pos rfl]; refine Je Tryz.func207 rfl rfl fun w => ?_; refine sR fun _ hK1 => ?_; refine LN rfl fun r1 => ?_; refine Ji rfl (nK hK1 ?_); refine sR fun _ hK2 => Ji rfl (nK hK2 ?_); refine Jb (pT rfl rfl rfl fun w1 hs1 => ?_); exact ⟨rfl, hs1.keep⟩
  refine ⟨enters_of Tryz.func213 (by kernel_rfl) rfl, ?_⟩
  show PureR Tryz.prog 213 _ _ R
  have h3' := h3 rfl
  rw [JV, if_neg (by decide), if_neg (by decide), if_neg (by decide), if_pos rfl]; refine Je Tryz.func213 rfl rfl fun w => ?_; refine sR fun _ hK1 => ?_; refine LN rfl fun r1 => ?_; refine Ji rfl (nK hK1 ?_); refine sQ fun _ hK2 => ?_; refine Ka 6 (by kernel_rfl) (by kernel_rfl) ?_
  refine Jk rfl rfl rfl (JL rfl rfl rfl) ?_; refine Jk rfl rfl rfl (Jm rfl (kn 0 rfl) rfl rfl) ?_; refine Jk rfl rfl rfl (Jx (vs := [_, _, _]) rfl (kn 0 rfl) rfl rfl rfl rfl) ?_; refine Xn rfl rfl rfl (enters_of Tryz.func214 (by kernel_rfl) rfl) hp (fun q hq => Or.inr hq) ?_; refine Jk rfl rfl rfl (J9 rfl rfl rfl) ?_; refine VT (by omega) (by omega) ?_; refine Jk rfl rfl rfl (JN rfl) ?_; refine Kt ?_; refine nK hK2 (Jb ?_); refine pT rfl rfl rfl fun w1 hs1 => ?_; exact ⟨rfl, hs1.keep⟩
  refine ⟨enters_of Tryz.func220 (by kernel_rfl) rfl, ?_⟩
  show PureR Tryz.prog 220 _ _ R
  have hbit : 1 ≤ n ∧ n ≤ 512 := by simp [Kk] at ho; omega
  rw [JV, if_neg (by decide), if_neg (by decide), if_pos rfl]; refine Je Tryz.func220 rfl rfl fun w => ?_; refine sR fun _ hK1 => ?_; refine LN rfl fun r1 => ?_; refine Ji rfl (nK hK1 ?_); refine sR fun _ hK2 => ?_
  refine LS 3 [0] rfl rfl ?_; refine Jt (by omega) (by omega) ?_; refine JZ rfl (Jt (by omega) (by omega) ?_); refine JZ rfl (Jkk (by omega) (by omega) (by omega) (Ji rfl ?_)); refine nK hK2 (Jb ?_); refine pT rfl rfl rfl fun w1 hs1 => ?_; exact ⟨congrArg (fun z => Ending.returned (Value.int .i64 z)) (by omega), hs1.keep⟩
  · refine ⟨enters_of Tryz.func225 (by kernel_rfl) rfl, ?_⟩
    show PureR Tryz.prog 225 _ _ R
    rw [JV, if_neg (by decide), if_neg (by decide), if_neg (by decide), if_neg (by decide)]; refine Je Tryz.func225 rfl rfl fun w => ?_; refine sR fun _ hK1 => ?_; refine LN rfl fun r1 => ?_; refine Ji rfl (nK hK1 ?_); refine sR fun _ hK2 => ?_; refine LR rfl (Jx (vs := [_, _, _]) rfl (kn 0 rfl) rfl rfl rfl rfl) ?_; refine Jh rfl rfl rfl (enters_of Tryz.func214 (by kernel_rfl) rfl) hp (fun q hq => Or.inr hq) ?_; refine Ji rfl (nK hK2 ?_); refine Jb (pT rfl rfl rfl fun w1 hs1 => ?_); exact ⟨rfl, hs1.keep⟩
theorem Jux {R : Jr} {t : Ty} (ht : t.In R) : ∀ d : Int, 0 ≤ d → V6 t d = 0 → W8 t = true → PureR Tryz.prog 183 [t.val].toArray (.int .i64 (JV t)) R := by
  induction ht with
  | @mk k n p ins hk hn hl hs hi ih =>
  intro d hd hc hf
  obtain ⟨hk8, ho, h6, hci⟩ := QQ hc
  have hkk := W1.2 hk8
  have hf0 := hf
  rw [W8, Bool.and_eq_true] at hf0
  have hfi := jm.1 hf0.2
  have hz := Jww (.mk hk hn hl hs hi : Ty.In R (.mk k n p ins)) hd hc hf fun x hx => ih x hx (d + 1) (by omega) (hci x hx) (hfi x hx)
  have hvb : (zX k && !Jef k) = true := by rw [hkk, Jgf hkk]; exact hf0.1
  refine Je Tryz.func183 rfl rfl fun w => ?_; refine sR fun _ hK1 => ?_; refine LN rfl fun r1 => ?_; refine Ji rfl (nK hK1 ?_); refine sQ fun _ hK2 => ?_
  refine JS [] [(0, .grow (Qt 0 (fun r : Nat => Value.map (some r)) (fun r => [(r, Jii)]))), (1, .pure), (4, .pure), (7, .pure)] 8 [1, 2, 5, 0, 3, 4, 6, 7] (by kernel_rfl) (by kernel_rfl) (by first | exact (fun _ h => absurd h List.not_mem_nil) | simp [SubS] | (intro p hp; simp [hp])) ?_
  refine Jw (k := 1) rfl rfl rfl rfl rfl (fun _ hS => (JL rfl rfl rfl)) ?_; refine KW (k := 2) rfl rfl rfl rfl rfl (Jm rfl (kn 0 rfl) rfl rfl) ?_; refine KW (k := 5) rfl rfl rfl rfl rfl (Jx (vs := [_, _, _]) rfl (kn 0 rfl) rfl rfl rfl rfl) ?_; refine Yb (k := 0) rfl rfl rfl rfl rfl Jbd jo fun mr => ?_; refine KW (k := 3) rfl rfl rfl rfl rfl (XW (X6 (t := 3) (by kernel_rfl)) rfl rfl (kn 0 rfl) rfl rfl ⟨_, rfl⟩ YL (Zq hkk)) ?_; refine Jw (k := 4) rfl rfl rfl rfl rfl (fun _ hS => (J9 rfl rfl rfl)) ?_; refine W9 (Jge hvb) ?_; refine Qp (k := 6) rfl rfl rfl rfl rfl hz.1 hz.2 (fun q hq => Or.inr hq) ?_; refine Jw (k := 7) rfl rfl rfl rfl rfl (fun _ hS => (JN rfl)) ?_; refine KC ?_; refine nK hK2 (Jb ?_); refine pT rfl rfl rfl fun w1 hs1 => ?_; exact ⟨rfl, hs1.keep⟩
theorem Jem {R : Jr} {t : Ty} (ht : t.In R) : PureR Tryz.prog 143 [t.val].toArray (.int .i64 (vT t)) R := by
  have h1 := xl ht
  have h2 := Jux ht 0 (by omega)
  obtain ⟨k, n, p, ins⟩ := t
  refine Je Tryz.func143 rfl rfl fun w => ?_; refine sR fun K1 hK1 => ?_; refine LN rfl fun r1 => ?_; refine Ji rfl (nK hK1 ?_); clear hK1 K1; refine sQ fun K2 hK2 => sR fun K3 hK3 => ?_; refine LR rfl (Jx (vs := [_, _, _]) rfl (kn 0 rfl) rfl rfl rfl rfl) ?_; refine Jh rfl rfl rfl Jlk h1 (fun q hq => Or.inr hq) ?_; refine JZ rfl (nK hK3 ?_); clear hK3 K3; refine Jc rfl (fun h4 => ?_) (fun h4 => ?_)
  try simp only [ZZ] at h4
  refine sR fun K5 hK5 => Ji rfl (nK hK5 ?_); clear hK5 K5; refine Jb (Jd ?_); clear hK2 K2; refine pT rfl rfl rfl fun w1 hs1 => ?_; refine ⟨?_, hs1.keep⟩
  simp_all [vT, JP]
  · try simp only [ZZ] at h4
    refine Jf (hK2 ?_); clear hK2 K2; refine sR fun K6 hK6 => ?_; refine LR rfl (Jx (vs := [_, _, _]) rfl (kn 0 rfl) rfl rfl rfl rfl) ?_; refine Jh rfl rfl rfl (enters_of Tryz.func183 (by kernel_rfl) rfl) (h2 (Xa.1 (by assumption)).1 (Xa.1 (by assumption)).2) (fun q hq => Or.inr hq) ?_; refine Ji rfl (nK hK6 ?_); clear hK6 K6; refine Jb (pT rfl rfl rfl fun w1 hs1 => ?_); refine ⟨?_, hs1.keep⟩
    simp_all [vT, JP]
def WO (r : Nat) (v : Vl) : Nat × Obj := (r, .cells v.cells.toArray 81 (0, 0))
def zVl : Vl := .mk 0 0 0 0 [] none [] none 0
def clV (f : FuncId) (r : Nat) : Value := .func (.func f) #[] #[.pointer (some ⟨r, 0, none⟩)]
def Jbn (f : FuncId) (v out : Vl) : Prop := ∀ r1 rr : Nat, r1 ≠ rr → PureMR Tryz.prog f [.pointer (some ⟨rr, 0, none⟩), .pointer (some ⟨r1, 0, none⟩)].toArray (.tuple #[]) rr (WO rr zVl).2 (WO rr out).2 [WO r1 v]
theorem Jl6 (a b c d : Nat) (bits : List Bool) (pb : Pl) (items : List Vl) (pi : Pl) (pick : Int) : Jbn 251 (.mk a b c d bits pb items pi pick) (.mk a b c d [] none [] none 0) := fun r1 rr hne => by
  refine WV (fun p hp => by rw [List.mem_singleton.1 hp]; exact hne) Tryz.func251 rfl rfl fun w => ?_; refine Ja (Ji rfl ?_)
  refine LS 1 [] rfl rfl ?_; refine LR rfl (Jx (vs := [_, _, _, _]) rfl (J8 (k := 0) rfl) rfl rfl rfl rfl) ?_; refine LS 2 [] rfl rfl ?_
  refine LT 0 rfl rfl (Jg ?_); refine Qx rfl rfl .nil (fun w1 hs1 => ?_); exact ⟨rfl, _, List.mem_cons_self, hs1⟩
theorem Jq6 (a b c d : Nat) (bits : List Bool) (pb : Pl) (items : List Vl) (pi : Pl) (pick : Int) : Jbn 254 (.mk a b c d bits pb items pi pick) (.mk 0 0 0 0 [] none items pi 0) := fun r1 rr hne => by
  refine WV (fun p hp => by rw [List.mem_singleton.1 hp]; exact hne) Tryz.func254 rfl rfl fun w => ?_; refine Ja (Ji rfl ?_)
  refine LS 1 [] rfl rfl ?_; refine LR rfl (Jm rfl (J8 (k := 0) rfl) rfl rfl) ?_; refine LS 2 [] rfl rfl ?_
  refine LT 0 rfl rfl (Jg ?_); refine Qx rfl rfl .nil (fun w1 hs1 => ?_); exact ⟨rfl, _, List.mem_cons_self, hs1⟩
theorem Juy (a b c d : Nat) (bits : List Bool) (pb : Pl) (items : List Vl) (pi : Pl) (pick : Int) : Jbn 255 (.mk a b c d bits pb items pi pick) (.mk 0 0 0 0 bits pb [] none 0) := fun r1 rr hne => by
  refine WV (fun p hp => by rw [List.mem_singleton.1 hp]; exact hne) Tryz.func255 rfl rfl fun w => ?_; refine Ja (Ji rfl ?_)
  refine LS 1 [] rfl rfl ?_; refine LR rfl (Jm rfl (J8 (k := 0) rfl) rfl rfl) ?_; refine LS 2 [] rfl rfl ?_
  refine LT 0 rfl rfl (Jg ?_); refine Qx rfl rfl .nil (fun w1 hs1 => ?_); exact ⟨rfl, _, List.mem_cons_self, hs1⟩
theorem Juz (a b c d : Nat) (bits : List Bool) (pb : Pl) (items : List Vl) (pi : Pl) (pick : Int) : Jbn 256 (.mk a b c d bits pb items pi pick) (.mk 0 0 0 0 [] none items pi pick) := fun r1 rr hne => by
  refine WV (fun p hp => by rw [List.mem_singleton.1 hp]; exact hne) Tryz.func256 rfl rfl fun w => ?_
  refine JS [] [(0, .pure), (1, .pure), (2, .pure), (3, .pure), (4, .pure), (5, .pure), (6, .pure), (7, .pure), (8, .turn), (9, .pure), (10, .pure), (11, .turn)] 12 [0, 1, 2, 3, 4, 5, 6, 7, 8, 9, 10, 11] (by kernel_rfl) (by kernel_rfl) (by first | exact (fun _ h => absurd h List.not_mem_nil) | simp [SubS] | (intro p hp; simp [hp])) ?_; refine Jw (k := 0) rfl rfl rfl rfl rfl (fun _ hS => (Jo rfl)) ?_; refine Jw (k := 1) rfl rfl rfl rfl rfl (fun _ hS => (Jo rfl)) ?_
  refine Jw (k := 2) rfl rfl rfl rfl rfl (fun _ hS => (JL rfl rfl rfl)) ?_; refine Jw (k := 3) rfl rfl rfl rfl rfl (fun _ hS => (Jm rfl (J8 (k := 0) rfl) rfl rfl)) ?_
  refine Jw (k := 4) rfl rfl rfl rfl rfl (fun _ hS => (JL rfl rfl rfl)) ?_; refine Jw (k := 5) rfl rfl rfl rfl rfl (fun _ hS => (Jm rfl (J8 (k := 0) rfl) rfl rfl)) ?_; refine Jw (k := 6) rfl rfl rfl rfl rfl (fun _ hS => (J9 rfl rfl rfl)) ?_
  refine Jw (k := 7) rfl rfl rfl rfl rfl (fun _ hS => (JL rfl rfl rfl)) ?_
  refine WB (k := 8) (q := 0) rfl rfl rfl rfl rfl rfl rfl rfl rfl (by first | (simp only [List.setIfInBounds_toArray, List.set_cons_zero, List.set_cons_succ]; exact rfl) | exact rfl) (by first | (simp only [List.set_cons_zero, List.set_cons_succ]; exact rfl) | exact rfl) (by first | exact (fun _ h => absurd h List.not_mem_nil) | simp [SubS] | (intro p hp; simp [hp])) ?_; refine Jw (k := 9) rfl rfl rfl rfl rfl (fun _ hS => (J9 rfl rfl rfl)) ?_
  refine Jw (k := 10) rfl rfl rfl rfl rfl (fun _ hS => (JL rfl rfl rfl)) ?_
  refine WB (k := 11) (q := 0) rfl rfl rfl rfl rfl rfl rfl rfl rfl (by first | (simp only [List.setIfInBounds_toArray, List.set_cons_zero, List.set_cons_succ]; exact rfl) | exact rfl) (by first | (simp only [List.set_cons_zero, List.set_cons_succ]; exact rfl) | exact rfl) (by first | exact (fun _ h => absurd h List.not_mem_nil) | simp [SubS] | (intro p hp; simp [hp])) ?_; refine KC ?_; refine Jg ?_; refine Qx rfl rfl .nil (fun w1 hs1 => ?_); exact ⟨rfl, _, List.mem_cons_self, hs1⟩
theorem xm {R : Jr} {v out : Vl} {f : FuncId} {rv : Nat} (ef : Enters Tryz.prog f) (hv : v.In R) (ho : out.In R) (hk : Jbn f v out) (hr : WO rv v ∈ R) : PureR Tryz.prog 250 [v.val, clV f rv].toArray (.bool (Xo v out)) R := by
  have hsm := Juu hv out ho
  obtain ⟨a, b, c, d, bits, pb, items, pi, pick⟩ := v
  obtain ⟨a', b', c', d', bits', pb', items', pi', pick'⟩ := out
  refine Je Tryz.func250 rfl rfl fun w => ?_; refine sR fun _ hK1 => ?_; refine LN rfl fun r1 => ?_; refine Ji rfl (nK hK1 ?_); refine sR fun _ hK2 => ?_; refine LN rfl fun r2 => ?_; refine nK hK2 (sR fun _ hK3 => ?_); refine Ji rfl ?_; refine Jih (k := 0) rfl rfl rfl ef rfl (fun hne => hk rv r2 (hne _ List.mem_cons_self)) (fun q hq => by rw [List.mem_singleton.1 hq]; exact hr) rfl ?_; refine nK hK3 (sR fun _ hK4 => ?_); refine LS 2 [1, 0] rfl rfl ?_; refine Jh rfl rfl rfl (enters_of Tryz.func265 (by kernel_rfl) rfl) hsm (fun q hq => Or.inr hq) ?_; refine Ji rfl (nK hK4 ?_); refine Jb (pT rfl rfl rfl fun w1 hs1 => ?_); exact ⟨rfl, hs1.keep⟩
theorem vk {R : Jr} {a b c d : Nat} {bits : List Bool} {pb : Pl} {items : List Vl} {pi : Pl} {pick : Int} (h : Vl.In R (.mk a b c d bits pb items pi pick)) : Vl.In R (.mk a b c d [] none [] none 0) ∧ Vl.In R (.mk 0 0 0 0 [] none items pi 0) ∧ Vl.In R (.mk 0 0 0 0 bits pb [] none 0) ∧ Vl.In R (.mk 0 0 0 0 [] none items pi pick) := by
  cases h with
  | mk ha hb hc hd hlb hsb hl hs hp hi =>
  have z : X5 0 := by unfold X5; omega
  have i0 : jP 0 := by unfold jP; omega
  refine ⟨.mk ha hb hc hd (by simp) rfl (by simp) rfl i0 (by simp), .mk z z z z (by simp) rfl hl hs i0 hi, .mk z z z z hlb hsb (by simp) rfl i0 (by simp), .mk z z z z (by simp) rfl hl hs hp hi⟩
theorem vZ (l : List Vl) : VU l l = true := Wr.2 ⟨rfl, fun i x y hx hy => by rw [hx] at hy; cases hy; exact Jec x⟩
theorem yF (l : List Vl) : VU l [] = decide (l.length = 0) := by cases l <;> simp [VU]
theorem Jbo {a b c d : Nat} {bits : List Bool} {pb : Pl} {items : List Vl} {pi : Pl} {pick : Int} : Xo (.mk a b c d bits pb items pi pick) (.mk a b c d [] none [] none 0) = QZ (.mk a b c d bits pb items pi pick) true false false false := by
  rw [YJ, Qe, yF]
  by_cases h1 : bits = [] <;> by_cases h2 : items = [] <;> by_cases h3 : pick = 0 <;> simp [h1, h2, h3]
theorem Jen {a b c d : Nat} {bits : List Bool} {pb : Pl} {items : List Vl} {pi : Pl} {pick : Int} : Xo (.mk a b c d bits pb items pi pick) (.mk 0 0 0 0 [] none items pi 0) = QZ (.mk a b c d bits pb items pi pick) false false true false := by
  rw [YJ, Qe, vZ]
  by_cases h1 : bits = [] <;> by_cases h3 : pick = 0 <;> simp [h1, h3]
theorem Jim {a b c d : Nat} {bits : List Bool} {pb : Pl} {items : List Vl} {pi : Pl} {pick : Int} : Xo (.mk a b c d bits pb items pi pick) (.mk 0 0 0 0 bits pb [] none 0) = QZ (.mk a b c d bits pb items pi pick) false true false false := by
  rw [YJ, Qe, yF]
  by_cases h2 : items = [] <;> by_cases h3 : pick = 0 <;> simp [h2, h3]
theorem Jin {a b c d : Nat} {bits : List Bool} {pb : Pl} {items : List Vl} {pi : Pl} {pick : Int} : Xo (.mk a b c d bits pb items pi pick) (.mk 0 0 0 0 [] none items pi pick) = QZ (.mk a b c d bits pb items pi pick) false false true true := by
  rw [YJ, Qe, vZ]
  by_cases h1 : bits = [] <;> simp [h1]
theorem WC {R : Jr} {v : Vl} (hv : v.In R) : PureR Tryz.prog 200 [v.val].toArray (.bool (QZ v true false false false)) R := by
  obtain ⟨a, b, c, d, bits, pb, items, pi, pick⟩ := v
  have hb4 := vk hv
  refine Je Tryz.func200 rfl rfl fun w => ?_; rw [← Jbo (pb := pb) (pi := pi)]; refine sR fun _ hK1 => ?_; refine LN rfl fun r1 => ?_; refine Ji rfl (nK hK1 ?_); refine sR fun _ hK2 => ?_; refine LR rfl (Jx (vs := [_, _, _, _, _, _, _]) rfl (kn 0 rfl) rfl rfl rfl rfl) ?_; refine LR rfl (Kv rfl rfl) ?_
  refine Jh (Rl := WO r1 (.mk a b c d bits pb items pi pick) :: R) rfl rfl rfl Jf9 (xm (enters_of Tryz.func251 (by kernel_rfl) rfl) (hv.mono fun q hq => List.mem_cons_of_mem _ hq) (hb4.1.mono fun q hq => List.mem_cons_of_mem _ hq) (Jl6 a b c d bits pb items pi pick) List.mem_cons_self) (fun q hq => by rcases List.mem_cons.1 hq with rfl | hq; exact .inl List.mem_cons_self; exact .inr hq) ?_; refine Ji rfl (nK hK2 ?_); refine Jb (pT rfl rfl rfl fun w1 hs1 => ?_); exact ⟨rfl, hs1.keep⟩
theorem XB {R : Jr} {v : Vl} (hv : v.In R) : PureR Tryz.prog 212 [v.val].toArray (.bool (QZ v false false true false)) R := by
  obtain ⟨a, b, c, d, bits, pb, items, pi, pick⟩ := v
  have hb4 := vk hv
  refine Je Tryz.func212 rfl rfl fun w => ?_; rw [← Jen (pb := pb) (pi := pi)]; refine sR fun _ hK1 => ?_; refine LN rfl fun r1 => ?_; refine Ji rfl (nK hK1 ?_); refine sR fun _ hK2 => ?_; refine LR rfl (Jx (vs := [_, _, _, _, _, _, _]) rfl (kn 0 rfl) rfl rfl rfl rfl) ?_; refine LR rfl (Kv rfl rfl) ?_
  refine Jh (Rl := WO r1 (.mk a b c d bits pb items pi pick) :: R) rfl rfl rfl Jf9 (xm (enters_of Tryz.func254 (by kernel_rfl) rfl) (hv.mono fun q hq => List.mem_cons_of_mem _ hq) (hb4.2.1.mono fun q hq => List.mem_cons_of_mem _ hq) (Jq6 a b c d bits pb items pi pick) List.mem_cons_self) (fun q hq => by rcases List.mem_cons.1 hq with rfl | hq; exact .inl List.mem_cons_self; exact .inr hq) ?_; refine Ji rfl (nK hK2 ?_); refine Jb (pT rfl rfl rfl fun w1 hs1 => ?_); exact ⟨rfl, hs1.keep⟩
theorem YO {R : Jr} {v : Vl} (hv : v.In R) : PureR Tryz.prog 219 [v.val].toArray (.bool (QZ v false true false false)) R := by
  obtain ⟨a, b, c, d, bits, pb, items, pi, pick⟩ := v
  have hb4 := vk hv
  refine Je Tryz.func219 rfl rfl fun w => ?_; rw [← Jim (pb := pb) (pi := pi)]; refine sR fun _ hK1 => ?_; refine LN rfl fun r1 => ?_; refine Ji rfl (nK hK1 ?_); refine sR fun _ hK2 => ?_; refine LR rfl (Jx (vs := [_, _, _, _, _, _, _]) rfl (kn 0 rfl) rfl rfl rfl rfl) ?_; refine LR rfl (Kv rfl rfl) ?_
  refine Jh (Rl := WO r1 (.mk a b c d bits pb items pi pick) :: R) rfl rfl rfl Jf9 (xm (enters_of Tryz.func255 (by kernel_rfl) rfl) (hv.mono fun q hq => List.mem_cons_of_mem _ hq) (hb4.2.2.1.mono fun q hq => List.mem_cons_of_mem _ hq) (Juy a b c d bits pb items pi pick) List.mem_cons_self) (fun q hq => by rcases List.mem_cons.1 hq with rfl | hq; exact .inl List.mem_cons_self; exact .inr hq) ?_; refine Ji rfl (nK hK2 ?_); refine Jb (pT rfl rfl rfl fun w1 hs1 => ?_); exact ⟨rfl, hs1.keep⟩
theorem YR {R : Jr} {v : Vl} (hv : v.In R) : PureR Tryz.prog 228 [v.val].toArray (.bool (QZ v false false true true)) R := by
  obtain ⟨a, b, c, d, bits, pb, items, pi, pick⟩ := v
  have hb4 := vk hv
  refine Je Tryz.func228 rfl rfl fun w => ?_; rw [← Jin (pb := pb) (pi := pi)]; refine sR fun _ hK1 => ?_; refine LN rfl fun r1 => ?_; refine Ji rfl (nK hK1 ?_); refine sR fun _ hK2 => ?_; refine LR rfl (Jx (vs := [_, _, _, _, _, _, _]) rfl (kn 0 rfl) rfl rfl rfl rfl) ?_; refine LR rfl (Kv rfl rfl) ?_
  refine Jh (Rl := WO r1 (.mk a b c d bits pb items pi pick) :: R) rfl rfl rfl Jf9 (xm (enters_of Tryz.func256 (by kernel_rfl) rfl) (hv.mono fun q hq => List.mem_cons_of_mem _ hq) (hb4.2.2.2.mono fun q hq => List.mem_cons_of_mem _ hq) (Juz a b c d bits pb items pi pick) List.mem_cons_self) (fun q hq => by rcases List.mem_cons.1 hq with rfl | hq; exact .inl List.mem_cons_self; exact .inr hq) ?_; refine Ji rfl (nK hK2 ?_); refine Jb (pT rfl rfl rfl fun w1 hs1 => ?_); exact ⟨rfl, hs1.keep⟩
theorem q8 {l : List Nat} (hl : WOk l) : (!yA [1, 0, 0, 0] l) = (decide (l = [0, 0, 0, 0]) || decide (l = [1, 0, 0, 0])) := by
  have h0 : WOk [0, 0, 0, 0] := ⟨rfl, fun x hx => by simp at hx; omega⟩
  have h1 : WOk [1, 0, 0, 0] := ⟨rfl, fun x hx => by simp at hx; omega⟩
  rw [Jk8 h1 hl, show wN [1, 0, 0, 0] = 1 from rfl]
  by_cases e0 : l = [0, 0, 0, 0]
  · subst e0; rfl
  by_cases e1 : l = [1, 0, 0, 0]
  · subst e1; rfl
  have n0 : wN l ≠ 0 := fun h => e0 (Jk5 hl h0 h)
  have n1 : wN l ≠ 1 := fun h => e1 (Jk5 hl h1 h)
  simp [e0, e1]
  omega
theorem O_1 {R : Jr} {n : Int} {p : Pl} {ins : List Ty} {v : Vl} (ht : Ty.In R (.mk 1 n p ins)) (hv : v.In R) : PureR Tryz.prog 199 [Ty.val (.mk 1 n p ins), v.val].toArray (.bool (yC 1 n ins.length v)) R := by
  have hnu := WC hv
  have hit := XB hv
  have hbi := YO hv
  have hpk := YR hv
  cases ht with
  | mk hk hn hlt hst hit0 =>
  cases hv with
  | @mk a b c d bits pb items pi pick ha hb hc hd hlb hsb hl hs hp hi =>
  have hw : WOk [a, b, c, d] := ⟨rfl, fun x hx => by simp at hx; rcases hx with rfl | rfl | rfl | rfl <;> assumption⟩
  have hw1 : WOk [1, 0, 0, 0] := ⟨rfl, fun x hx => by simp at hx; omega⟩
  have hl1 := q8 hw
  rw [Qo _ n ins.length a b c d bits pb items pi pick _ rfl]; refine Je Tryz.func199 rfl rfl fun w => ?_; refine sR fun K1 hK1 => ?_; refine LN rfl fun r1 => ?_; refine LN rfl fun r2 => ?_; refine Ji rfl (nK hK1 ?_); clear hK1 K1; refine sQ fun K2 hK2 => ?_; refine Ka 12 (by kernel_rfl) (by kernel_rfl) ?_; refine Jk rfl rfl rfl (Jx (vs := [_, _, _, _, _, _, _]) rfl (kn 0 rfl) rfl rfl rfl rfl) ?_; refine Xn rfl rfl rfl (enters_of Tryz.func200 (by kernel_rfl) rfl) hnu (fun q hq => Or.inr hq) ?_; refine Jk rfl rfl rfl (Jo rfl) ?_
  refine je 7 rfl (fun hb3 => ?_) (fun hb3 => ?_) <;> (try simp only [ZZ] at hb3) <;> first | (refine Jk rfl rfl rfl (JL rfl rfl rfl) ?_) | (refine JX rfl rfl rfl ?_)
  all_goals first
    | (refine Jk rfl rfl rfl (Jx (vs := [_, _, _, _]) rfl (kn 0 rfl) rfl rfl rfl rfl) ?_)
    | (refine JX rfl rfl rfl ?_)
  all_goals first
    | (refine Qm rfl rfl rfl (enters_of Tryz.func201 (by kernel_rfl) rfl) (jn hw) ?_)
    | (refine JX rfl rfl rfl ?_)
  all_goals first
    | (refine Jk rfl rfl rfl (JT rfl rfl) ?_)
    | (refine JX rfl rfl rfl ?_)
  all_goals first
    | (refine Jk rfl rfl rfl (JL rfl rfl rfl) ?_)
    | (refine JX rfl rfl rfl ?_)
  all_goals first
    | (refine Jk rfl rfl rfl (Jm rfl (kn 1 rfl) rfl rfl) ?_)
    | (refine JX rfl rfl rfl ?_)
  all_goals first
    | (refine Jk rfl rfl rfl (J9 rfl rfl rfl) ?_)
    | (refine JX rfl rfl rfl ?_)
  all_goals first
    | (refine Jk rfl rfl rfl (Yp rfl rfl) ?_)
    | (refine Jk rfl rfl rfl (Yq rfl rfl) ?_)
  all_goals refine Jk rfl rfl rfl (JN rfl) ?_
  all_goals refine Kt ?_
  all_goals refine Jg ?_
  all_goals (
   refine hK2 ?_; clear hK2 K2; refine Jb (pT rfl rfl rfl fun w1 hs1 => ?_); refine ⟨?_, hs1.keep⟩
   simp_all [JP]
   skip)
theorem O_2 {R : Jr} {n : Int} {p : Pl} {ins : List Ty} {v : Vl} (ht : Ty.In R (.mk 2 n p ins)) (hv : v.In R) : PureR Tryz.prog 205 [Ty.val (.mk 2 n p ins), v.val].toArray (.bool (yC 2 n ins.length v)) R := by
  have hnu := WC hv
  have hit := XB hv
  have hbi := YO hv
  have hpk := YR hv
  cases ht with
  | mk hk hn hlt hst hit0 =>
  cases hv with
  | @mk a b c d bits pb items pi pick ha hb hc hd hlb hsb hl hs hp hi =>
  have hw : WOk [a, b, c, d] := ⟨rfl, fun x hx => by simp at hx; rcases hx with rfl | rfl | rfl | rfl <;> assumption⟩
  have hw1 : WOk [1, 0, 0, 0] := ⟨rfl, fun x hx => by simp at hx; omega⟩
  have hl1 := q8 hw
  rw [Qo _ n ins.length a b c d bits pb items pi pick _ rfl]; refine Je Tryz.func205 rfl rfl fun w => ?_; refine sR fun K1 hK1 => ?_; refine LN rfl fun r1 => ?_; refine LN rfl fun r2 => ?_; refine Ji rfl (nK hK1 ?_); clear hK1 K1; refine sQ fun K2 hK2 => ?_; refine Ka 10 (by kernel_rfl) (by kernel_rfl) ?_; refine Jk rfl rfl rfl (Jx (vs := [_, _, _, _, _, _, _]) rfl (kn 0 rfl) rfl rfl rfl rfl) ?_; refine Xn rfl rfl rfl (enters_of Tryz.func200 (by kernel_rfl) rfl) hnu (fun q hq => Or.inr hq) ?_; refine Jk rfl rfl rfl (Jo rfl) ?_
  refine je 7 rfl (fun hb3 => ?_) (fun hb3 => ?_) <;> (try simp only [ZZ] at hb3) <;> first | (refine Qm rfl rfl rfl Jle (XZ ..) ?_) | (refine JX rfl rfl rfl ?_)
  all_goals first
    | (refine Jk rfl rfl rfl (JL rfl rfl rfl) ?_)
    | (refine JX rfl rfl rfl ?_)
  all_goals first
    | (refine Jk rfl rfl rfl (Jx (vs := [_, _, _, _]) rfl (kn 0 rfl) rfl rfl rfl rfl) ?_)
    | (refine JX rfl rfl rfl ?_)
  all_goals first
    | (refine Qm rfl rfl rfl (enters_of Tryz.func206 (by kernel_rfl) rfl) (Jbf hw1 hw) ?_)
    | (refine JX rfl rfl rfl ?_)
  all_goals first
    | (refine Jk rfl rfl rfl (J9 rfl rfl rfl) ?_)
    | (refine JX rfl rfl rfl ?_)
  all_goals first
    | (refine Jk rfl rfl rfl (Yp rfl rfl) ?_)
    | (refine Jk rfl rfl rfl (Yq rfl rfl) ?_)
  all_goals refine Jk rfl rfl rfl (JN rfl) ?_
  all_goals refine Kt ?_
  all_goals refine Jg ?_
  all_goals (
   refine hK2 ?_; clear hK2 K2; refine Jb (pT rfl rfl rfl fun w1 hs1 => ?_); refine ⟨?_, hs1.keep⟩
   simp_all [JP]
   skip)
theorem O_3 {R : Jr} {n : Int} {p : Pl} {ins : List Ty} {v : Vl} (ht : Ty.In R (.mk 3 n p ins)) (hv : v.In R) : PureR Tryz.prog 211 [Ty.val (.mk 3 n p ins), v.val].toArray (.bool (yC 3 n ins.length v)) R := by
  have hnu := WC hv
  have hit := XB hv
  have hbi := YO hv
  have hpk := YR hv
  cases ht with
  | mk hk hn hlt hst hit0 =>
  cases hv with
  | @mk a b c d bits pb items pi pick ha hb hc hd hlb hsb hl hs hp hi =>
  have hw : WOk [a, b, c, d] := ⟨rfl, fun x hx => by simp at hx; rcases hx with rfl | rfl | rfl | rfl <;> assumption⟩
  have hw1 : WOk [1, 0, 0, 0] := ⟨rfl, fun x hx => by simp at hx; omega⟩
  have hl1 := q8 hw
  rw [Qo _ n ins.length a b c d bits pb items pi pick _ rfl]; refine Je Tryz.func211 rfl rfl fun w => ?_; refine sR fun K1 hK1 => ?_; refine LN rfl fun r1 => ?_; refine LN rfl fun r2 => ?_; refine Ji rfl (nK hK1 ?_); clear hK1 K1; refine sR fun K2 hK2 => ?_; refine LR rfl (Jx (vs := [_, _, _, _, _, _, _]) rfl (kn 0 rfl) rfl rfl rfl rfl) ?_; refine Jh rfl rfl rfl Jlq hit (fun q hq => Or.inr hq) ?_; refine Ji rfl ?_
  refine JA 7 rfl (fun hb3 => ?_) (fun hb3 => ?_) <;> (try simp only [ZZ] at hb3) <;> first | (refine LR rfl (JL rfl rfl rfl) ?_) | (refine LK rfl ?_)
  all_goals refine LW 1 [0] rfl rfl ?_
  all_goals first
    | (refine LR rfl (J3 rfl hs rfl) ?_)
    | (refine LK rfl ?_)
  all_goals first
    | (refine LR rfl (JL rfl rfl rfl) ?_)
    | (refine LK rfl ?_)
  all_goals refine LW 4 [1] rfl rfl ?_
  all_goals refine Jg ?_
  all_goals (
   refine hK2 ?_; clear hK2 K2; refine Jb (pT rfl rfl rfl fun w1 hs1 => ?_); refine ⟨?_, hs1.keep⟩
   simp_all [JP]
   all_goals first | done | rfl | omega | (rw [Bool.eq_iff_iff]; simp only [Bool.and_eq_true, Bool.or_eq_true, decide_eq_true_eq, beq_iff_eq]; omega) | (simp only [decide_eq_true_eq, decide_eq_false_iff_not]; omega)
   skip)
theorem O_4 {R : Jr} {n : Int} {p : Pl} {ins : List Ty} {v : Vl} (ht : Ty.In R (.mk 4 n p ins)) (hv : v.In R) : PureR Tryz.prog 216 [Ty.val (.mk 4 n p ins), v.val].toArray (.bool (yC 4 n ins.length v)) R := by
  have hnu := WC hv
  have hit := XB hv
  have hbi := YO hv
  have hpk := YR hv
  cases ht with
  | mk hk hn hlt hst hit0 =>
  cases hv with
  | @mk a b c d bits pb items pi pick ha hb hc hd hlb hsb hl hs hp hi =>
  have hw : WOk [a, b, c, d] := ⟨rfl, fun x hx => by simp at hx; rcases hx with rfl | rfl | rfl | rfl <;> assumption⟩
  have hw1 : WOk [1, 0, 0, 0] := ⟨rfl, fun x hx => by simp at hx; omega⟩
  have hl1 := q8 hw
  rw [Qo _ n ins.length a b c d bits pb items pi pick _ rfl]; refine Je Tryz.func216 rfl rfl fun w => ?_; refine sR fun K1 hK1 => ?_; refine LN rfl fun r1 => ?_; refine LN rfl fun r2 => ?_; refine Ji rfl (nK hK1 ?_); clear hK1 K1; refine sR fun K2 hK2 => ?_; refine LR rfl (Jx (vs := [_, _, _, _, _, _, _]) rfl (kn 0 rfl) rfl rfl rfl rfl) ?_; refine Jh rfl rfl rfl Jlq hit (fun q hq => Or.inr hq) ?_; refine Ji rfl (nK hK2 ?_); clear hK2 K2; refine Jb (pT rfl rfl rfl fun w1 hs1 => ?_); refine ⟨?_, hs1.keep⟩
  simp_all [JP]
theorem O_5 {R : Jr} {n : Int} {p : Pl} {ins : List Ty} {v : Vl} (ht : Ty.In R (.mk 5 n p ins)) (hv : v.In R) : PureR Tryz.prog 218 [Ty.val (.mk 5 n p ins), v.val].toArray (.bool (yC 5 n ins.length v)) R := by
  have hnu := WC hv
  have hit := XB hv
  have hbi := YO hv
  have hpk := YR hv
  cases ht with
  | mk hk hn hlt hst hit0 =>
  cases hv with
  | @mk a b c d bits pb items pi pick ha hb hc hd hlb hsb hl hs hp hi =>
  have hw : WOk [a, b, c, d] := ⟨rfl, fun x hx => by simp at hx; rcases hx with rfl | rfl | rfl | rfl <;> assumption⟩
  have hw1 : WOk [1, 0, 0, 0] := ⟨rfl, fun x hx => by simp at hx; omega⟩
  have hl1 := q8 hw
  rw [Qo _ n ins.length a b c d bits pb items pi pick _ rfl]; refine Je Tryz.func218 rfl rfl fun w => ?_; refine sR fun K1 hK1 => ?_; refine LN rfl fun r1 => ?_; refine LN rfl fun r2 => ?_; refine Ji rfl (nK hK1 ?_); clear hK1 K1; refine sR fun K2 hK2 => ?_; refine LR rfl (Jx (vs := [_, _, _, _, _, _, _]) rfl (kn 0 rfl) rfl rfl rfl rfl) ?_; refine Jh rfl rfl rfl (enters_of Tryz.func219 (by kernel_rfl) rfl) hbi (fun q hq => Or.inr hq) ?_; refine Ji rfl ?_
  refine JA 7 rfl (fun hb3 => ?_) (fun hb3 => ?_) <;> (try simp only [ZZ] at hb3) <;> first | (refine LR rfl (JL rfl rfl rfl) ?_) | (refine LK rfl ?_)
  all_goals refine LW 1 [0] rfl rfl ?_
  all_goals first
    | (refine LR rfl (J3 rfl hsb rfl) ?_)
    | (refine LK rfl ?_)
  all_goals first
    | (refine LR rfl (JL rfl rfl rfl) ?_)
    | (refine LK rfl ?_)
  all_goals refine LW 4 [1] rfl rfl ?_
  all_goals refine Jg ?_
  all_goals (
   refine hK2 ?_; clear hK2 K2; refine Jb (pT rfl rfl rfl fun w1 hs1 => ?_); refine ⟨?_, hs1.keep⟩
   simp_all [JP]
   all_goals first | done | rfl | omega | (rw [Bool.eq_iff_iff]; simp only [Bool.and_eq_true, Bool.or_eq_true, decide_eq_true_eq, beq_iff_eq]; omega) | (simp only [decide_eq_true_eq, decide_eq_false_iff_not]; omega)
   skip)
theorem O_6 {R : Jr} {n : Int} {p : Pl} {ins : List Ty} {v : Vl} (ht : Ty.In R (.mk 6 n p ins)) (hv : v.In R) : PureR Tryz.prog 222 [Ty.val (.mk 6 n p ins), v.val].toArray (.bool (yC 6 n ins.length v)) R := by
  have hnu := WC hv
  have hit := XB hv
  have hbi := YO hv
  have hpk := YR hv
  cases ht with
  | mk hk hn hlt hst hit0 =>
  cases hv with
  | @mk a b c d bits pb items pi pick ha hb hc hd hlb hsb hl hs hp hi =>
  have hw : WOk [a, b, c, d] := ⟨rfl, fun x hx => by simp at hx; rcases hx with rfl | rfl | rfl | rfl <;> assumption⟩
  have hw1 : WOk [1, 0, 0, 0] := ⟨rfl, fun x hx => by simp at hx; omega⟩
  have hl1 := q8 hw
  rw [Qo _ n ins.length a b c d bits pb items pi pick _ rfl]; refine Je Tryz.func222 rfl rfl fun w => ?_; refine sR fun K1 hK1 => ?_; refine LN rfl fun r1 => ?_; refine LN rfl fun r2 => ?_; refine Ji rfl (nK hK1 ?_); clear hK1 K1; refine sR fun K2 hK2 => ?_; refine LR rfl (Jx (vs := [_, _, _, _, _, _, _]) rfl (kn 0 rfl) rfl rfl rfl rfl) ?_; refine Jh rfl rfl rfl (enters_of Tryz.func219 (by kernel_rfl) rfl) hbi (fun q hq => Or.inr hq) ?_; refine Ji rfl (nK hK2 ?_); clear hK2 K2; refine Jb (pT rfl rfl rfl fun w1 hs1 => ?_); refine ⟨?_, hs1.keep⟩
  simp_all [JP]
theorem O_7 {R : Jr} {n : Int} {p : Pl} {ins : List Ty} {v : Vl} (ht : Ty.In R (.mk 7 n p ins)) (hv : v.In R) : PureR Tryz.prog 224 [Ty.val (.mk 7 n p ins), v.val].toArray (.bool (yC 7 n ins.length v)) R := by
  have hnu := WC hv
  have hit := XB hv
  have hbi := YO hv
  have hpk := YR hv
  cases ht with
  | mk hk hn hlt hst hit0 =>
  cases hv with
  | @mk a b c d bits pb items pi pick ha hb hc hd hlb hsb hl hs hp hi =>
  have hw : WOk [a, b, c, d] := ⟨rfl, fun x hx => by simp at hx; rcases hx with rfl | rfl | rfl | rfl <;> assumption⟩
  have hw1 : WOk [1, 0, 0, 0] := ⟨rfl, fun x hx => by simp at hx; omega⟩
  have hl1 := q8 hw
  rw [Qo _ n ins.length a b c d bits pb items pi pick _ rfl]; refine Je Tryz.func224 rfl rfl fun w => ?_; refine sR fun K1 hK1 => ?_; refine LN rfl fun r1 => ?_; refine LN rfl fun r2 => ?_; refine Ji rfl (nK hK1 ?_); clear hK1 K1; refine sR fun K2 hK2 => ?_; refine LR rfl (Jx (vs := [_, _, _, _, _, _, _]) rfl (kn 0 rfl) rfl rfl rfl rfl) ?_; refine Jh rfl rfl rfl Jlq hit (fun q hq => Or.inr hq) ?_; refine Ji rfl ?_
  refine JA 7 rfl (fun hb3 => ?_) (fun hb3 => ?_) <;> (try simp only [ZZ] at hb3) <;> first | (refine LR rfl (JL rfl rfl rfl) ?_) | (refine LK rfl ?_)
  all_goals refine LW 1 [0] rfl rfl ?_
  all_goals first
    | (refine LR rfl (J3 rfl hs rfl) ?_)
    | (refine LK rfl ?_)
  all_goals first
    | (refine LR rfl (JL rfl rfl rfl) ?_)
    | (refine LK rfl ?_)
  all_goals refine LW 1 [1] rfl rfl ?_
  all_goals first
    | (refine LR rfl (J3 rfl hst rfl) ?_)
    | (refine LK rfl ?_)
  all_goals refine LW 3 [] rfl rfl ?_
  all_goals refine Jg ?_
  all_goals (
   refine hK2 ?_; clear hK2 K2; refine Jb (pT rfl rfl rfl fun w1 hs1 => ?_); refine ⟨?_, hs1.keep⟩
   simp_all [JP]
   all_goals first | done | rfl | omega | (rw [Bool.eq_iff_iff]; simp only [Bool.and_eq_true, Bool.or_eq_true, decide_eq_true_eq, beq_iff_eq]; omega) | (simp only [decide_eq_true_eq, decide_eq_false_iff_not]; omega)
   skip)
theorem O_8 {R : Jr} {n : Int} {p : Pl} {ins : List Ty} {v : Vl} (ht : Ty.In R (.mk 8 n p ins)) (hv : v.In R) : PureR Tryz.prog 227 [Ty.val (.mk 8 n p ins), v.val].toArray (.bool (yC 8 n ins.length v)) R := by
  have hnu := WC hv
  have hit := XB hv
  have hbi := YO hv
  have hpk := YR hv
  cases ht with
  | mk hk hn hlt hst hit0 =>
  cases hv with
  | @mk a b c d bits pb items pi pick ha hb hc hd hlb hsb hl hs hp hi =>
  have hw : WOk [a, b, c, d] := ⟨rfl, fun x hx => by simp at hx; rcases hx with rfl | rfl | rfl | rfl <;> assumption⟩
  have hw1 : WOk [1, 0, 0, 0] := ⟨rfl, fun x hx => by simp at hx; omega⟩
  have hl1 := q8 hw
  rw [Qo _ n ins.length a b c d bits pb items pi pick _ rfl]; refine Je Tryz.func227 rfl rfl fun w => ?_; refine sR fun K1 hK1 => ?_; refine LN rfl fun r1 => ?_; refine LN rfl fun r2 => ?_; refine Ji rfl (nK hK1 ?_); clear hK1 K1; refine sR fun K2 hK2 => ?_; refine LR rfl (Jx (vs := [_, _, _, _, _, _, _]) rfl (kn 0 rfl) rfl rfl rfl rfl) ?_; refine Jh rfl rfl rfl (enters_of Tryz.func228 (by kernel_rfl) rfl) hpk (fun q hq => Or.inr hq) ?_; refine Ji rfl ?_
  refine JA 7 rfl (fun hb3 => ?_) (fun hb3 => ?_) <;> (try simp only [ZZ] at hb3) <;> first | (refine LR rfl (JL rfl rfl rfl) ?_) | (refine LK rfl ?_)
  all_goals refine LW 1 [0] rfl rfl ?_
  all_goals first
    | (refine LR rfl (J3 rfl hs rfl) ?_)
    | (refine LK rfl ?_)
  all_goals refine LW 3 [] rfl rfl ?_
  all_goals first
    | (refine LK rfl ?_)
    | (refine JA 13 rfl (fun hb7 => ?_) (fun hb7 => ?_) <;> (try simp only [ZZ] at hb7) <;> first | (refine LR rfl (JL rfl rfl rfl) ?_) | (refine LK rfl ?_))
  all_goals refine LW 4 [0] rfl rfl ?_
  all_goals first
    | (refine LK rfl ?_)
    | (refine JA 18 rfl (fun hb10 => ?_) (fun hb10 => ?_) <;> (try simp only [ZZ] at hb10) <;> first | (refine LR rfl (JL rfl rfl rfl) ?_) | (refine LK rfl ?_))
  all_goals refine LW 1 [0] rfl rfl ?_
  all_goals first
    | (refine LR rfl (JL rfl rfl rfl) ?_)
    | (refine LK rfl ?_)
  all_goals refine LW 1 [1] rfl rfl ?_
  all_goals first
    | (refine LR rfl (J3 rfl hst rfl) ?_)
    | (refine LK rfl ?_)
  all_goals refine LW 3 [] rfl rfl ?_
  all_goals refine Jg ?_
  all_goals (
   refine hK2 ?_; clear hK2 K2; refine Jb (pT rfl rfl rfl fun w1 hs1 => ?_); refine ⟨?_, hs1.keep⟩
   simp_all [JP]
   all_goals first | done | rfl | omega | (rw [Bool.eq_iff_iff]; simp only [Bool.and_eq_true, Bool.or_eq_true, decide_eq_true_eq, beq_iff_eq]; omega) | (simp only [decide_eq_true_eq, decide_eq_false_iff_not]; omega)
   skip)
theorem Jwx {R : Jr} {k n : Int} {p : Pl} {ins : List Ty} {v : Vl} (ht : Ty.In R (.mk k n p ins)) (hv : v.In R) (h : zX k = true) : Enters Tryz.prog (ofF k) ∧ PureR Tryz.prog (ofF k) [Ty.val (.mk k n p ins), v.val].toArray (.bool (yC k n ins.length v)) R := by
  have := W1.1 h
  have : k = 1 ∨ k = 2 ∨ k = 3 ∨ k = 4 ∨ k = 5 ∨ k = 6 ∨ k = 7 ∨ k = 8 := by omega
  rcases this with rfl | rfl | rfl | rfl | rfl | rfl | rfl | rfl
  · exact ⟨enters_of Tryz.func199 (by kernel_rfl) rfl, O_1 ht hv⟩
  · exact ⟨enters_of Tryz.func205 (by kernel_rfl) rfl, O_2 ht hv⟩
  · exact ⟨enters_of Tryz.func211 (by kernel_rfl) rfl, O_3 ht hv⟩
  · exact ⟨enters_of Tryz.func216 (by kernel_rfl) rfl, O_4 ht hv⟩
  · exact ⟨enters_of Tryz.func218 (by kernel_rfl) rfl, O_5 ht hv⟩
  · exact ⟨enters_of Tryz.func222 (by kernel_rfl) rfl, O_6 ht hv⟩
  · exact ⟨enters_of Tryz.func224 (by kernel_rfl) rfl, O_7 ht hv⟩
  · exact ⟨enters_of Tryz.func227 (by kernel_rfl) rfl, O_8 ht hv⟩
def VK (r : Nat) (t : Ty) : Nat × Obj := (r, .cells t.cells.toArray 76 (0, 0))
instance : Inhabited Vl := ⟨zVl⟩
def XC (l : List Vl) (i : Nat) : Vl := l.getD i default
theorem XD {l : List Vl} {i : Nat} (h : i < l.length) : l[i]? = some (XC l i) ∧ XC l i ∈ l := by
  unfold XC
  rw [List.getD_eq_getElem?_getD, List.getElem?_eq_getElem h]; exact ⟨rfl, List.getElem_mem h⟩
theorem Jbp (t : Ty) (v : Vl) : PureE (α := Nat × Nat) Tryz.prog 162 [t.val, v.val].toArray (fun p => .func (.func 229) #[] #[.pointer (some ⟨p.2, 0, none⟩), .pointer (some ⟨p.1, 0, none⟩)])
    (fun p => [WO p.2 v, VK p.1 t]) := by
  obtain ⟨k, n, p, ins⟩ := t
  obtain ⟨a, b, c, d, bits, pb, items, pi, pick⟩ := v
  refine Vy Tryz.func162 rfl rfl fun w => ?_; refine sR fun _ hK1 => ?_; refine LN rfl fun r1 => ?_; refine LN rfl fun r2 => ?_; refine Ji rfl (nK hK1 ?_); refine sR fun _ hK2 => ?_; refine LR rfl (Kv rfl rfl) ?_; refine Ji rfl (nK hK2 ?_); refine Jb (pT rfl rfl rfl fun w1 hs1 => ?_); exact ⟨(r1, r2), rfl, hs1⟩
def yG (k pick : Int) (ins : List Ty) (items : List Vl) (i : Nat) : List Value := [(JK k pick ins i).val, (XC items i).val]
theorem Jbq {R : Jr} {k n : Int} {p : Pl} {ins : List Ty} {a b c d : Nat} {bits : List Bool} {pb : Pl} {items : List Vl} {pi : Pl} {pick : Int} (hl : items.length ≤ 9223372036854775807) (hlt : ins.length ≤ 9223372036854775807) (hs : Seg R items.length (Qj items) pi) (hst : Seg R ins.length (zR ins) p)
    (hx : ∀ i, i < items.length → VY k pick i < ins.length) (hp8 : k = 8 → 0 ≤ pick) (rt rv : Nat) :
    zz Tryz.prog 229 [.pointer (some ⟨rv, 0, none⟩), .pointer (some ⟨rt, 0, none⟩)] (WO rv (.mk a b c d bits pb items pi pick) :: VK rt (.mk k n p ins) :: R) 0 (nxN (yG k pick ins items) items.length) (Jd3 items.length) := by
  have hs := hs.mono (R' := WO rv (.mk a b c d bits pb items pi pick) :: VK rt (.mk k n p ins) :: R) fun q hq => List.mem_cons_of_mem _ (List.mem_cons_of_mem _ hq)
  have hst := hst.mono (R' := WO rv (.mk a b c d bits pb items pi pick) :: VK rt (.mk k n p ins) :: R) fun q hq => List.mem_cons_of_mem _ (List.mem_cons_of_mem _ hq)
  refine Wp Tryz.func229 rfl rfl fun q xids w2 XI XF hY => ?_; refine sR fun _ hK1 => ?_
  refine LS 1 [] rfl rfl ?_; refine LR rfl (Jm rfl (J8 (k := 0) rfl) rfl rfl) ?_; refine LR rfl (J3 rfl hs rfl) ?_; refine Ji rfl (nK hK1 ?_); refine Ju (JG (σ := Nat) (fun i => i ≤ items.length) (fun i => [(0, .func (.yield q) #[] #[]), (1, .pointer (some ⟨rv, 0, none⟩)), (2, .pointer (some ⟨rt, 0, none⟩)), (8, KM items.length pi), (9, .int .i64 (items.length : Int)), (10, .int .i64 (i : Int))]) (fun _ => []) (fun i => XI i) (fun i => items.length - i) 0 (Nat.zero_le _) (.cons rfl (.cons rfl (.cons rfl (.cons rfl (.cons rfl (.cons rfl .nil)))))) (List.nil_sublist _) (fun _ _ h => h) ?_); intro i hi; refine sR fun _ hK2 => JZ rfl (nK hK2 ?_); refine sQ fun _ hK3 => ?_; refine Jc rfl (fun h4 => ?_) (fun h4 => ?_)
  · try simp only [ZZ] at h4
    refine Jf (hK3 ?_); refine sB fun _ hK5 => sQ fun _ hK6 => ?_
    have hil : i < items.length := by omega
    have hix := XD hil
    have hty := Qn (hx i hil)
    refine Ja (Ji rfl (LR rfl (Jp (j := i) rfl hs rfl rfl rfl rfl (by omega)) ?_)); refine LR rfl (QI (fun q hq => Or.inr hq) rfl hs hix.1 rfl rfl) ?_; refine LN rfl fun r1 => ?_; refine Ji rfl (Jz (k := 0) (n := 7) (ys := (XC items i).cells) rfl rfl rfl rfl rfl (XC items i).len rfl (XC items i).one rfl ?_); refine nK hK6 (sR fun _ hK7 => ?_); refine Ji rfl (nK hK7 ?_); refine sQ fun _ hK8 => sR fun _ hK9 => ?_
    refine LS 1 [] rfl rfl ?_; refine LR rfl (Jm rfl (J8 (k := 1) rfl) rfl rfl) ?_; refine nK hK9 (Ju (sR fun _ hK10 => (LS 2 [] rfl rfl ?_))); refine nK hK10 ?_; refine Jc rfl (fun h11 => ?_) (fun h11 => ?_)
    · try simp only [ZZ] at h11
      refine Ja (LS 2 [] rfl rfl (Jg ?_)); refine Jj (hK8 ?_); refine sQ fun _ hK12 => ?_; refine Ka 7 (by kernel_rfl) (by kernel_rfl) ?_; refine Jk rfl rfl rfl (Jo rfl) ?_
      refine Jk rfl rfl rfl (JL rfl rfl rfl) ?_; refine Jk rfl rfl rfl (Jm rfl (J8 (k := 1) rfl) rfl rfl) ?_; refine Jk rfl rfl rfl (Jo rfl) ?_
      refine Jk rfl rfl rfl (Jp (j := VY k pick i) rfl hst rfl rfl rfl (by unfold VY; first | (rw [if_pos (by assumption)]) | (rw [if_neg (by assumption), if_pos (by assumption)]; have := hp8 (by assumption); omega) | (rw [if_neg (by assumption), if_neg (by assumption)]; rfl)) (hx i hil)) ?_; refine Jk rfl rfl rfl (KV (fun q hq => Or.inr hq) rfl hst hty.1 rfl rfl) ?_; refine Jk rfl rfl rfl (Jq (xs := (XC items i).cells) (n := 7) rfl (kn 0 rfl) rfl rfl (XC items i).len) ?_; refine Kt ?_; refine W5 (XT := XI (i + 1)) (XF := XF) rfl rfl rfl rfl (hY i (yG k pick ins items i) (i + 1) ⟨hil, rfl, rfl⟩) ?_ ?_
      all_goals refine JZ rfl ?_
      all_goals refine Jg ?_
      all_goals (
       refine hK12 ?_; refine Jc rfl (fun h13 => ?_) (fun h13 => ?_)
       · try exact Bool.noConfusion h13
         all_goals try simp only [ZZ] at h13
         all_goals (
          refine Jb (Jn (Jd ?_)); refine Jd (Jn ?_); refine Jv rfl rfl .nil (fun w1 hs1 => ?_)
          obtain ⟨xs1, hx1⟩ := hs1.now
          exact ⟨⟨_, rfl⟩, hs1.keep, .inr ⟨_, hx1⟩⟩
          skip)
       · try exact Bool.noConfusion h13
         all_goals try simp only [ZZ] at h13
         all_goals (
          refine Jf (Jj (hK5 ?_)); refine Ja (JZ rfl (Jt (by omega) (by omega) ?_)); refine Ji rfl (Jg (J5 ?_)); exact J1 (i + 1) (by omega) (by omega) (.cons rfl (.cons rfl (.cons rfl (.cons rfl (.cons rfl (.cons rfl .nil)))))) (List.nil_sublist _) (fun _ _ h => h)
          skip)
       skip)
    · try simp only [ZZ] at h11
      refine sR fun _ hK14 => LS 2 [] rfl rfl (nK hK14 ?_); refine Jc rfl (fun h15 => ?_) (fun h15 => ?_)
      · try simp only [ZZ] at h15
        refine Ja ?_
        refine LS 1 [] rfl rfl ?_; refine LR rfl (Jm rfl (J8 (k := 0) rfl) rfl rfl) ?_; refine Ji rfl (Jg ?_); refine Jj (hK8 ?_); refine sQ fun _ hK16 => ?_; refine Ka 7 (by kernel_rfl) (by kernel_rfl) ?_; refine Jk rfl rfl rfl (Jo rfl) ?_
        refine Jk rfl rfl rfl (JL rfl rfl rfl) ?_; refine Jk rfl rfl rfl (Jm rfl (J8 (k := 1) rfl) rfl rfl) ?_; refine Jk rfl rfl rfl (Jo rfl) ?_
        refine Jk rfl rfl rfl (Jp (j := VY k pick i) rfl hst rfl rfl rfl (by unfold VY; first | (rw [if_pos (by assumption)]) | (rw [if_neg (by assumption), if_pos (by assumption)]; have := hp8 (by assumption); omega) | (rw [if_neg (by assumption), if_neg (by assumption)]; rfl)) (hx i hil)) ?_; refine Jk rfl rfl rfl (KV (fun q hq => Or.inr hq) rfl hst hty.1 rfl rfl) ?_; refine Jk rfl rfl rfl (Jq (xs := (XC items i).cells) (n := 7) rfl (kn 0 rfl) rfl rfl (XC items i).len) ?_; refine Kt ?_; refine W5 (XT := XI (i + 1)) (XF := XF) rfl rfl rfl rfl (hY i (yG k pick ins items i) (i + 1) ⟨hil, rfl, rfl⟩) ?_ ?_
        all_goals refine JZ rfl ?_
        all_goals refine Jg ?_
        all_goals (
         refine hK16 ?_; refine Jc rfl (fun h17 => ?_) (fun h17 => ?_)
         · try exact Bool.noConfusion h17
           all_goals try simp only [ZZ] at h17
           all_goals (
            refine Jb (Jn (Jd ?_)); refine Jd (Jn ?_); refine Jv rfl rfl .nil (fun w1 hs1 => ?_)
            obtain ⟨xs1, hx1⟩ := hs1.now
            exact ⟨⟨_, rfl⟩, hs1.keep, .inr ⟨_, hx1⟩⟩
            skip)
         · try exact Bool.noConfusion h17
           all_goals try simp only [ZZ] at h17
           all_goals (
            refine Jf (Jj (hK5 ?_)); refine Ja (JZ rfl (Jt (by omega) (by omega) ?_)); refine Ji rfl (Jg (J5 ?_)); exact J1 (i + 1) (by omega) (by omega) (.cons rfl (.cons rfl (.cons rfl (.cons rfl (.cons rfl (.cons rfl .nil)))))) (List.nil_sublist _) (fun _ _ h => h)
            skip)
         skip)
      · try simp only [ZZ] at h15
        refine Jf (Jj (hK8 ?_)); refine sQ fun _ hK18 => ?_; refine Ka 7 (by kernel_rfl) (by kernel_rfl) ?_; refine Jk rfl rfl rfl (Jo rfl) ?_
        refine Jk rfl rfl rfl (JL rfl rfl rfl) ?_; refine Jk rfl rfl rfl (Jm rfl (J8 (k := 1) rfl) rfl rfl) ?_; refine Jk rfl rfl rfl (Jo rfl) ?_
        refine Jk rfl rfl rfl (Jp (j := VY k pick i) rfl hst rfl rfl rfl (by unfold VY; first | (rw [if_pos (by assumption)]) | (rw [if_neg (by assumption), if_pos (by assumption)]; have := hp8 (by assumption); omega) | (rw [if_neg (by assumption), if_neg (by assumption)]; rfl)) (hx i hil)) ?_; refine Jk rfl rfl rfl (KV (fun q hq => Or.inr hq) rfl hst hty.1 rfl rfl) ?_; refine Jk rfl rfl rfl (Jq (xs := (XC items i).cells) (n := 7) rfl (kn 0 rfl) rfl rfl (XC items i).len) ?_; refine Kt ?_; refine W5 (XT := XI (i + 1)) (XF := XF) rfl rfl rfl rfl (hY i (yG k pick ins items i) (i + 1) ⟨hil, rfl, rfl⟩) ?_ ?_
        all_goals refine JZ rfl ?_
        all_goals refine Jg ?_
        all_goals (
         refine hK18 ?_; refine Jc rfl (fun h19 => ?_) (fun h19 => ?_)
         · try exact Bool.noConfusion h19
           all_goals try simp only [ZZ] at h19
           all_goals (
            refine Jb (Jn (Jd ?_)); refine Jd (Jn ?_); refine Jv rfl rfl .nil (fun w1 hs1 => ?_)
            obtain ⟨xs1, hx1⟩ := hs1.now
            exact ⟨⟨_, rfl⟩, hs1.keep, .inr ⟨_, hx1⟩⟩
            skip)
         · try exact Bool.noConfusion h19
           all_goals try simp only [ZZ] at h19
           all_goals (
            refine Jf (Jj (hK5 ?_)); refine Ja (JZ rfl (Jt (by omega) (by omega) ?_)); refine Ji rfl (Jg (J5 ?_)); exact J1 (i + 1) (by omega) (by omega) (.cons rfl (.cons rfl (.cons rfl (.cons rfl (.cons rfl (.cons rfl .nil)))))) (List.nil_sublist _) (fun _ _ h => h)
            skip)
         skip)
  · try simp only [ZZ] at h4
    refine JE (Jl ?_); refine Jl (J0 ?_); refine Qx rfl rfl .nil (fun w1 hs1 => ?_)
    obtain ⟨xs1, hx1⟩ := hs1.now
    exact ⟨⟨_, rfl⟩, hs1.keep, .inl ⟨i, _, (by show i = items.length; omega), hx1⟩⟩
theorem Wt {a b c d : Nat} {bits : List Bool} {pb : Pl} {items : List Vl} {pi : Pl} {pick k n : Int} {p : Pl} {ins : List Ty} (h1 : ¬ ((k = 4 ∧ n < items.length) ∨ (k = 6 ∧ n < bits.length))) (h2 : yC k n ins.length (.mk a b c d bits pb items pi pick) = true) : Kq (.mk a b c d bits pb items pi pick) (.mk k n p ins) = Qq items k pick ins 0 := by
  rw [Kq, if_neg h1, if_neg (by rw [h2]; simp)]
theorem Ju0 {R : Jr} {v : Vl} (hv : v.In R) : ∀ (t : Ty) (dp : Int), t.In R → V6 t dp = 0 → PureR Tryz.prog 113 [t.val, v.val].toArray (.int .i64 (Kq v t)) R := by
  have hv0 := hv
  induction hv with
  | @mk a b c d bits pb items pi pick ha hb hc hd hlb hsb hl hs hp hi ih =>
  intro t dp ht hck
  have ht0 := ht
  cases ht with
  | @mk k n p ins hk hn hlt hst hit =>
  obtain ⟨hk8, ho, h6, hci⟩ := QQ hck
  have hkk := W1.2 hk8
  have hO := Jwx ht0 hv0 hkk
  refine Je Tryz.func113 rfl rfl fun w => ?_; refine sR fun _ hK1 => ?_; refine LN rfl fun r1 => ?_; refine LN rfl fun r2 => ?_; refine LN rfl fun r3 => ?_; refine nK hK1 (sB fun _ hK2 => ?_); refine sQ fun _ hK3 => sR fun _ hK4 => ?_; refine LS 4 [2] rfl rfl ?_
  refine JA 12 rfl (fun hb5 => ?_) (fun hb5 => ?_) <;> (try simp only [ZZ] at hb5) <;> first | (refine LR rfl (JL rfl rfl rfl) ?_) | (refine LK rfl ?_)
  all_goals refine LW 1 [1] rfl rfl ?_
  all_goals first
    | (refine LR rfl (J3 rfl hs rfl) ?_)
    | (refine LK rfl ?_)
  all_goals first
    | (refine LR rfl (JL rfl rfl rfl) ?_)
    | (refine LK rfl ?_)
  all_goals refine LW 4 [2] rfl rfl ?_
  all_goals refine Jg ?_
  all_goals (
   refine hK4 ?_; refine Jc rfl (fun h11 => ?_) (fun h11 => ?_)
   · try exact Bool.noConfusion h11
     all_goals try simp only [ZZ] at h11
     all_goals (
      refine Jf (hK3 ?_); refine Jc rfl (fun h12 => ?_) (fun h12 => ?_)
      try simp only [ZZ] at h12
      refine sR fun _ hK13 => ?_
      refine LT 0 rfl rfl (nK hK13 ?_); refine Jb (Jn (Jd ?_))
      first
        | (refine QK (k := 0) rfl rfl ?_
           refine Jv rfl rfl (.cons (KN rfl (kn 1 rfl) rfl rfl) .nil) (fun w1 hs1 => ?_)
           first | exact ⟨by rw [hfo, ← he]; rfl, hs1.keep⟩ | exact ⟨by rw [hfo, hz]; rfl, hs1.keep⟩)
        | (refine Jv rfl rfl (.cons (KN rfl (kn 0 rfl) rfl rfl) .nil) (fun w1 hs1 => ?_)
           first | exact ⟨by rw [Kq, if_pos (by omega)]; rfl, hs1.keep⟩ | exact ⟨by rw [Kq, if_neg (by omega), if_pos (by assumption)]; rfl, hs1.keep⟩)
        | (refine Jv rfl rfl (.cons (KN rfl (kn 1 rfl) rfl rfl) .nil) (fun w1 hs1 => ?_)
           first | exact ⟨by rw [Kq, if_pos (by omega)]; rfl, hs1.keep⟩ | exact ⟨by rw [Kq, if_neg (by omega), if_pos (by assumption)]; rfl, hs1.keep⟩)
      try simp only [ZZ] at h12
      refine sQ fun _ hK14 => ?_
      refine JS [] [(0, .grow (Qt 0 (fun r : Nat => Value.map (some r)) (fun r => [(r, Jii)]))), (1, .pure), (4, .pure), (8, .pure), (9, .pure)] 10 [1, 2, 5, 6, 0, 3, 4, 7, 8, 9] (by kernel_rfl) (by kernel_rfl) (by first | exact (fun _ h => absurd h List.not_mem_nil) | simp [SubS] | (intro p hp; simp [hp])) ?_
      refine Jw (k := 1) rfl rfl rfl rfl rfl (fun _ hS => (JL rfl rfl rfl)) ?_; refine KW (k := 2) rfl rfl rfl rfl rfl (Jm rfl (kn 2 rfl) rfl rfl) ?_; refine KW (k := 5) rfl rfl rfl rfl rfl (Jx (vs := [_, _, _]) rfl (kn 2 rfl) rfl rfl rfl rfl) ?_; refine KW (k := 6) rfl rfl rfl rfl rfl (Jx (vs := [_, _, _, _, _, _, _]) rfl (kn 1 rfl) rfl rfl rfl rfl) ?_; refine Yb (k := 0) rfl rfl rfl rfl rfl Jbd jo fun mr => ?_; refine KW (k := 3) rfl rfl rfl rfl rfl (XW (X6 (t := 3) (by kernel_rfl)) rfl rfl (kn 0 rfl) rfl rfl ⟨_, rfl⟩ YL (Zq hkk)) ?_; refine Jw (k := 4) rfl rfl rfl rfl rfl (fun _ hS => (J9 rfl rfl rfl)) ?_; refine W9 (Jge hkk) ?_; refine Qp (k := 7) rfl rfl rfl rfl rfl hO.1 hO.2 (fun q hq => Or.inr hq) ?_; refine Jw (k := 8) rfl rfl rfl rfl rfl (fun _ hS => (J9 rfl rfl rfl)) ?_; refine Jw (k := 9) rfl rfl rfl rfl rfl (fun _ hS => (JN rfl)) ?_; refine KC ?_; refine nK hK14 ?_; refine Jc rfl (fun h15 => ?_) (fun h15 => ?_)
      try simp only [ZZ] at h15
      refine sR fun _ hK16 => ?_
      refine LT 1 rfl rfl (nK hK16 ?_); refine Jb (Jn (Jd ?_))
      (refine Jv rfl rfl (.cons (KN rfl (kn 1 rfl) rfl rfl) .nil) (fun w1 hs1 => ?_)
       first | exact ⟨by rw [Kq, if_pos (by omega)]; rfl, hs1.keep⟩ | exact ⟨by rw [Kq, if_neg (by omega), if_pos (by assumption)]; rfl, hs1.keep⟩)
      try simp only [ZZ] at h15
      refine Jf (Jj (hK2 ?_)); refine sQ fun _ hK17 => sQ fun _ hK18 => ?_
      have hfo := Wt (a := a) (b := b) (c := c) (d := d) (pb := pb) (pi := pi) (p := p) (show ¬ ((k = 4 ∧ n < items.length) ∨ (k = 6 ∧ n < bits.length)) by omega) (by assumption)
      have hxl : ∀ i, i < items.length → VY k pick i < ins.length := fun i hi => qc (v := .mk a b c d bits pb items pi pick) hck (by assumption) hi
      have hp8 : k = 8 → 0 ≤ pick := fun h => by subst h; exact Jtl (v := .mk a b c d bits pb items pi pick) (by assumption)
      refine Ja (LS 2 [3, 2] rfl rfl (Vq rfl rfl rfl (enters_of Tryz.func162 (by kernel_rfl) rfl) (Jbp (.mk k n p ins) (.mk a b c d bits pb items pi pick)) fun pp => ?_))
      obtain ⟨rt, rv⟩ := pp
      change HL _ _ _ (WO rv (.mk a b c d bits pb items pi pick) :: VK rt (.mk k n p ins) :: _) _ _ _ _; refine nK hK18 (Ju (Yr [3, 0, 1, 2, 4, 5] (L' := [_, _, _, _, _, _]) (by decide) rfl ?_))
      refine WY (τ := Int) (fun i (_ : Unit) => i ≤ items.length ∧ Qq (items.drop i) k pick ins i = Qq items k pick ins 0) (fun _ => [(r3, .cells #[.int .i64 (0)] 27 (0, 0))]) (fun j e => j = .ret ∧ e = Qq items k pick ins 0) (fun e => [(r3, .cells #[.int .i64 (e)] 27 (0, 0))]) [WO rv (.mk a b c d bits pb items pi pick), VK rt (.mk k n p ins), _, _, _] () rfl rfl (enters_of Tryz.func229 (by kernel_rfl) rfl) (Jbq (n := n) (a := a) (b := b) (c := c) (d := d) (bits := bits) (pb := pb) hl hlt hs hst hxl hp8 rt rv) (by rintro _ _ _ ⟨_, rfl, _⟩; rfl) rfl (fun q hq => by rcases List.mem_cons.1 hq with rfl | hq; exact .inl (by simp); rcases List.mem_cons.1 hq with rfl | hq; exact .inl (by simp); exact .inr hq) rfl ⟨Nat.zero_le _, rfl⟩ ?_ ?_ ?_
      rintro q Xr Xb w3 i _ _ ⟨⟩ ⟨hii, rfl, rfl⟩ ⟨hil, hinv⟩ Kr hKr
      have hix := XD hii
      have hty := Qn (hxl i hii)
      rw [Y9 hix.1, Qq] at hinv
      unfold yG
      refine sR fun _ hK19 => ?_; refine LN rfl fun r4 => ?_; refine Jz (k := 0) (n := 3) (ys := (JK k pick ins i).cells) rfl rfl rfl rfl rfl (JK k pick ins i).len rfl (JK k pick ins i).one rfl ?_; refine nK hK19 ?_; refine Ja (LN rfl fun r5 => (Jz (k := 0) (n := 7) (ys := (XC items i).cells) rfl rfl rfl rfl rfl (XC items i).len rfl (XC items i).one rfl ?_)); refine Jg ?_; refine hKr _ _ ?_; clear hKr; refine Ju (sR fun _ hK20 => (LR rfl (Jq (xs := (JK k pick ins i).cells) (n := 3) rfl (kn 1 rfl) rfl rfl (JK k pick ins i).len) ?_)); refine LR rfl (Jq (xs := (XC items i).cells) (n := 7) rfl (kn 0 rfl) rfl rfl (XC items i).len) ?_; refine Jh rfl rfl rfl Jlh (ih _ hix.2 (hi _ hix.2) _ (dp + 1) (hit _ hty.2) (hci _ hty.2)) (fun q hq => Or.inr (List.mem_append_right _ hq)) ?_; refine Ji rfl (nK hK20 ?_); refine sR fun _ hK21 => LS 2 [] rfl rfl (nK hK21 ?_); refine Jc rfl (fun h22 => ?_) (fun h22 => ?_)
      try simp only [ZZ] at h22
      refine sR fun _ hK23 => Ji rfl ?_
      refine LT 2 rfl rfl (nK hK23 ?_); refine Jb (Jn (Vi [2] (L' := [_]) (by decide) rfl ?_)); refine yy (Kq (XC items i) (JK k pick ins i)) ⟨rfl, by rw [if_neg (by assumption)] at hinv; exact hinv⟩ rfl
      try simp only [ZZ] at h22
      refine Jf (Jj (Vi [2] (L' := [_]) (by decide) rfl ?_)); refine QN () ⟨by omega, by rw [if_pos (by assumption)] at hinv; exact hinv⟩ rfl
      rintro D i ⟨⟩ hfi ⟨hil, hinv⟩
      have hin : i = items.length := hfi
      have hz : Qq items k pick ins 0 = 0 := by rw [← hinv, hin, List.drop_length, Qq]
      refine Jj (hK17 ?_); refine sR fun _ hK24 => ?_
      refine LT 1 rfl rfl (nK hK24 ?_); refine Jb ?_
      (refine QK (k := 0) rfl rfl ?_
       refine Jv rfl rfl (.cons (KN rfl (kn 1 rfl) rfl rfl) .nil) (fun w1 hs1 => ?_)
       first | exact ⟨by rw [hfo, ← he]; rfl, hs1.keep⟩ | exact ⟨by rw [hfo, hz]; rfl, hs1.keep⟩)
      rintro D j e ⟨rfl, he⟩
      refine Jb (Jn (Jd ?_))
      first
        | (refine QK (k := 0) rfl rfl ?_
           refine Jv rfl rfl (.cons (KN rfl (kn 1 rfl) rfl rfl) .nil) (fun w1 hs1 => ?_)
           first | exact ⟨by rw [hfo, ← he]; rfl, hs1.keep⟩ | exact ⟨by rw [hfo, hz]; rfl, hs1.keep⟩)
        | (refine Jv rfl rfl (.cons (KN rfl (kn 0 rfl) rfl rfl) .nil) (fun w1 hs1 => ?_)
           first | exact ⟨by rw [Kq, if_pos (by omega)]; rfl, hs1.keep⟩ | exact ⟨by rw [Kq, if_neg (by omega), if_pos (by assumption)]; rfl, hs1.keep⟩)
        | (refine Jv rfl rfl (.cons (KN rfl (kn 1 rfl) rfl rfl) .nil) (fun w1 hs1 => ?_)
           first | exact ⟨by rw [Kq, if_pos (by omega)]; rfl, hs1.keep⟩ | exact ⟨by rw [Kq, if_neg (by omega), if_pos (by assumption)]; rfl, hs1.keep⟩)
      skip)
   · try simp only [ZZ] at h11
     refine Ja (LS 4 [2] rfl rfl ?_)
     refine JA 23 rfl (fun hb25 => ?_) (fun hb25 => ?_) <;> (try simp only [ZZ] at hb25) <;> first | (refine LR rfl (JL rfl rfl rfl) ?_) | (refine LK rfl ?_)
     all_goals refine LW 1 [1] rfl rfl ?_
     all_goals first
       | (refine LR rfl (J3 rfl hsb rfl) ?_)
       | (refine LK rfl ?_)
     all_goals first
       | (refine LR rfl (JL rfl rfl rfl) ?_)
       | (refine LK rfl ?_)
     all_goals refine LW 4 [2] rfl rfl ?_
     all_goals refine Jg ?_
     all_goals (
      refine hK3 ?_; refine Jc rfl (fun h31 => ?_) (fun h31 => ?_)
      · try exact Bool.noConfusion h31
        all_goals try simp only [ZZ] at h31
        all_goals (
         refine sR fun _ hK32 => ?_
         refine LT 0 rfl rfl (nK hK32 ?_); refine Jb (Jn (Jd ?_))
         first
           | (refine QK (k := 0) rfl rfl ?_
              refine Jv rfl rfl (.cons (KN rfl (kn 1 rfl) rfl rfl) .nil) (fun w1 hs1 => ?_)
              first | exact ⟨by rw [hfo, ← he]; rfl, hs1.keep⟩ | exact ⟨by rw [hfo, hz]; rfl, hs1.keep⟩)
           | (refine Jv rfl rfl (.cons (KN rfl (kn 0 rfl) rfl rfl) .nil) (fun w1 hs1 => ?_)
              first | exact ⟨by rw [Kq, if_pos (by omega)]; rfl, hs1.keep⟩ | exact ⟨by rw [Kq, if_neg (by omega), if_pos (by assumption)]; rfl, hs1.keep⟩)
           | (refine Jv rfl rfl (.cons (KN rfl (kn 1 rfl) rfl rfl) .nil) (fun w1 hs1 => ?_)
              first | exact ⟨by rw [Kq, if_pos (by omega)]; rfl, hs1.keep⟩ | exact ⟨by rw [Kq, if_neg (by omega), if_pos (by assumption)]; rfl, hs1.keep⟩)
         skip)
      try simp only [ZZ] at h31
      refine sQ fun _ hK33 => ?_
      refine JS [] [(0, .grow (Qt 0 (fun r : Nat => Value.map (some r)) (fun r => [(r, Jii)]))), (1, .pure), (4, .pure), (8, .pure), (9, .pure)] 10 [1, 2, 5, 6, 0, 3, 4, 7, 8, 9] (by kernel_rfl) (by kernel_rfl) (by first | exact (fun _ h => absurd h List.not_mem_nil) | simp [SubS] | (intro p hp; simp [hp])) ?_
      refine Jw (k := 1) rfl rfl rfl rfl rfl (fun _ hS => (JL rfl rfl rfl)) ?_; refine KW (k := 2) rfl rfl rfl rfl rfl (Jm rfl (kn 2 rfl) rfl rfl) ?_; refine KW (k := 5) rfl rfl rfl rfl rfl (Jx (vs := [_, _, _]) rfl (kn 2 rfl) rfl rfl rfl rfl) ?_; refine KW (k := 6) rfl rfl rfl rfl rfl (Jx (vs := [_, _, _, _, _, _, _]) rfl (kn 1 rfl) rfl rfl rfl rfl) ?_; refine Yb (k := 0) rfl rfl rfl rfl rfl Jbd jo fun mr => ?_; refine KW (k := 3) rfl rfl rfl rfl rfl (XW (X6 (t := 3) (by kernel_rfl)) rfl rfl (kn 0 rfl) rfl rfl ⟨_, rfl⟩ YL (Zq hkk)) ?_; refine Jw (k := 4) rfl rfl rfl rfl rfl (fun _ hS => (J9 rfl rfl rfl)) ?_; refine W9 (Jge hkk) ?_; refine Qp (k := 7) rfl rfl rfl rfl rfl hO.1 hO.2 (fun q hq => Or.inr hq) ?_; refine Jw (k := 8) rfl rfl rfl rfl rfl (fun _ hS => (J9 rfl rfl rfl)) ?_; refine Jw (k := 9) rfl rfl rfl rfl rfl (fun _ hS => (JN rfl)) ?_; refine KC ?_; refine nK hK33 ?_; refine Jc rfl (fun h34 => ?_) (fun h34 => ?_)
      try simp only [ZZ] at h34
      refine sR fun _ hK35 => ?_
      refine LT 1 rfl rfl (nK hK35 ?_); refine Jb (Jn (Jd ?_))
      (refine Jv rfl rfl (.cons (KN rfl (kn 1 rfl) rfl rfl) .nil) (fun w1 hs1 => ?_)
       first | exact ⟨by rw [Kq, if_pos (by omega)]; rfl, hs1.keep⟩ | exact ⟨by rw [Kq, if_neg (by omega), if_pos (by assumption)]; rfl, hs1.keep⟩)
      try simp only [ZZ] at h34
      refine Jf (Jj (hK2 ?_)); refine sQ fun _ hK36 => sQ fun _ hK37 => ?_
      have hfo := Wt (a := a) (b := b) (c := c) (d := d) (pb := pb) (pi := pi) (p := p) (show ¬ ((k = 4 ∧ n < items.length) ∨ (k = 6 ∧ n < bits.length)) by omega) (by assumption)
      have hxl : ∀ i, i < items.length → VY k pick i < ins.length := fun i hi => qc (v := .mk a b c d bits pb items pi pick) hck (by assumption) hi
      have hp8 : k = 8 → 0 ≤ pick := fun h => by subst h; exact Jtl (v := .mk a b c d bits pb items pi pick) (by assumption)
      refine Ja (LS 2 [3, 2] rfl rfl (Vq rfl rfl rfl (enters_of Tryz.func162 (by kernel_rfl) rfl) (Jbp (.mk k n p ins) (.mk a b c d bits pb items pi pick)) fun pp => ?_))
      obtain ⟨rt, rv⟩ := pp
      change HL _ _ _ (WO rv (.mk a b c d bits pb items pi pick) :: VK rt (.mk k n p ins) :: _) _ _ _ _; refine nK hK37 (Ju (Yr [3, 0, 1, 2, 4, 5] (L' := [_, _, _, _, _, _]) (by decide) rfl ?_))
      refine WY (τ := Int) (fun i (_ : Unit) => i ≤ items.length ∧ Qq (items.drop i) k pick ins i = Qq items k pick ins 0) (fun _ => [(r3, .cells #[.int .i64 (0)] 27 (0, 0))]) (fun j e => j = .ret ∧ e = Qq items k pick ins 0) (fun e => [(r3, .cells #[.int .i64 (e)] 27 (0, 0))]) [WO rv (.mk a b c d bits pb items pi pick), VK rt (.mk k n p ins), _, _, _] () rfl rfl (enters_of Tryz.func229 (by kernel_rfl) rfl) (Jbq (n := n) (a := a) (b := b) (c := c) (d := d) (bits := bits) (pb := pb) hl hlt hs hst hxl hp8 rt rv) (by rintro _ _ _ ⟨_, rfl, _⟩; rfl) rfl (fun q hq => by rcases List.mem_cons.1 hq with rfl | hq; exact .inl (by simp); rcases List.mem_cons.1 hq with rfl | hq; exact .inl (by simp); exact .inr hq) rfl ⟨Nat.zero_le _, rfl⟩ ?_ ?_ ?_
      rintro q Xr Xb w3 i _ _ ⟨⟩ ⟨hii, rfl, rfl⟩ ⟨hil, hinv⟩ Kr hKr
      have hix := XD hii
      have hty := Qn (hxl i hii)
      rw [Y9 hix.1, Qq] at hinv
      unfold yG
      refine sR fun _ hK38 => ?_; refine LN rfl fun r6 => ?_; refine Jz (k := 0) (n := 3) (ys := (JK k pick ins i).cells) rfl rfl rfl rfl rfl (JK k pick ins i).len rfl (JK k pick ins i).one rfl ?_; refine nK hK38 ?_; refine Ja (LN rfl fun r7 => (Jz (k := 0) (n := 7) (ys := (XC items i).cells) rfl rfl rfl rfl rfl (XC items i).len rfl (XC items i).one rfl ?_)); refine Jg ?_; refine hKr _ _ ?_; clear hKr; refine Ju (sR fun _ hK39 => (LR rfl (Jq (xs := (JK k pick ins i).cells) (n := 3) rfl (kn 1 rfl) rfl rfl (JK k pick ins i).len) ?_)); refine LR rfl (Jq (xs := (XC items i).cells) (n := 7) rfl (kn 0 rfl) rfl rfl (XC items i).len) ?_; refine Jh rfl rfl rfl Jlh (ih _ hix.2 (hi _ hix.2) _ (dp + 1) (hit _ hty.2) (hci _ hty.2)) (fun q hq => Or.inr (List.mem_append_right _ hq)) ?_; refine Ji rfl (nK hK39 ?_); refine sR fun _ hK40 => LS 2 [] rfl rfl (nK hK40 ?_); refine Jc rfl (fun h41 => ?_) (fun h41 => ?_)
      try simp only [ZZ] at h41
      refine sR fun _ hK42 => Ji rfl ?_
      refine LT 2 rfl rfl (nK hK42 ?_); refine Jb (Jn (Vi [2] (L' := [_]) (by decide) rfl ?_)); refine yy (Kq (XC items i) (JK k pick ins i)) ⟨rfl, by rw [if_neg (by assumption)] at hinv; exact hinv⟩ rfl
      try simp only [ZZ] at h41
      refine Jf (Jj (Vi [2] (L' := [_]) (by decide) rfl ?_)); refine QN () ⟨by omega, by rw [if_pos (by assumption)] at hinv; exact hinv⟩ rfl
      rintro D i ⟨⟩ hfi ⟨hil, hinv⟩
      have hin : i = items.length := hfi
      have hz : Qq items k pick ins 0 = 0 := by rw [← hinv, hin, List.drop_length, Qq]
      refine Jj (hK36 ?_); refine sR fun _ hK43 => ?_
      refine LT 1 rfl rfl (nK hK43 ?_); refine Jb ?_
      (refine QK (k := 0) rfl rfl ?_
       refine Jv rfl rfl (.cons (KN rfl (kn 1 rfl) rfl rfl) .nil) (fun w1 hs1 => ?_)
       first | exact ⟨by rw [hfo, ← he]; rfl, hs1.keep⟩ | exact ⟨by rw [hfo, hz]; rfl, hs1.keep⟩)
      rintro D j e ⟨rfl, he⟩
      refine Jb (Jn (Jd ?_))
      first
        | (refine QK (k := 0) rfl rfl ?_
           refine Jv rfl rfl (.cons (KN rfl (kn 1 rfl) rfl rfl) .nil) (fun w1 hs1 => ?_)
           first | exact ⟨by rw [hfo, ← he]; rfl, hs1.keep⟩ | exact ⟨by rw [hfo, hz]; rfl, hs1.keep⟩)
        | (refine Jv rfl rfl (.cons (KN rfl (kn 0 rfl) rfl rfl) .nil) (fun w1 hs1 => ?_)
           first | exact ⟨by rw [Kq, if_pos (by omega)]; rfl, hs1.keep⟩ | exact ⟨by rw [Kq, if_neg (by omega), if_pos (by assumption)]; rfl, hs1.keep⟩)
        | (refine Jv rfl rfl (.cons (KN rfl (kn 1 rfl) rfl rfl) .nil) (fun w1 hs1 => ?_)
           first | exact ⟨by rw [Kq, if_pos (by omega)]; rfl, hs1.keep⟩ | exact ⟨by rw [Kq, if_neg (by omega), if_pos (by assumption)]; rfl, hs1.keep⟩)
      skip)
   skip)
theorem Jl7 {R : Jr} {t : Ty} {v : Vl} (ht : t.In R) (hv : v.In R) : PureR Tryz.prog 76 [t.val, v.val].toArray (.int .i64 (Vv t v)) R := by
  have h1 := xh ht
  have h2 := Ju0 hv t 0 ht
  obtain ⟨k, n, p, ins⟩ := t
  obtain ⟨a, b, c, d, bits, pb, items, pi, pick⟩ := v
  refine Je Tryz.func76 rfl rfl fun w => ?_; refine sR fun _ hK1 => ?_; refine LN rfl fun r1 => ?_; refine LN rfl fun r2 => ?_; refine Ji rfl (nK hK1 ?_); refine sQ fun _ hK2 => sR fun _ hK3 => ?_; refine LR rfl (Jx (vs := [_, _, _]) rfl (kn 1 rfl) rfl rfl rfl rfl) ?_; refine Jh rfl rfl rfl Jut h1 (fun q hq => Or.inr hq) ?_; refine Ji rfl (nK hK3 ?_); refine sR fun _ hK4 => LS 2 [] rfl rfl (nK hK4 ?_); refine Jc rfl (fun h5 => ?_) (fun h5 => ?_)
  try simp only [ZZ] at h5
  refine sR fun _ hK6 => LS 2 [] rfl rfl (nK hK6 ?_); refine Jb (Jd ?_); refine pT rfl rfl rfl fun w1 hs1 => ?_; refine ⟨?_, hs1.keep⟩; rw [Vv, if_neg (by assumption)]; rfl
  · try simp only [ZZ] at h5
    refine Jf (hK2 ?_); refine sR fun _ hK7 => LS 2 [1, 0] rfl rfl ?_; refine Jh rfl rfl rfl Jlh (h2 (by assumption)) (fun q hq => Or.inr hq) ?_; refine Ji rfl (nK hK7 ?_); refine Jb (pT rfl rfl rfl fun w1 hs1 => ?_); refine ⟨?_, hs1.keep⟩; rw [Vv, if_pos (by assumption)]; rfl
section
variable {R : Jr}
end
theorem wa {n : Nat} (h : n < 256) : UInt8.ofNat n = 0 ↔ n = 0 := by
  constructor
  · intro e
    have := congrArg UInt8.toNat e
    rw [UInt8.toNat_ofNat', Nat.mod_eq_of_lt h] at this; exact this
  · rintro rfl; rfl
theorem jr (l : List Nat) : ∀ n k, (Lib.trimLeftB (Zm l n) 0).length ≤ k ↔ ∀ t, k ≤ t → t < n → dg l t = 0
  | 0, k => by simp [Zm, Lib.trimLeftB]
  | n + 1, k => by
    have ih := jr l n k
    by_cases hz : dg l n = 0
    · have e : Lib.trimLeftB (Zm l (n + 1)) 0 = Lib.trimLeftB (Zm l n) 0 := by simp [Zm, Lib.trimLeftB, hz]
      rw [e, ih]
      constructor
      · intro h t h1 h2
        by_cases ht : t = n
        · rw [ht]; exact hz
        · exact h t h1 (by omega)
      · intro h t h1 h2; exact h t h1 (by omega)
    · have hne : ¬ UInt8.ofNat (dg l n) = 0 := fun e => hz ((wa (Jkz l n)).1 e)
      have e : Lib.trimLeftB (Zm l (n + 1)) 0 = Zm l (n + 1) := by simp [Zm, Lib.trimLeftB, hne]
      rw [e, VO]
      constructor
      · intro h t h1 h2; omega
      · intro h
        rcases Nat.lt_or_ge n k with hk | hk
        · omega
        · exact absurd (h n hk (by omega)) hz
theorem yH {l : List Nat} (hl : WOk l) : Xm l = decide ((Ws l).length ≤ 8) := by
  unfold Xm Ws
  rw [decide_eq_decide, jr]
  constructor
  · intro h t h1 h2
    have hj : t / 8 = 1 ∨ t / 8 = 2 ∨ t / 8 = 3 := by omega
    rw [h]
    rcases hj with e | e | e <;> simp [dg, e]
  · intro h
    have hz : ∀ j, 1 ≤ j → j < 4 → l.getD j 0 = 0 := fun j h1 h2 => by
      rw [← Ja6 hl h2]
      have : ∀ m, m ≤ 8 → pw (dg l) j m = 0 := by
        intro m
        induction m with
        | zero => intro _; rfl
        | succ m ih => intro hm; simp only [pw]; rw [ih (by omega), h (8 * j + m) (by omega) (by omega)]; simp
      exact this 8 (by omega)
    obtain ⟨a, b, c, d, rfl, _⟩ := hl.four
    have e1 := hz 1 (by decide) (by decide)
    have e2 := hz 2 (by decide) (by decide)
    have e3 := hz 3 (by decide) (by decide)
    simp only [List.getD_cons_zero, List.getD_cons_succ] at e1 e2 e3 ⊢; rw [e1, e2, e3]
theorem ZH : ∀ n, Lib.repeatL [0] n = List.replicate n 0
  | 0 => rfl
  | n + 1 => by rw [Lib.repeatL, ZH n]; rfl
theorem Jbr (t : List UInt8) : ∃ k, t = List.replicate k 0 ++ Lib.trimLeftB t 0 := by
  induction t with
  | nil => exact ⟨0, rfl⟩
  | cons x t ih =>
    by_cases hx : x = 0
    · subst hx
      obtain ⟨k, hk⟩ := ih
      refine ⟨k + 1, ?_⟩; simp only [Lib.trimLeftB, if_true, List.replicate_succ, List.cons_append] at hk ⊢
      simpa using hk
    · exact ⟨0, by simp [Lib.trimLeftB, hx]⟩
theorem Jeo (l : List Nat) : (Ws l).length ≤ 32 := by
  obtain ⟨k, hk⟩ := Jbr (Zm l 32)
  have h := congrArg List.length hk
  rw [VO, List.length_append, List.length_replicate] at h
  unfold Ws; omega
theorem Jbs (n : Nat) : Xm [n, 0, 0, 0] = true := by simp [Xm]
theorem Jl8 {l : List Nat} (h : Xm l = true) : [l.getD 0 0, 0, 0, 0] = l := by
  simp only [Xm, decide_eq_true_eq] at h; exact h.symm
theorem Ju1 {n : Nat} (h : n < 18446744073709551616) : WOk [n, 0, 0, 0] := ⟨rfl, fun x hx => by simp at hx; rcases hx with rfl | rfl <;> simp_all⟩
def beN (n : Nat) : List UInt8 := Ws [n, 0, 0, 0]
theorem Jl9 {n t : Nat} (h : t < 8) : dg [n, 0, 0, 0] t = n / 256 ^ t % 256 := by
  have e : t / 8 = 0 := by omega
  have e2 : t % 8 = t := by omega
  simp only [dg, e, e2, List.getD_cons_zero]; rw [show (256 : Nat) = 2 ^ 8 from rfl, ← Nat.pow_mul, Nat.mul_comm]
theorem Ju2 {n t : Nat} (h : 8 ≤ t) (h2 : t < 32) : dg [n, 0, 0, 0] t = 0 := by
  have hj : t / 8 = 1 ∨ t / 8 = 2 ∨ t / 8 = 3 := by omega
  rcases hj with e | e | e <;> simp [dg, e]
theorem Jgh {n k : Nat} (hn : n < 18446744073709551616) (hk : k ≤ 8) : (beN n).length ≤ k ↔ n < 256 ^ k := by
  unfold beN Ws
  rw [jr]
  constructor
  · intro h
    have h' : ∀ t, k ≤ t → t < 8 → n / 256 ^ t % 256 = 0 := fun t h1 h2 => by rw [← Jl9 h2]; exact h t h1 (by omega)
    have key : ∀ j, k ≤ j → j ≤ 8 → n < 256 ^ j → n < 256 ^ k := by
      intro j
      induction j with
      | zero => intro h1 _ h3; rw [show k = 0 from by omega]; exact h3
      | succ j ih =>
        intro h1 h2 h3
        by_cases e : k = j + 1
        · rw [e]; exact h3
        · refine ih (by omega) (by omega) ?_
          have h4 := h' j (by omega) (by omega)
          have h5 : n / 256 ^ j < 256 := by
            rw [Nat.div_lt_iff_lt_mul (Nat.pow_pos (by decide))]; rw [Nat.pow_succ, Nat.mul_comm] at h3; exact h3
          rw [Nat.mod_eq_of_lt h5] at h4
          rcases Nat.div_eq_zero_iff.1 h4 with h6 | h6
          · have := Nat.pow_pos (n := j) (show 0 < 256 by decide); omega
          · exact h6
    exact key 8 hk (Nat.le_refl _) hn
  · intro h t h1 h2
    by_cases ht : t < 8
    · rw [Jl9 ht, Nat.div_eq_of_lt (Nat.lt_of_lt_of_le h (Nat.pow_le_pow_right (by decide) h1))]
    · exact Ju2 (by omega) h2
theorem Jma {n : Nat} (hn : n < 18446744073709551616) : Pure Tryz.prog 232 [uV n].toArray (.string (bs (beN n))) := by
  refine JC Tryz.func232 rfl rfl fun w => ?_; refine sR fun _ hK1 => Ji rfl (nK hK1 ?_); refine sR fun _ hK2 => ?_; refine Ji rfl (JD rfl rfl rfl Jle (XZ n) (JD rfl rfl rfl (enters_of Tryz.func201 (by kernel_rfl) rfl) (jn (Ju1 hn)) ?_)); refine Ji rfl (nK hK2 ?_); refine Jb (pT rfl rfl rfl fun w1 hs1 => ?_); exact ⟨rfl, hs1.keep⟩
def yI (n : Nat) (w : Int) : List UInt8 × Int := if w < 1 ∨ w > 8 ∨ ((beN n).length : Int) > w then ([], 1) else (ji n w.toNat, 0)
def ZI (p : List UInt8 × Int) : Value := .tuple #[.string (bs p.1), .int .i64 p.2]
theorem Jq7 {n i k : Nat} (h : i < k) : ((ji n i ++ List.replicate (k - i) 0).map bV).set i (bV (UInt8.ofNat (n / 2 ^ (8 * i) % 256))) = (ji n (i + 1) ++ List.replicate (k - (i + 1)) 0).map bV := by
  rw [← List.map_set, List.set_append_right _ _ (by rw [VP]; exact Nat.le_refl _), VP, Nat.sub_self, show k - i = (k - (i + 1)) + 1 from by omega, List.replicate_succ, List.set_cons_zero, Ja9, List.append_assoc]; rw [show (256 : Nat) ^ i = 2 ^ (8 * i) from by rw [show (256 : Nat) = 2 ^ 8 from rfl, ← Nat.pow_mul]]
  rfl
theorem Jbt {n : Nat} (hn : n < 18446744073709551616) (k : Int) : Pure Tryz.prog 166 [uV n, .int .i64 k].toArray (ZI (yI n k)) := by
  refine JC Tryz.func166 rfl rfl fun w => ?_; refine sR fun _ hK1 => LS 2 [] rfl rfl (nK hK1 ?_); refine sQ fun _ hK2 => sR fun _ hK3 => ?_; refine LS 3 [] rfl rfl ?_
  refine JA 10 rfl (fun hb4 => ?_) (fun hb4 => ?_) <;> (try simp only [ZZ] at hb4) <;> first | (refine Ji rfl ?_) | (refine LK rfl ?_)
  all_goals refine LW 3 [] rfl rfl ?_
  all_goals first
    | (refine LK rfl ?_)
    | (refine JA 14 rfl (fun hb6 => ?_) (fun hb6 => ?_) <;> (try simp only [ZZ] at hb6) <;> first | (refine Ji rfl ?_) | (refine LK rfl ?_))
  all_goals first
    | (refine JD rfl rfl rfl (enters_of Tryz.func232 (by kernel_rfl) rfl) (Jma hn) ?_)
    | (refine LK rfl ?_)
  all_goals first
    | (refine LR rfl (JT rfl rfl) ?_)
    | (refine LK rfl ?_)
  all_goals refine LW 3 [] rfl rfl ?_
  all_goals refine Jg ?_
  all_goals (
   refine hK3 ?_; refine Jc rfl (fun h11 => ?_) (fun h11 => ?_)
   try simp only [ZZ] at h11
   refine sR fun _ hK12 => LS 2 [] rfl rfl (nK hK12 ?_); refine Jb (Jd ?_); refine Jv rfl rfl (.cons (J4 rfl) (.cons (J4 rfl) .nil)) (fun w1 hs1 => ?_); refine ⟨?_, hs1.keep⟩; rw [show yI n k = ([], 1) from by unfold yI; rw [if_pos (by omega)]]; rfl
   · try exact Bool.noConfusion h11
     all_goals try simp only [ZZ] at h11
     all_goals (
      refine Jf (hK2 ?_); refine sQ fun _ hK13 => ?_
      have hk1 : 1 ≤ k ∧ k ≤ 8 ∧ ((beN n).length : Int) ≤ k := by omega
      have hlr : yI n k = (ji n k.toNat, 0) := by unfold yI; rw [if_neg (by omega)]
      obtain ⟨k, rfl⟩ : ∃ j : Nat, k = j := ⟨k.toNat, by omega⟩
      rw [Int.toNat_natCast] at hlr; refine Ja (Ji rfl (Wz (n := k) (b := 1) rfl rfl rfl rfl rfl rfl rfl rfl rfl (by omega) (by omega) fun r2 => ?_)); refine Ji rfl (nK hK13 ?_); refine sQ fun _ hK14 => sR fun _ hK15 => ?_; refine Ji rfl (LR rfl (KI rfl rfl) (Ji rfl ?_)); refine nK hK15 ?_; refine Ju (JG (σ := Nat) (fun i => i ≤ k) (fun i => [(0, uV n), (6, .slice (some ⟨r2, 0, none⟩) k k), (24, .int .i64 (k : Int)), (25, .int .i64 (i : Int))]) (fun i => [(r2, .cells ((ji n i ++ List.replicate (k - i) 0).map bV).toArray 5 (0, 0))]) (fun _ _ _ => True) (fun i => k - i) 0 (Nat.zero_le _) (.cons rfl (.cons rfl (.cons rfl (.cons rfl .nil)))) (by simp [ji, bV]) (fun _ _ h => h) ?_); intro i hi; refine sR fun _ hK16 => JZ rfl (nK hK16 ?_); refine sQ fun _ hK17 => ?_; refine Jc rfl (fun h18 => ?_) (fun h18 => ?_)
      try simp only [ZZ] at h18
      refine Jf (hK17 ?_); refine sB fun _ hK19 => sR fun _ hK20 => ?_; refine LS 2 [] rfl rfl (nK hK20 ?_); refine Ja (LS 5 [] rfl rfl ?_); refine Jy (show _ = Value.int .i64 ((8 * i : Nat) : Int) from congrArg (Value.int .i64) (by rw [wrap_i64 (by omega) (by omega)]; omega)) ?_; refine LR rfl (vL (n := 8 * i) rfl rfl (by omega) (show _ ≤ 64 from by omega) (by omega) (ve _ _)) ?_; refine JZ rfl (Jy (show _ = bV (UInt8.ofNat (n / 2 ^ (8 * i) % 256)) from jg _) (LR rfl (Ki (j := i) (m := 1) (off' := i) rfl rfl rfl rfl (by omega) (by omega) (by omega)) ?_)); refine KS (k := 0) (off := i) (xs := (ji n i ++ List.replicate (k - i) 0).map bV) (ys := (ji n (i + 1) ++ List.replicate (k - (i + 1)) 0).map bV) rfl rfl rfl rfl rfl rfl (by simp [VP]; omega) (Jq7 (by omega)) rfl ?_; refine Jg (Jj (hK19 ?_)); refine Ja (JZ rfl (Jt (by omega) (by omega) ?_)); refine Ji rfl (Jg (J5 ?_)); exact J1 (i + 1) (by omega) (by omega) (.cons rfl (.cons rfl (.cons rfl (.cons rfl .nil)))) (List.Sublist.refl _) (fun _ _ h => h)
      try simp only [ZZ] at h18
      refine JE (Jl ?_); refine Jl (J0 (hK14 ?_)); refine sQ fun _ hK21 => ?_
      have hik : k = i := by omega
      subst hik; refine Ja (Ji rfl ?_); refine LR rfl (QH (b := ji n k) (row := some (r2, k, [])) (e := 5) (show _ = some (JF (ji n k).length (some (r2, k, []))) from by rw [VP]; rfl) ⟨by simp [VP], by simp [VP]⟩ (fun p hp => .inl (by rw [List.mem_singleton.1 hp]; simp)) rfl rfl rfl) ?_; refine LS 2 [] rfl rfl (nK hK21 ?_); refine Jb ?_; refine Jv rfl rfl (.cons (J4 rfl) (.cons (J4 rfl) .nil)) (fun w1 hs1 => ?_); refine ⟨?_, hs1.keep⟩; rw [hlr]; rfl
      skip)
   skip)
end Go.Proofs.YteceenlfegnigaaGreatDoor
