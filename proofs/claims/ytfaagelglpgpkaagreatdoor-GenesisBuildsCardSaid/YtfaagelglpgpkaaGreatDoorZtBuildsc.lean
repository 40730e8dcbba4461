import Derived.Test.YtfaagelglpgpkaaGreatDoorZtBuildsb
import Derived.Test.YtfaagelglpgpkaaGreatDoorProg
import Derived.Laws.Externs
import Derived.Shelf.Spec.BitsCarry
import Derived.Shelf.Strings.Builder1
import Derived.Shelf.Strings.Builder2
import Derived.Shelf.Strings.Trim
import Derived.Shelf.Small.Utf8
import Derived.Shelf.Small.Bits
import Derived.Shelf.Small.Strs
import Derived.Shelf.Small.Wraps
import Derived.Shelf.Strings.BuilderF
import Derived.Shelf.Strings.BuilderK
import Derived.Shelf.Strings.Builder2Cap
import Derived.Shelf.Strconv.Itoa0
import Derived.Shelf.Strings.Search1
import Derived.Shelf.Sort.Plain
import Derived.Shelf.Strings.Prefix
import Derived.Shelf.Unicode.Decode
import Derived.Shelf.Strings.Runes
import Derived.Shelf.Strings.AsciiSet
import Derived.Shelf.Bits.Mul64
import Derived.Shelf.Strings.Repeat
import Derived.Shelf.Unicode.DecodeSlow
import Derived.Shelf.Unicode.DecodeAny
import Derived.Shelf.Strings.BuilderCap
import Derived.Shelf.Slices.Turned
import Derived.Ground.Names2Prog
import Derived.Shelf.Slices.Clone
import Derived.Shelf.Slices.SearchI
import Derived.Shelf.Slices.In.SortNone
import Derived.Ground.SlgnProg
import Derived.Shelf.SlicesE.Clone
set_option maxRecDepth 100000
namespace Go.SL
set_option linter.all false
open Go Go.RowKit Go.Shelf
open Go.Proofs (Enters enters_of)
def Joj : Kw → Nat → Option Value
 | [], _ => none
 | (j, v) :: l, i => match Nat.beq i j with | true => some v | false => Joj l i
def Jz9 (ops : List Oper) (j : Nat) : Option Nat := match WJ ops j with | some o => o.dst | none => none
def Jf2 (ops : List Oper) (tv : Kw) : List Edge → Kw
 | [] => []
 | e :: es => match Jz9 ops e.on, Joj tv e.on with | some i, some v => (i, v) :: Jf2 ops tv es | _, _ => Jf2 ops tv es
def Jww (ops : List Oper) (tv : Kw) (j : Nat) : Kw := match WJ ops j with | some o => Jf2 ops tv (o.after.toList.filter fun e => Region.binds .any e) | none => []
inductive BoomOk (c : Cx) (d : List Deferred) (l : Kw) (L : Jm) (X : XP) (ops : List Oper) (tv : Kw) : Kw → Prop
  | nil : BoomOk c d l L X ops tv []
  | cons {j : Nat} {v : Value} {o : Oper} {ds rest : Kw} (h1 : WJ ops j = some o) (h2 : Jww ops tv j = ds) (h3 : J9 c d (ds ++ l) L X o v) (h : BoomOk c d l L X ops tv rest) : BoomOk c d l L X ops tv ((j, v) :: rest)
theorem BoomOk.get {c : Cx} {d : List Deferred} {l : Kw} {L : Jm} {X : XP} {ops : List Oper} {tv : Kw} : ∀ {tw : Kw}, BoomOk c d l L X ops tv tw → ∀ p ∈ tw, ∃ o, WJ ops p.1 = some o ∧ J9 c d (Jww ops tv p.1 ++ l) L X o p.2
 | _, .nil, p, h => by cases h
 | _, .cons h1 h2 h3 h, p, hp => by
  rcases List.mem_cons.1 hp with rfl | hp
  ·exact ⟨_, h1, h2 ▸ h3⟩
  ·exact h.get p hp
end Go.SL
namespace Go.Proofs.YtfaagelglpgpkaaGreatDoor
set_option linter.all false
open Go.SL Go.RowKit Go.Shelf
theorem Jf3 : Go.Proofs.Enters Tryz.prog 11 := Go.Proofs.enters_of Tryz.func11 (by kernel_rfl) rfl
theorem Jxy : Go.Proofs.Enters Tryz.prog 19 := Go.Proofs.enters_of Tryz.func19 (by kernel_rfl) rfl
theorem Jxz : Go.Proofs.Enters Tryz.prog 20 := Go.Proofs.enters_of Tryz.func20 (by kernel_rfl) rfl
theorem Jtw : Go.Proofs.Enters Tryz.prog 22 := Go.Proofs.enters_of Tryz.func22 (by kernel_rfl) rfl
theorem Jok : Go.Proofs.Enters Tryz.prog 33 := Go.Proofs.enters_of Tryz.func33 (by kernel_rfl) rfl
theorem Jx0 : Go.Proofs.Enters Tryz.prog 35 := Go.Proofs.enters_of Tryz.func35 (by kernel_rfl) rfl
theorem Jtx : Go.Proofs.Enters Tryz.prog 44 := Go.Proofs.enters_of Tryz.func44 (by kernel_rfl) rfl
theorem Jf4 : Go.Proofs.Enters Tryz.prog 50 := Go.Proofs.enters_of Tryz.func50 (by kernel_rfl) rfl
theorem Jdf : Go.Proofs.Enters Tryz.prog 59 := Go.Proofs.enters_of Tryz.func59 (by kernel_rfl) rfl
theorem Jty : Go.Proofs.Enters Tryz.prog 88 := Go.Proofs.enters_of Tryz.func88 (by kernel_rfl) rfl
theorem Jx1 : Go.Proofs.Enters Tryz.prog 96 := Go.Proofs.enters_of Tryz.func96 (by kernel_rfl) rfl
theorem Jtz : Go.Proofs.Enters Tryz.prog 98 := Go.Proofs.enters_of Tryz.func98 (by kernel_rfl) rfl
theorem Jh7 : Go.Proofs.Enters Tryz.prog 100 := Go.Proofs.enters_of Tryz.func100 (by kernel_rfl) rfl
theorem Jol : Go.Proofs.Enters Tryz.prog 101 := Go.Proofs.enters_of Tryz.func101 (by kernel_rfl) rfl
theorem Jh8 : Go.Proofs.Enters Tryz.prog 102 := Go.Proofs.enters_of Tryz.func102 (by kernel_rfl) rfl
theorem qR : Go.Proofs.Enters Tryz.prog 103 := Go.Proofs.enters_of Tryz.func103 (by kernel_rfl) rfl
theorem Jom : Go.Proofs.Enters Tryz.prog 131 := Go.Proofs.enters_of Tryz.func131 (by kernel_rfl) rfl
theorem Jdg : Go.Proofs.Enters Tryz.prog 151 := Go.Proofs.enters_of Tryz.func151 (by kernel_rfl) rfl
theorem Jh9 : Go.Proofs.Enters Tryz.prog 156 := Go.Proofs.enters_of Tryz.func156 (by kernel_rfl) rfl
theorem Jon : Go.Proofs.Enters Tryz.prog 158 := Go.Proofs.enters_of Tryz.func158 (by kernel_rfl) rfl
theorem Joo : Go.Proofs.Enters Tryz.prog 163 := Go.Proofs.enters_of Tryz.func163 (by kernel_rfl) rfl
theorem Jia : Go.Proofs.Enters Tryz.prog 168 := Go.Proofs.enters_of Tryz.func168 (by kernel_rfl) rfl
theorem zv : Go.Proofs.Enters Tryz.prog 179 := Go.Proofs.enters_of Tryz.func179 (by kernel_rfl) rfl
theorem Jib : Go.Proofs.Enters Tryz.prog 180 := Go.Proofs.enters_of Tryz.func180 (by kernel_rfl) rfl
theorem Jop : Go.Proofs.Enters Tryz.prog 183 := Go.Proofs.enters_of Tryz.func183 (by kernel_rfl) rfl
theorem Jic : Go.Proofs.Enters Tryz.prog 188 := Go.Proofs.enters_of Tryz.func188 (by kernel_rfl) rfl
theorem Jid : Go.Proofs.Enters Tryz.prog 198 := Go.Proofs.enters_of Tryz.func198 (by kernel_rfl) rfl
theorem Jdh : Go.Proofs.Enters Tryz.prog 212 := Go.Proofs.enters_of Tryz.func212 (by kernel_rfl) rfl
theorem Jie : Go.Proofs.Enters Tryz.prog 217 := Go.Proofs.enters_of Tryz.func217 (by kernel_rfl) rfl
theorem Joq : Go.Proofs.Enters Tryz.prog 219 := Go.Proofs.enters_of Tryz.func219 (by kernel_rfl) rfl
theorem Jor : Go.Proofs.Enters Tryz.prog 222 := Go.Proofs.enters_of Tryz.func222 (by kernel_rfl) rfl
theorem Jif : Go.Proofs.Enters Tryz.prog 237 := Go.Proofs.enters_of Tryz.func237 (by kernel_rfl) rfl
theorem Jig : Go.Proofs.Enters Tryz.prog 239 := Go.Proofs.enters_of Tryz.func239 (by kernel_rfl) rfl
theorem Jih : Go.Proofs.Enters Tryz.prog 240 := Go.Proofs.enters_of Tryz.func240 (by kernel_rfl) rfl
theorem Jos : Go.Proofs.Enters Tryz.prog 241 := Go.Proofs.enters_of Tryz.func241 (by kernel_rfl) rfl
theorem Jot : Go.Proofs.Enters Tryz.prog 242 := Go.Proofs.enters_of Tryz.func242 (by kernel_rfl) rfl
theorem Jii : Go.Proofs.Enters Tryz.prog 270 := Go.Proofs.enters_of Tryz.func270 (by kernel_rfl) rfl
theorem Jou : Go.Proofs.Enters Tryz.prog 276 := Go.Proofs.enters_of Tryz.func276 (by kernel_rfl) rfl
theorem Jij : Go.Proofs.Enters Tryz.prog 281 := Go.Proofs.enters_of Tryz.func281 (by kernel_rfl) rfl
theorem Jik : Go.Proofs.Enters Tryz.prog 282 := Go.Proofs.enters_of Tryz.func282 (by kernel_rfl) rfl
theorem Jov : Go.Proofs.Enters Tryz.prog 284 := Go.Proofs.enters_of Tryz.func284 (by kernel_rfl) rfl
theorem Jow : Go.Proofs.Enters Tryz.prog 302 := Go.Proofs.enters_of Tryz.func302 (by kernel_rfl) rfl
theorem Jil : Go.Proofs.Enters Tryz.prog 313 := Go.Proofs.enters_of Tryz.func313 (by kernel_rfl) rfl
theorem Jim : Go.Proofs.Enters Tryz.prog 334 := Go.Proofs.enters_of Tryz.func334 (by kernel_rfl) rfl
theorem Yf {t : Ty} : V4 t = true ↔ chk t 0 = 0 ∧ Xh t = true := by unfold V4; simp
theorem YV {a b c d a' b' c' d' : Nat} {l l' : List Bool} {pb pb' pi pi' : Pl} {m m' : List Vl} {k k' : Int} : Xi (.mk a b c d l pb m pi k) (.mk a' b' c' d' l' pb' m' pi' k') = (decide ([a, b, c, d] = [a', b', c', d']) && decide (k = k') && decide (l = l') && VG m m') := by
 rw [Xi]; rfl
theorem Jt0 {l l' : List Bool} {i : Nat} {x y : Bool} (h1 : l[i]? = some x) (h2 : l'[i]? = some y) (h : x ≠ y) : l ≠ l' := fun e => by subst e; rw [h1] at h2; exact h (Option.some.inj h2)
theorem Jt1 {l l' : List Bool} {i : Nat} (hl : l.length = l'.length) (hi : l.length ≤ i) (h : ∀ j, j < i → l[j]? = l'[j]?) : l = l' := by
 apply List.ext_getElem?
 intro j
 by_cases hj : j < i
 ·exact h j hj
 ·rw [List.getElem?_eq_none (by omega), List.getElem?_eq_none (by omega)]
theorem Jt2 {m m' : List Vl} {i : Nat} {x y : Vl} (h1 : m[i]? = some x) (h2 : m'[i]? = some y) (h : Xi x y = false) : VG m m' = false := by
 cases hs : VG m m' with
 | false => rfl
 | true => rw [(Wf.1 hs).2 i x y h1 h2] at h; cases h
theorem Jt3 {m m' : List Vl} (h : m.length ≠ m'.length) : VG m m' = false := by
 cases hs : VG m m' with
 | false => rfl
 | true => exact absurd (Wf.1 hs).1 h
theorem VK (n : Nat) : Pure Tryz.prog 103 [uV n].toArray (wV [n, 0, 0, 0]) := by
 refine Jl Tryz.func103 rfl rfl fun w => ?_; refine JD ?_; refine Jq 2 rfl ?_; refine LN rfl fun r1 => ?_; refine JJ 5 rfl ?_; refine LR rfl (Jt (r := [_, _, _, _]) rfl rfl) ?_
 refine LT 0 rfl rfl ?_; refine Jx 3 rfl ?_; refine Jg rfl rfl (.cons (Jr (vs := [_, _, _, _]) rfl (kn 0 rfl) rfl rfl) .nil) (fun w1 hs1 => ?_); exact ⟨rfl, hs1.keep⟩
theorem Jt4 {l : List Nat} (hl : WOk l) {i : Nat} (hi : i < 32) : Pure Tryz.prog 210 [wV l, .int .i64 (i : Int)].toArray (.int .i64 (dg l i : Nat)) := by
 refine Jl Tryz.func210 rfl rfl fun w => ?_; refine JD ?_
 have hg := hl.get (i / 8)
 refine Jq 2 rfl ?_; refine JR (cs := (l.map uV).toArray) rfl rfl rfl rfl fun r1 => ?_; refine JJ 7 rfl ?_; refine Je8 (by omega) (by omega) (by omega) ?_; refine LR rfl (JP (j := i / 8) (m := 1) (off' := i / 8) rfl rfl rfl rfl (by omega) (by omega) (by omega)) ?_; refine LR rfl (KH rfl (kn 0 rfl) rfl (Qj (by rw [hl.1]; omega))) ?_; refine LS 2 [] rfl rfl ?_; refine Jmw (by omega) ?_; refine VQ rfl (Jc (by omega) (by omega) ?_); refine VQ rfl (VE (by omega) (by omega) (LR rfl (qE (n := i % 8 * 8) rfl rfl (by omega) (show _ ≤ 64 from by omega) (by omega) (jq _ _)) ?_)); refine VQ rfl (J3 (show _ = Value.int .u64 ((dg l i : Nat) : Int) from congrArg (Value.int .u64) (Wm _ 256)) (VQ rfl ?_)); refine J3 (show _ = Value.int .i64 ((dg l i : Nat) : Int) from congrArg (Value.int .i64) (wrap_i64 (by omega) (by have := Jhj l i; omega))) ?_; refine Jx 4 rfl ?_; refine pT rfl rfl rfl fun w1 hs1 => ?_; exact ⟨rfl, hs1.keep⟩
theorem W3 {l : List Nat} (hl : WOk l) : Pure Tryz.prog 151 [wV l].toArray (.string (bs (Yq l 32))) := by
 refine Jl Tryz.func151 rfl rfl fun w => ?_; refine JD ?_; refine Jq 2 rfl ?_; refine JR (cs := (l.map uV).toArray) rfl rfl rfl rfl fun r1 => ?_; refine JI 15 rfl ?_; refine Jy (σ := Nat × List Value × QD) (fun s => s.1 ≤ 32 ∧ s.2.1 = ((Yq l 32).take s.1).map bV ∧ rowOk 1 s.1 s.2.1 s.2.2) (fun s => [(1, .pointer (some ⟨r1, 0, none⟩)), (3, J8 s.1 s.2.2), (4, .int .i64 (31 - (s.1 : Int)))]) (fun s => (r1, .cells (l.map uV).toArray 27 (0, 0)) :: JH 5 s.2.1 s.2.2) (fun _ _ _ => True) (fun s => 32 - s.1) (0, [], none) ⟨by decide, rfl, ⟨rfl, rfl⟩⟩ (lK rfl) (List.Sublist.refl _) (fun _ _ h => h) ?_; rintro ⟨m, xs, row⟩ ⟨hm, hxs, hrow⟩; simp only at hm hxs hrow ⊢; refine JK 7 rfl ?_; refine cD (fun g => ?_) fun g => ?_
 refine Jq 6 rfl ?_; refine LR rfl (Jd (xs := l.map uV) (n := 4) rfl (kn 0 rfl) rfl rfl (by rw [List.length_map, hl.1])) ?_; refine Q1 rfl (J3 (show _ = Value.int .i64 ((31 - m : Nat) : Int) from congrArg (Value.int .i64) (by omega)) (Jn rfl rfl rfl (enters_of Tryz.func210 (by kernel_rfl) rfl) (Jt4 hl (i := 31 - m) (by omega)) ?_)); refine VQ rfl (J3 (Js9 (Jhj l (31 - m))) ?_); refine J4 (vs := [_]) (zs := [_]) (r := [_]) rfl rfl rfl rfl rfl rfl rfl rfl rfl (by show (madeCells #[_] _).toList = _; rw [QJ]; exact rfl) rfl fun r1 => ?_; refine JM (L0 := [_, _]) (xs := xs) (row := row) (n := m) (sz := 1) (b := 1) (news := [_]) (List.perm_append_comm (l₁ := [_, _])) rfl rfl rfl rfl (kn 0 rfl) rfl rfl rfl rfl rfl (by decide) rfl rfl rfl (by decide) hrow (by omega) (by omega) fun ra cap sp hra => ?_; refine JJ 7 rfl ?_; refine Jc (by omega) (by omega) ?_; refine Jx 2 rfl ?_; refine Jv ?_; refine Qi [2, 0] (L' := [_, _]) (by decide) rfl ?_; exact Jo (m + 1, xs ++ [bV (UInt8.ofNat (dg l (31 - m)))], some (ra, cap, sp)) ⟨by simp only; omega, by simp only; rw [Jnc l (by omega), List.map_append, hxs]; rfl, hra⟩ (by simp only; omega) (.cons rfl (.cons rfl (.cons (congrArg (fun z => some (Value.int .i64 z)) (by simp only; omega)) .nil))) (List.Sublist.refl _) (fun _ _ h => h)
 ·refine JK 5 rfl ?_
  have hm32 : m = 32 := by omega
  subst hm32; rw [List.take_of_length_le (Nat.le_of_eq (Vq l 32))] at hxs; subst hxs; refine Jq 3 rfl ?_; refine LR rfl (KS (b := Yq l 32) (row := row) (e := 5) rfl hrow (fun p hp => .inl (List.mem_cons_of_mem _ hp)) rfl rfl rfl) ?_; refine Jx 4 rfl ?_; refine pT rfl rfl rfl fun w1 hs1 => ?_; exact ⟨rfl, hs1.keep⟩
theorem Jox {l : List Nat} {i : Nat} (hi : i < 32) : ((List.replicate (32 - i) (0 : UInt8) ++ Yq l i).map bV).set (31 - i) (bV (UInt8.ofNat (dg l i))) = (List.replicate (32 - (i + 1)) 0 ++ Yq l (i + 1)).map bV := by
 rw [← List.map_set, show 32 - i = (31 - i) + 1 from by omega, Js7, show 32 - (i + 1) = 31 - i from by omega]
 rfl
theorem QU {l : List Nat} (hl : WOk l) : Pure Tryz.prog 59 [wV l].toArray (.string (bs (Yq l 32))) := by
 refine Jl Tryz.func59 rfl rfl fun w => ?_; refine JD ?_; refine Jq 2 rfl ?_; refine JR (cs := (l.map uV).toArray) rfl rfl rfl rfl fun r1 => ?_; refine JJ 5 rfl ?_; refine VA (n := 32) (b := 1) rfl rfl rfl rfl rfl rfl rfl rfl rfl (by decide) (by decide) fun r2 => ?_; refine JI 10 rfl ?_; refine Jy (σ := Nat) (fun i => i ≤ 32) (fun i => [(1, .pointer (some ⟨r1, 0, none⟩)), (3, .slice (some ⟨r2, 0, none⟩) 32 32), (6, .int .i64 (i : Int))]) (fun i => [(r2, .cells ((List.replicate (32 - i) (0 : UInt8) ++ Yq l i).map bV).toArray 5 (0, 0)), (r1, .cells (l.map uV).toArray 27 (0, 0))]) (fun _ _ _ => True) (fun i => 32 - i) 0 (Nat.zero_le _) (lK rfl) (List.Sublist.refl _) (fun _ _ h => h) ?_; intro i hi; refine JK 6 rfl ?_; refine cD (fun g => ?_) fun g => ?_
 refine Jq 14 rfl ?_; refine Jc (by omega) (by omega) ?_; refine LS 2 [] rfl rfl ?_; refine Je8 (by omega) (by omega) (by omega) ?_; refine LR rfl (JP (j := i / 8) (m := 1) (off' := i / 8) rfl rfl rfl rfl (by omega) (by omega) (by omega)) ?_; refine LR rfl (KH rfl (kn 1 rfl) rfl (Qj (by rw [hl.1]; omega))) ?_; refine LS 2 [] rfl rfl ?_; refine Jmw (by omega) ?_; refine VQ rfl (Jc (by omega) (by omega) (LR rfl (qE (n := i % 8 * 8) rfl rfl (by omega) (show _ ≤ 64 from by omega) (by omega) (jq _ _)) ?_)); refine VQ rfl (J3 (show _ = bV (UInt8.ofNat (dg l i)) from vY _) (LR rfl (JF (j := 31 - i) (m := 1) (off' := 31 - i) rfl rfl rfl rfl (by omega) (by omega) (by omega)) ?_)); refine Qn (k := 0) (off := 31 - i) (xs := (List.replicate (32 - i) (0 : UInt8) ++ Yq l i).map bV) (ys := (List.replicate (32 - (i + 1)) 0 ++ Yq l (i + 1)).map bV) rfl rfl rfl rfl rfl rfl (by simp [Vq]; omega) (Jox (by omega)) rfl ?_; refine JJ 5 rfl ?_; refine Jc (by omega) (by omega) ?_; refine Jx 2 rfl ?_; refine Jv ?_; exact Jo (i + 1) (by omega) (by omega) (lK rfl) (List.Sublist.refl _) (fun _ _ h => h)
 ·refine JK 5 rfl ?_
  have hi32 : i = 32 := by omega
  subst hi32; refine Jq 3 rfl ?_; refine LR rfl (KS (b := Yq l 32) (row := some (r2, 32, [])) (e := 5) rfl ⟨rfl, rfl⟩ (fun p hp => .inl (by rw [List.mem_singleton.1 hp]; exact List.mem_cons_self)) rfl rfl rfl) ?_; refine Jx 4 rfl ?_; refine pT rfl rfl rfl fun w1 hs1 => ?_; exact ⟨rfl, hs1.keep⟩
theorem Jt5 {a b : List Nat} (ha : a.length = 4) (hb : b.length = 4) : PureE (α := Nat × Nat) Tryz.prog 378 [wV a, wV b].toArray (fun p => .func (.func 390) #[] #[.pointer (some ⟨p.1, 0, none⟩), .pointer (some ⟨p.2, 0, none⟩)])
  (fun p => [(p.2, .cells (b.map uV).toArray 27 (0, 0)), (p.1, .cells (a.map uV).toArray 27 (0, 0))]) := by
 refine Kf Tryz.func378 rfl rfl fun w => ?_; refine JD ?_; refine Jq 2 rfl ?_; refine JR (cs := (a.map uV).toArray) rfl rfl rfl rfl fun r1 => ?_; refine JR (cs := (b.map uV).toArray) rfl rfl rfl rfl fun r2 => ?_; refine JJ 5 rfl ?_; refine LR rfl (JN rfl rfl) ?_; refine Jx 4 rfl ?_; refine pT rfl rfl rfl fun w1 hs1 => ?_; exact ⟨(r1, r2), rfl, hs1⟩
def Joy (a b : List Nat) (i : Nat) : List Value := [.int .i64 (i : Int), .agg [.int .u64 ((a.getD i 0 : Nat) : Int), .int .u64 ((b.getD i 0 : Nat) : Int)].toArray]
theorem Jt6 {a b : List Nat} (ha : a.length = 4) (hb : b.length = 4) (p1 p2 : Nat) : jk Tryz.prog 390 [.pointer (some ⟨p1, 0, none⟩), .pointer (some ⟨p2, 0, none⟩)]
    [(p2, .cells (b.map uV).toArray 27 (0, 0)), (p1, .cells (a.map uV).toArray 27 (0, 0))] 0 (nxN (Joy a b) 4) (yE 4) := by
  refine Vf Tryz.func390 rfl rfl fun q xids w2 XI XF hY => ?_; refine JD ?_; refine JK 6 rfl ?_; refine Jy (σ := Nat) (fun i => i ≤ 4) (fun i => [(0, .func (.yield q) #[] #[]), (1, .pointer (some ⟨p1, 0, none⟩)), (2, .pointer (some ⟨p2, 0, none⟩)), (5, .int .i64 (i : Int))]) (fun _ => []) (fun i => XI i) (fun i => 4 - i) 0 (Nat.zero_le _) (lK rfl) (List.nil_sublist _) (fun _ _ h => h) ?_; intro i hi; refine JK 6 rfl ?_; refine cD (fun g => ?_) fun g => ?_
  · refine JK 11 rfl ?_; refine JE 9 (by kernel_rfl) (by kernel_rfl) ?_; refine Ja rfl rfl rfl (Jf rfl) ?_; refine Ja rfl rfl rfl (Jf rfl) ?_; refine Ja rfl rfl rfl (Jf rfl) ?_; refine Ja rfl rfl rfl (JP (j := i) (m := 1) (off' := i) rfl rfl rfl rfl rfl (by omega) (by omega)) ?_; refine Ja rfl rfl rfl (KH rfl (J5 (k := 1) rfl) rfl (Qj (by omega))) ?_; refine Ja rfl rfl rfl (Jf rfl) ?_; refine Ja rfl rfl rfl (JP (j := i) (m := 1) (off' := i) rfl rfl rfl rfl rfl (by omega) (by omega)) ?_; refine Ja rfl rfl rfl (KH rfl (J5 (k := 0) rfl) rfl (Qj (by omega))) ?_; refine Ja rfl rfl rfl (Jt (r := [_, _]) rfl rfl) ?_; refine JS ?_; refine V2 (XT := XI (i + 1)) (XF := XF) rfl rfl rfl rfl (hY i (Joy a b i) (i + 1) ⟨by omega, rfl, rfl⟩) ?_ ?_
    all_goals (
     refine Jx 2 rfl (XN 1 rfl ?_); refine J0 rfl (fun g => ?_) (fun g => ?_)
     · try exact Bool.noConfusion g
       all_goals try simp only [ZZ] at g
       all_goals (
        refine Kh 5 rfl ?_; refine Jg rfl rfl .nil (fun w1 hs1 => ?_)
        obtain ⟨xs1, hx1⟩ := hs1.now
        exact ⟨⟨_, rfl⟩, hs1.keep, .inr ⟨_, hx1⟩⟩
        skip)
     · try exact Bool.noConfusion g
       all_goals try simp only [ZZ] at g
       all_goals (
        refine Jq 5 rfl ?_; refine Jc (by omega) (by omega) ?_; refine Jx 2 rfl ?_; refine Jv ?_; exact Jo (i + 1) (by omega) (by omega) (lK rfl) (List.nil_sublist _) (fun _ _ h => h)
        skip)
     skip)
  · refine Kh 4 rfl ?_; refine Kv rfl rfl .nil (fun w1 hs1 => ?_)
    obtain ⟨xs1, hx1⟩ := hs1.now
    exact ⟨⟨_, rfl⟩, hs1.keep, .inl ⟨i, _, (by show i = 4; omega), hx1⟩⟩
theorem Jt7 {g : FuncId} {F G : Nat → Nat → Nat → Nat} (C : Car Tryz.prog g F G) {a b : List Nat} (ha : WOk a) (hb : WOk b) : Pure Tryz.prog 363 [wV a, wV b, .func (.func g) #[] #[]].toArray (Jzx (crR F G a b)) := by
 refine Jl Tryz.func363 rfl rfl fun w => ?_; refine JD ?_; refine Jq 2 rfl ?_; refine JR (cs := (a.map uV).toArray) rfl rfl rfl rfl fun r1 => ?_; refine JR (cs := (b.map uV).toArray) rfl rfl rfl rfl fun r2 => ?_; refine LN rfl fun r3 => ?_; refine Qu (cs := (zW.map uV).toArray) rfl rfl rfl rfl fun r4 => ?_; refine JJ 5 rfl ?_; refine Qu (cs := (zW.map uV).toArray) rfl rfl rfl rfl fun r5 => ?_; refine JJ 4 rfl ?_; refine LN rfl fun r6 => ?_
 refine LT 0 rfl rfl ?_; refine JJ 5 rfl ?_; refine LR rfl (Jd (xs := a.map uV) (n := 4) rfl (kn 5 rfl) rfl rfl (by rw [List.length_map, ha.1])) ?_; refine LR rfl (Jd (xs := b.map uV) (n := 4) rfl (kn 4 rfl) rfl rfl (by rw [List.length_map, hb.1])) ?_; refine JZ rfl rfl rfl (enters_of Tryz.func378 (by kernel_rfl) rfl) (Jt5 ha.1 hb.1) fun pp => ?_
 obtain ⟨p1, p2⟩ := pp
 change HL _ _ _ [(p2, _), (p1, _), (r6, _), (r5, _), (r4, _), (r3, _), (r2, _), (r1, _)] _ _ _ _; refine JI 3 rfl ?_; refine QX [3, 2, 0, 1, 4, 5, 6, 7] (by decide) rfl ?_; refine Xd (τ := Unit) (fun i (s : List Nat × Nat) => s = yF F G a b i ∧ i ≤ 4) (fun s => [(r5, .cells (s.1.map uV).toArray 27 (0, 0)), (r6, .cells #[uV s.2] 25 (0, 0))]) (fun _ _ => False) (fun _ => []) [(p2, _), (p1, _), (r4, _), (r3, _), (r2, _), (r1, _)] (zW, 0) rfl rfl (enters_of Tryz.func390 (by kernel_rfl) rfl) (Jt6 ha.1 hb.1 p1 p2) (by rintro _ _ _ ⟨_, rfl, _⟩; rfl) rfl (by simp) rfl ⟨rfl, by decide⟩ ?_ ?_ ?_
 rintro q Xr Xb w3 i _ _ s ⟨hi, rfl, rfl⟩ ⟨hs, -⟩ Kr hKr; refine inR ?_
 have hs4 : s.1.length = 4 := by rw [hs]; exact Zj F G a b i
 have hs1 : s.2 ≤ 1 := by rw [hs]; exact (Jng C ha hb i).2
 refine Jq 6 rfl ?_; refine LN rfl fun r1 => ?_
 refine LT 0 rfl rfl ?_; refine Jx 1 rfl ?_; refine hKr _ _ ?_; refine JD ?_; clear hKr; refine Jq 3 rfl ?_; refine LR rfl (Je rfl (J5 (k := 3) rfl) rfl rfl) ?_
 refine LR rfl (JP (j := 0) rfl rfl rfl rfl rfl (by first | decide | omega) (by first | (simp only [Nat.zero_add, Nat.reduceAdd, Nat.reduceMul, Nat.zero_mul, Nat.mul_one, Nat.add_zero]; exact rfl) | exact rfl)) ?_; refine LR rfl (Je rfl (kn 0 rfl) rfl rfl) ?_
 refine LR rfl (JP (j := 1) rfl rfl rfl rfl rfl (by first | decide | omega) (by first | (simp only [Nat.zero_add, Nat.reduceAdd, Nat.reduceMul, Nat.zero_mul, Nat.mul_one, Nat.add_zero]; exact rfl) | exact rfl)) ?_; refine LS 2 [0, 2] rfl rfl ?_; refine LR rfl (Js0 rfl rfl (fun w => C.run (a.getD i 0) (b.getD i 0) s.2 w hs1)) ?_; refine LS 3 [] rfl rfl ?_; refine LR rfl (JP (j := i) (m := 1) (off' := i) rfl rfl rfl rfl rfl (by omega) (by omega)) ?_; refine Qn (k := 1) (off := i) (xs := s.1.map uV) (ys := (s.1.set i (F (a.getD i 0) (b.getD i 0) s.2)).map uV) rfl rfl rfl rfl rfl rfl (by rw [List.length_map, hs4]; omega) (Xg rfl) rfl ?_
 refine LT 2 rfl rfl ?_; refine Jx 2 rfl ?_; refine Qi [1, 2] (L' := [_, _]) (by decide) rfl ?_; refine KD (yF F G a b (i + 1)) ⟨rfl, by omega⟩ ?_; simp only [yF, ← hs]
 rintro D i s hfi ⟨hs, -⟩
 have hi4 : i = 4 := hfi
 subst hi4
 have hs4 : s.1.length = 4 := by rw [hs]; exact Zj F G a b 4
 have hcr : crR F G a b = if s.2 = 0 then (s.1, 0) else (zW, 6) := by rw [hs]; rfl
 refine Gqc 9 [2] rfl rfl ?_; refine cD (fun h9 => ?_) fun h9 => ?_
 refine Jq 2 rfl ?_; refine LR rfl (Jt (r := [_, _, _, _]) rfl rfl) ?_
 refine LT 5 rfl rfl ?_; refine Jx 5 rfl ?_; refine KX (k := 0) rfl rfl ?_
 (refine Jg rfl rfl (.cons (Jr (vs := [_, _, _, _]) rfl (kn 5 rfl) rfl rfl) (.cons (Jj rfl) .nil)) (fun w1 hs1 => ?_)
  exact ⟨by rw [hcr, if_neg (by omega)]; rfl, hs1.keep⟩)
 refine Jq 4 rfl ?_; refine LR rfl (Jd (xs := s.1.map uV) (n := 4) rfl (kn 1 rfl) rfl rfl (by rw [List.length_map, hs4])) ?_; refine Jh (k := 5) (n := 4) (ys := s.1.map uV) rfl rfl rfl rfl rfl (by rw [List.length_map, hs4]) rfl (by simp [uV, Q3, List.all_map, List.all_eq_true]) rfl ?_; refine Jx 4 rfl ?_; refine KX (k := 0) rfl rfl ?_
 (refine Jg rfl rfl (.cons (Jr (vs := s.1.map uV) rfl (kn 5 rfl) rfl (by rw [List.length_map, hs4]; rfl)) (.cons (Jj rfl) .nil)) (fun w1 hs1 => ?_)
  exact ⟨by rw [hcr, if_pos (by omega)]; rfl, hs1.keep⟩)
 ·exact fun _ _ _ h => h.elim
theorem Jt8 : Car Tryz.prog 364 jr ZA := by
 refine ⟨fun x y c w hc => ?_, fun x y c => Nat.mod_lt _ (by decide), fun x y c hx hy hc => ?_⟩
 ·show (callFunc _ #[.int .u64 (x : Int), .int .u64 (y : Int), .int .u64 (c : Int)]).run _ _ = _
  rw [run_callFunc_extern Tryz.func364 (by kernel_rfl) (by kernel_rfl) (by kernel_rfl) (e := sub64Entry) (by kernel_rfl), run_sub64 x y c hc]
  rfl
 ·unfold ZA; split <;> omega
theorem Jf5 {a b : List Nat} (ha : WOk a) (hb : WOk b) : Pure Tryz.prog 336 [wV a, wV b].toArray (Jzx (yG a b)) := by
 refine Jl Tryz.func336 rfl rfl fun w => ?_; refine JD ?_; refine Jq 2 rfl ?_; refine JR (cs := (a.map uV).toArray) rfl rfl rfl rfl fun r1 => ?_; refine JR (cs := (b.map uV).toArray) rfl rfl rfl rfl fun r2 => ?_; refine Qu (cs := (zW.map uV).toArray) rfl rfl rfl rfl fun r3 => ?_; refine JJ 5 rfl ?_; refine LR rfl (Jd (xs := a.map uV) (n := 4) rfl (kn 2 rfl) rfl rfl (by rw [List.length_map, ha.1])) ?_; refine LR rfl (Jd (xs := b.map uV) (n := 4) rfl (kn 1 rfl) rfl rfl (by rw [List.length_map, hb.1])) ?_; refine Jn rfl rfl rfl (enters_of Tryz.func363 (by kernel_rfl) rfl) (Jt7 Jt8 ha hb) ?_; refine LS 2 [] rfl rfl ?_; refine Jh (k := 0) (n := 4) (ys := (yG a b).1.map uV) rfl rfl rfl rfl rfl (by rw [List.length_map]; exact xF) rfl (YM _) rfl ?_; refine Jx 4 rfl ?_; refine Jg rfl rfl (.cons (Jr (vs := (yG a b).1.map uV) rfl (kn 0 rfl) rfl (by rw [List.length_map, show (yG a b).1.length = 4 from xF]; rfl)) (.cons (Jj rfl) .nil)) (fun w1 hs1 => ?_); exact ⟨rfl, hs1.keep⟩
theorem Jdi {a b : List Nat} (ha : WOk a) (hb : WOk b) : Pure Tryz.prog 278 [wV a, wV b].toArray (.bool (zf a b)) := by
 refine Jl Tryz.func278 rfl rfl fun w => ?_; refine JD ?_; refine Jq 2 rfl ?_; refine JR (cs := (a.map uV).toArray) rfl rfl rfl rfl fun r1 => ?_; refine JR (cs := (b.map uV).toArray) rfl rfl rfl rfl fun r2 => ?_; refine JJ 6 rfl ?_; refine LR rfl (Jd (xs := a.map uV) (n := 4) rfl (kn 1 rfl) rfl rfl (by rw [List.length_map, ha.1])) ?_; refine LR rfl (Jd (xs := b.map uV) (n := 4) rfl (kn 0 rfl) rfl rfl (by rw [List.length_map, hb.1])) ?_; refine LR rfl (Jhf (xs := a.map uV) (ys := b.map uV) (n := 4) rfl rfl rfl rfl rfl (by kernel_rfl) (by rw [List.length_map, ha.1]) (by rw [List.length_map, hb.1]) (ze rfl a) (ze rfl b)) ?_; refine J3 (congrArg Value.bool (xE (ha.1.trans hb.1.symm))) ?_; refine JI 2 rfl ?_; refine cD (fun g => ?_) fun g => ?_
 ·refine Kh 7 rfl ?_; refine pT rfl rfl rfl fun w1 hs1 => ?_; refine ⟨?_, hs1.keep⟩
  (have hab : a = b := by assumption
   unfold zf; simp [JG, hab]; done)
 ·refine Jq 4 rfl ?_; refine LR rfl (Jd (xs := a.map uV) (n := 4) rfl (kn 1 rfl) rfl rfl (by rw [List.length_map, ha.1])) ?_; refine LR rfl (Jd (xs := b.map uV) (n := 4) rfl (kn 0 rfl) rfl rfl (by rw [List.length_map, hb.1])) ?_; refine Jn rfl rfl rfl (enters_of Tryz.func336 (by kernel_rfl) rfl) (Jf5 ha hb) ?_; refine LS 3 [] rfl rfl ?_; refine Qu (cs := (zW.map uV).toArray) rfl rfl rfl rfl fun r3 => ?_; refine Jh (k := 0) (n := 4) (ys := (yG a b).1.map uV) rfl rfl rfl rfl rfl (by rw [List.length_map]; exact xF) rfl (YM _) rfl ?_; refine Jx 11 rfl ?_; refine pT rfl rfl rfl fun w1 hs1 => ?_; refine ⟨?_, hs1.keep⟩
  (have hab : ¬ a = b := by assumption
   unfold zf; simp [JG, hab])
end Go.Proofs.YtfaagelglpgpkaaGreatDoor
namespace Go.Proofs
open Go.Shelf
def Tryz.lays161_ren : Go.Shelf.Ren := ⟨fun | 161 => 260 | 231 => 327 | 227 => 328 | 233 => 329 | 235 => 330 | 228 => 358 | 197 => 359 | 151 => 360 | 260 => 372 | 152 => 373 | 137 => 384 | 119 => 385 | 224 => 386 | 225 => 387 | 217 => 391 | 266 => 392 | n => n, fun | 9 => 9 | 4 => 4 | 3 => 3 | 5 => 5 | 117 => 315 | 116 => 314 | 0 => 0 | 124 => 318 | 105 => 340 | 21 => 21 | 119 => 363 | 46 => 188 | 139 => 366 | 138 => 365 | n => n, fun | 3 => 1 | 4 => 2 | n => n⟩
theorem Tryz.lays161 : Go.Proofs.Lays.n161 Tryz.prog Tryz.lays161_ren := {
 mixed := by kernel_rfl
 f119 := Tryz.func385.trans (congrArg some (by kernel_rfl))
 f137 := Tryz.func384.trans (congrArg some (by kernel_rfl))
 f151 := Tryz.func360.trans (congrArg some (by kernel_rfl))
 f152 := Tryz.func373.trans (congrArg some (by kernel_rfl))
 f161 := Tryz.func260.trans (congrArg some (by kernel_rfl))
 f197 := Tryz.func359.trans (congrArg some (by kernel_rfl))
 f217 := Tryz.func391.trans (congrArg some (by kernel_rfl))
 f224 := Tryz.func386.trans (congrArg some (by kernel_rfl))
 f225 := Tryz.func387.trans (congrArg some (by kernel_rfl))
 f227 := Tryz.func328.trans (congrArg some (by kernel_rfl))
 f228 := Tryz.func358.trans (congrArg some (by kernel_rfl))
 f231 := Tryz.func327.trans (congrArg some (by kernel_rfl))
 f233 := Tryz.func329.trans (congrArg some (by kernel_rfl))
 f235 := Tryz.func330.trans (congrArg some (by kernel_rfl))
 f260 := Tryz.func372.trans (congrArg some (by kernel_rfl))
 f266 := Tryz.func392.trans (congrArg some (by kernel_rfl))
 t0 := Tryz.underlying0
 a0 := Tryz.isAgg0
 z0 := Tryz.sizeOf0
 v0 := Tryz.zeroValue0
 t3 := Tryz.underlying3
 a3 := Tryz.isAgg3
 z3 := Tryz.sizeOf3
 v3 := Tryz.zeroValue3
 t4 := Tryz.underlying4
 a4 := Tryz.isAgg4
 z4 := Tryz.sizeOf4
 v4 := Tryz.zeroValue4
 t5 := Tryz.underlying5
 a5 := Tryz.isAgg5
 z5 := Tryz.sizeOf5
 v5 := Tryz.zeroValue5
 t9 := Tryz.underlying9
 a9 := Tryz.isAgg9
 z9 := Tryz.sizeOf9
 v9 := Tryz.zeroValue9
 t21 := Tryz.underlying21
 a21 := Tryz.isAgg21
 z21 := Tryz.sizeOf21
 v21 := Tryz.zeroValue21
 t46 := Tryz.underlying188
 a46 := Tryz.isAgg188
 z46 := Tryz.sizeOf188
 v46 := Tryz.zeroValue188
 t105 := Tryz.underlying340
 a105 := Tryz.isAgg340
 z105 := Tryz.sizeOf340
 v105 := Tryz.zeroValue340
 t116 := Tryz.underlying314
 a116 := Tryz.isAgg314
 z116 := Tryz.sizeOf314
 t117 := Tryz.underlying315
 a117 := Tryz.isAgg315
 z117 := Tryz.sizeOf315
 v117 := Tryz.zeroValue315
 t119 := Tryz.underlying363
 a119 := Tryz.isAgg363
 z119 := Tryz.sizeOf363
 t124 := Tryz.underlying318
 a124 := Tryz.isAgg318
 z124 := Tryz.sizeOf318
 v124 := Tryz.zeroValue318
 t138 := Tryz.underlying365
 a138 := Tryz.isAgg365
 z138 := Tryz.sizeOf365
 v138 := Tryz.zeroValue365
 t139 := Tryz.underlying366
 a139 := Tryz.isAgg366
 z139 := Tryz.sizeOf366
 v139 := Tryz.zeroValue366
 g3 := by kernel_rfl
 g4 := by kernel_rfl }
open Go.RowKit in
theorem Tryz.strings_TrimLeft_one (s : ByteArray) (c : UInt8) (hc : c.toNat < 128) (w : World) :
  Calls Tryz.prog 260 #[.string s, .string ⟨#[c]⟩] w fun e w' => e = .returned (.string ⟨(Lib.trimLeftB s.data.toList c).toArray⟩) ∧ w' = w := Any.strings_TrimLeft_one Tryz.lays161 s c hc w
def Tryz.lays125_ren : Go.Shelf.Ren := ⟨fun | 125 => 174 | 128 => 234 | 129 => 235 | n => n, fun | 46 => 188 | 3 => 3 | 51 => 261 | 53 => 25 | 4 => 4 | 5 => 5 | 9 => 9 | n => n, fun | n => n⟩
theorem Tryz.lays125 : Go.Proofs.Lays.n125 Tryz.prog Tryz.lays125_ren := {
 mixed := by kernel_rfl
 f125 := Tryz.func174.trans (congrArg some (by kernel_rfl))
 f128 := Tryz.func234.trans (congrArg some (by kernel_rfl))
 f129 := Tryz.func235.trans (congrArg some (by kernel_rfl))
 t3 := Tryz.underlying3
 a3 := Tryz.isAgg3
 z3 := Tryz.sizeOf3
 v3 := Tryz.zeroValue3
 t4 := Tryz.underlying4
 a4 := Tryz.isAgg4
 z4 := Tryz.sizeOf4
 v4 := Tryz.zeroValue4
 t5 := Tryz.underlying5
 a5 := Tryz.isAgg5
 z5 := Tryz.sizeOf5
 v5 := Tryz.zeroValue5
 t9 := Tryz.underlying9
 a9 := Tryz.isAgg9
 z9 := Tryz.sizeOf9
 v9 := Tryz.zeroValue9
 t46 := Tryz.underlying188
 a46 := Tryz.isAgg188
 z46 := Tryz.sizeOf188
 v46 := Tryz.zeroValue188
 t51 := Tryz.underlying261
 a51 := Tryz.isAgg261
 z51 := Tryz.sizeOf261
 v51 := Tryz.zeroValue261
 t53 := Tryz.underlying25
 a53 := Tryz.isAgg25
 z53 := Tryz.sizeOf25
 v53 := Tryz.zeroValue25 }
theorem Tryz.bits_Len (x : Int) (w : World) (h0 : 0 ≤ x) (h1 : x ≤ 18446744073709551615) :
  Calls Tryz.prog 174 #[.int .u64 x] w fun e w' => e = .returned (.int .i64 (Lib.bitLen x.toNat)) ∧ w' = w := Any.bits_Len Tryz.lays125 x w h0 h1
def Tryz.lays189_ren : Go.Shelf.Ren := ⟨fun | 189 => 106 | 125 => 174 | 257 => 173 | 128 => 234 | 129 => 235 | 294 => 225 | 295 => 226 | 296 => 227 | 297 => 228 | 298 => 229 | 299 => 230 | 216 => 231 | 300 => 232 | 301 => 233 | 328 => 307 | 329 => 308 | 330 => 309 | 331 => 310 | 332 => 311 | 215 => 312 | 343 => 347 | n => n, fun | 28 => 92 | 3 => 3 | 46 => 188 | 0 => 0 | 51 => 261 | 53 => 25 | 4 => 4 | 183 => 254 | 182 => 253 | 131 => 258 | 5 => 5 | 9 => 9 | 218 => 293 | 222 => 297 | 228 => 327 | 229 => 328 | n => n, fun | n => n⟩
theorem Tryz.lays189 : Go.Proofs.Lays.n189 Tryz.prog Tryz.lays189_ren := {
 mixed := by kernel_rfl
 f125 := Tryz.func174.trans (congrArg some (by kernel_rfl))
 f128 := Tryz.func234.trans (congrArg some (by kernel_rfl))
 f129 := Tryz.func235.trans (congrArg some (by kernel_rfl))
 f189 := Tryz.func106.trans (congrArg some (by kernel_rfl))
 f215 := Tryz.func312.trans (congrArg some (by kernel_rfl))
 f216 := Tryz.func231.trans (congrArg some (by kernel_rfl))
 f257 := Tryz.func173.trans (congrArg some (by kernel_rfl))
 f294 := Tryz.func225.trans (congrArg some (by kernel_rfl))
 f295 := Tryz.func226.trans (congrArg some (by kernel_rfl))
 f296 := Tryz.func227.trans (congrArg some (by kernel_rfl))
 f297 := Tryz.func228.trans (congrArg some (by kernel_rfl))
 f298 := Tryz.func229.trans (congrArg some (by kernel_rfl))
 f299 := Tryz.func230.trans (congrArg some (by kernel_rfl))
 f300 := Tryz.func232.trans (congrArg some (by kernel_rfl))
 f301 := Tryz.func233.trans (congrArg some (by kernel_rfl))
 f328 := Tryz.func307.trans (congrArg some (by kernel_rfl))
 f329 := Tryz.func308.trans (congrArg some (by kernel_rfl))
 f330 := Tryz.func309.trans (congrArg some (by kernel_rfl))
 f331 := Tryz.func310.trans (congrArg some (by kernel_rfl))
 f332 := Tryz.func311.trans (congrArg some (by kernel_rfl))
 f343 := Tryz.func347.trans (congrArg some (by kernel_rfl))
 t0 := Tryz.underlying0
 a0 := Tryz.isAgg0
 z0 := Tryz.sizeOf0
 v0 := Tryz.zeroValue0
 t3 := Tryz.underlying3
 a3 := Tryz.isAgg3
 z3 := Tryz.sizeOf3
 v3 := Tryz.zeroValue3
 t4 := Tryz.underlying4
 a4 := Tryz.isAgg4
 z4 := Tryz.sizeOf4
 v4 := Tryz.zeroValue4
 t5 := Tryz.underlying5
 a5 := Tryz.isAgg5
 z5 := Tryz.sizeOf5
 v5 := Tryz.zeroValue5
 t9 := Tryz.underlying9
 a9 := Tryz.isAgg9
 z9 := Tryz.sizeOf9
 v9 := Tryz.zeroValue9
 t28 := Tryz.underlying92
 a28 := Tryz.isAgg92
 z28 := Tryz.sizeOf92
 v28 := Tryz.zeroValue92
 t46 := Tryz.underlying188
 a46 := Tryz.isAgg188
 z46 := Tryz.sizeOf188
 v46 := Tryz.zeroValue188
 t51 := Tryz.underlying261
 a51 := Tryz.isAgg261
 z51 := Tryz.sizeOf261
 v51 := Tryz.zeroValue261
 t53 := Tryz.underlying25
 a53 := Tryz.isAgg25
 z53 := Tryz.sizeOf25
 v53 := Tryz.zeroValue25
 t131 := Tryz.underlying258
 a131 := Tryz.isAgg258
 z131 := Tryz.sizeOf258
 v131 := Tryz.zeroValue258
 t182 := Tryz.underlying253
 a182 := Tryz.isAgg253
 z182 := Tryz.sizeOf253
 v182 := Tryz.zeroValue253
 t183 := Tryz.underlying254
 a183 := Tryz.isAgg254
 z183 := Tryz.sizeOf254
 v183 := Tryz.zeroValue254
 t218 := Tryz.underlying293
 a218 := Tryz.isAgg293
 z218 := Tryz.sizeOf293
 v218 := Tryz.zeroValue293
 t222 := Tryz.underlying297
 a222 := Tryz.isAgg297
 z222 := Tryz.sizeOf297
 v222 := Tryz.zeroValue297
 t228 := Tryz.underlying327
 a228 := Tryz.isAgg327
 z228 := Tryz.sizeOf327
 v228 := Tryz.zeroValue327
 t229 := Tryz.underlying328
 a229 := Tryz.isAgg328
 z229 := Tryz.sizeOf328
 v229 := Tryz.zeroValue328 }
open Go.Sort Go.RowKit in
theorem Tryz.slices_Sort_int (blk off cap : Nat) (zs : List Int) (w : World) (hH : Holds (Value.int .i64) w blk off zs.toArray) (hblk : blk < w.heap.size) (hsz : zs.length < 4611686018427387904) :
  Calls Tryz.prog 106 #[.slice (some ⟨blk, off, none⟩) zs.length cap] w fun e w' =>
   e = .returned (.tuple #[]) ∧ ∃ n os, w' = grow (putRow (Value.int .i64) (Sort.ahead w n) blk off (zs.mergeSort fun x y => decide (x ≤ y)).toArray) os := Any.slices_Sort_int Tryz.lays189 blk off cap zs w hH hblk hsz
def Tryz.lays105_ren : Go.Shelf.Ren := ⟨fun | 105 => 189 | 212 => 243 | 99 => 244 | 165 => 245 | 166 => 217 | 170 => 246 | 169 => 219 | 263 => 314 | 264 => 315 | 206 => 316 | 240 => 303 | 241 => 317 | 276 => 345 | 277 => 348 | n => n, fun | 9 => 9 | 3 => 3 | 4 => 4 | 20 => 20 | 0 => 0 | 46 => 188 | 109 => 268 | 5 => 5 | 72 => 243 | 76 => 246 | 51 => 261 | 146 => 300 | 53 => 25 | 148 => 302 | 70 => 241 | 37 => 66 | 75 => 245 | 127 => 292 | 164 => 325 | 80 => 109 | n => n, fun | n => n⟩
theorem Tryz.lays105 : Go.Proofs.Lays.n105 Tryz.prog Tryz.lays105_ren := {
 mixed := by kernel_rfl
 f99 := Tryz.func244.trans (congrArg some (by kernel_rfl))
 f105 := Tryz.func189.trans (congrArg some (by kernel_rfl))
 f165 := Tryz.func245.trans (congrArg some (by kernel_rfl))
 f166 := Tryz.func217.trans (congrArg some (by kernel_rfl))
 f169 := Tryz.func219.trans (congrArg some (by kernel_rfl))
 f170 := Tryz.func246.trans (congrArg some (by kernel_rfl))
 f206 := Tryz.func316.trans (congrArg some (by kernel_rfl))
 f212 := Tryz.func243.trans (congrArg some (by kernel_rfl))
 f240 := Tryz.func303.trans (congrArg some (by kernel_rfl))
 f241 := Tryz.func317.trans (congrArg some (by kernel_rfl))
 f263 := Tryz.func314.trans (congrArg some (by kernel_rfl))
 f264 := Tryz.func315.trans (congrArg some (by kernel_rfl))
 f276 := Tryz.func345.trans (congrArg some (by kernel_rfl))
 f277 := Tryz.func348.trans (congrArg some (by kernel_rfl))
 t0 := Tryz.underlying0
 a0 := Tryz.isAgg0
 z0 := Tryz.sizeOf0
 v0 := Tryz.zeroValue0
 t3 := Tryz.underlying3
 a3 := Tryz.isAgg3
 z3 := Tryz.sizeOf3
 v3 := Tryz.zeroValue3
 t4 := Tryz.underlying4
 a4 := Tryz.isAgg4
 z4 := Tryz.sizeOf4
 v4 := Tryz.zeroValue4
 t5 := Tryz.underlying5
 a5 := Tryz.isAgg5
 z5 := Tryz.sizeOf5
 v5 := Tryz.zeroValue5
 t9 := Tryz.underlying9
 a9 := Tryz.isAgg9
 z9 := Tryz.sizeOf9
 v9 := Tryz.zeroValue9
 t20 := Tryz.underlying20
 a20 := Tryz.isAgg20
 z20 := Tryz.sizeOf20
 v20 := Tryz.zeroValue20
 t37 := Tryz.underlying66
 a37 := Tryz.isAgg66
 z37 := Tryz.sizeOf66
 v37 := Tryz.zeroValue66
 t46 := Tryz.underlying188
 a46 := Tryz.isAgg188
 z46 := Tryz.sizeOf188
 v46 := Tryz.zeroValue188
 t51 := Tryz.underlying261
 a51 := Tryz.isAgg261
 z51 := Tryz.sizeOf261
 v51 := Tryz.zeroValue261
 t53 := Tryz.underlying25
 a53 := Tryz.isAgg25
 z53 := Tryz.sizeOf25
 v53 := Tryz.zeroValue25
 t70 := Tryz.underlying241
 a70 := Tryz.isAgg241
 z70 := Tryz.sizeOf241
 v70 := Tryz.zeroValue241
 t72 := Tryz.underlying243
 a72 := Tryz.isAgg243
 z72 := Tryz.sizeOf243
 v72 := Tryz.zeroValue243
 t75 := Tryz.underlying245
 a75 := Tryz.isAgg245
 z75 := Tryz.sizeOf245
 v75 := Tryz.zeroValue245
 t76 := Tryz.underlying246
 a76 := Tryz.isAgg246
 z76 := Tryz.sizeOf246
 v76 := Tryz.zeroValue246
 t109 := Tryz.underlying268
 a109 := Tryz.isAgg268
 z109 := Tryz.sizeOf268
 v109 := Tryz.zeroValue268
 t127 := Tryz.underlying292
 a127 := Tryz.isAgg292
 z127 := Tryz.sizeOf292
 v127 := Tryz.zeroValue292
 t146 := Tryz.underlying300
 a146 := Tryz.isAgg300
 z146 := Tryz.sizeOf300
 v146 := Tryz.zeroValue300
 t148 := Tryz.underlying302
 a148 := Tryz.isAgg302
 z148 := Tryz.sizeOf302
 v148 := Tryz.zeroValue302
 t164 := Tryz.underlying325
 a164 := Tryz.isAgg325
 z164 := Tryz.sizeOf325
 v164 := Tryz.zeroValue325 }
theorem Tryz.Builder_Extra_105 : Builder.Extra Tryz.prog Tryz.lays105_ren := {
 sizeBuilder := by kernel_rfl
 liesBuilder := by kernel_rfl
 t5 := Tryz.underlying5
 a5 := Tryz.isAgg5
 z5 := Tryz.sizeOf5
 v5 := Tryz.zeroValue5
 infoByte := by kernel_rfl
 cellsByte := by kernel_rfl
 sizeByte := by kernel_rfl
 neB5 := by decide }
open Go.RowKit Go.Lib in
theorem Tryz.strings_Repeat (s : ByteArray) (c : Nat) (w : World) (hc : c ≤ 9223372036854775807) (hlen : s.size * c ≤ 140737488355328) :
  Calls Tryz.prog 189 #[.string s, .int .i64 c] w fun e w' => e = .returned (.string ⟨(Lib.repeatL s.data.toList c).toArray⟩) ∧ Below w.heap.size w w' := Any.strings_Repeat Tryz.lays105 Tryz.Builder_Extra_105 s c w hc hlen
end Go.Proofs
namespace Go.Proofs.YtfaagelglpgpkaaGreatDoor
set_option linter.all false
open Go.SL Go.RowKit Go.Shelf
theorem Jdj (s : List UInt8) : Pure Tryz.prog 260 [.string (bs s), .string ⟨#[0]⟩].toArray (.string (bs (Lib.trimLeftB s 0))) := ⟨fun w => by
 have h := Tryz.strings_TrimLeft_one (bs s) 0 (by decide) w
 refine h.mono fun e w' ⟨h1, h2⟩ => ⟨?_, h2 ▸ Keep.refl _ _⟩
 rw [h1]; simp [bs]⟩
theorem zw {n : Nat} (hn : n ≤ 32) : Pure Tryz.prog 189 [.string ⟨#[0]⟩, .int .i64 (n : Int)].toArray (.string (bs (Lib.repeatL [0] n))) := ⟨fun w => by
 have hs : (ByteArray.mk #[0]).size = 1 := rfl
 have h := Tryz.strings_Repeat ⟨#[0]⟩ n w (by omega) (by rw [hs]; omega)
 refine h.mono fun e w' ⟨h1, h2⟩ => ⟨?_, Keep.of_below h2⟩
 rw [h1]; rfl⟩
def WC (l : List Nat) : List UInt8 := Lib.trimLeftB (Yq l 32) 0
theorem jE {l : List Nat} (hl : WOk l) : Pure Tryz.prog 200 [wV l].toArray (.string (bs (WC l))) := by
 refine Jl Tryz.func200 rfl rfl fun w => ?_; refine JD ?_; refine Jq 2 rfl ?_; refine JR (cs := (l.map uV).toArray) rfl rfl rfl rfl fun r1 => ?_; refine JJ 5 rfl ?_; refine LR rfl (Jd (xs := l.map uV) (n := 4) rfl (kn 0 rfl) rfl rfl (by rw [List.length_map, hl.1])) ?_; refine Jn rfl rfl rfl Jdf (QU hl) ?_; refine Jn rfl rfl rfl (enters_of Tryz.func260 (by kernel_rfl) rfl) (Jdj (Yq l 32)) ?_; refine Jx 4 rfl ?_; refine pT rfl rfl rfl fun w1 hs1 => ?_; exact ⟨rfl, hs1.keep⟩
def QS (v : Vl) (num bits items pick : Bool) : Bool := (num || decide (v.num = [0, 0, 0, 0])) && (bits || decide (v.bits.length = 0)) && (items || decide (v.items.length = 0)) && (pick || decide (v.pick = 0))
def ofT (k n : Int) (m : Nat) (v : Vl) : Bool :=
 if k = 1 then QS v true false false false && decide (((WC v.num).length : Int) ≤ n)
 else if k = 2 then QS v true false false false && (decide (v.num = [0, 0, 0, 0]) || decide (v.num = [1, 0, 0, 0]))
 else if k = 3 then QS v false false true false && decide ((v.items.length : Int) = n)
 else if k = 4 then QS v false false true false
 else if k = 5 then QS v false true false false && decide ((v.bits.length : Int) = n)
 else if k = 6 then QS v false true false false
 else if k = 7 then QS v false false true false && decide (v.items.length = m)
 else QS v false false true true && decide (v.items.length = 1) && decide (0 ≤ v.pick) && decide (v.pick < m)
instance : Inhabited Ty := ⟨.mk 0 0 none []⟩
def XC (k pick : Int) (i : Nat) : Nat := if k = 7 then i else if k = 8 then pick.toNat else 0
def JX (k pick : Int) (ins : List Ty) (i : Nat) : Ty := ins.getD (XC k pick i) default
mutual
def KL : Vl → Ty → Int
 | .mk a b c d bits pb items pi pick, .mk k n p ins => if (k = 4 ∧ n < items.length) ∨ (k = 6 ∧ n < bits.length) then 5 else if ofT k n ins.length (.mk a b c d bits pb items pi pick) = false then 2 else QN items k pick ins 0
def QN : List Vl → Int → Int → List Ty → Nat → Int
 | [], _, _, _, _ => 0
 | x :: xs, k, pick, ins, i => if KL x (JX k pick ins i) = 0 then QN xs k pick ins (i + 1) else KL x (JX k pick ins i)
end
theorem qr {k n : Int} {p : Pl} {ins : List Ty} {dp : Int} {v : Vl} {i : Nat} (hc : chk (.mk k n p ins) dp = 0) (ho : ofT k n ins.length v = true) (hi : i < v.items.length) : XC k v.pick i < ins.length := by
 obtain ⟨hk, hf, _, _⟩ := Vg hc
 unfold ofT QS at ho
 unfold Qd at hf
 unfold XC
 have h9 : k = 1 ∨ k = 2 ∨ k = 3 ∨ k = 4 ∨ k = 5 ∨ k = 6 ∨ k = 7 ∨ k = 8 := by omega
 have hl : ¬ v.items = [] := fun h => by rw [h] at hi; simp at hi
 rcases h9 with rfl | rfl | rfl | rfl | rfl | rfl | rfl | rfl
 all_goals simp [hl] at ho hf ⊢
 all_goals omega
theorem QV {k pick : Int} {ins : List Ty} {i : Nat} (h : XC k pick i < ins.length) : ins[XC k pick i]? = some (JX k pick ins i) ∧ JX k pick ins i ∈ ins := by
 unfold JX
 rw [List.getD_eq_getElem?_getD, List.getElem?_eq_getElem h]; exact ⟨rfl, List.getElem_mem h⟩
theorem Vk (a b c d : Nat) (bits : List Bool) (pb : Pl) (items : List Vl) (pi : Pl) (pick : Int) (h1 h2 h3 h4 : Bool) : QS (.mk a b c d bits pb items pi pick) h1 h2 h3 h4 = ((h1 || decide ([a, b, c, d] = [0, 0, 0, 0])) && (h2 || decide (bits.length = 0)) && (h3 || decide (items.length = 0)) && (h4 || decide (pick = 0))) := rfl
theorem V0 (k n : Int) (m a b c d : Nat) (bits : List Bool) (pb : Pl) (items : List Vl) (pi : Pl) (pick : Int) (v : Vl) (hv : v = .mk a b c d bits pb items pi pick) : ofT k n m v =
 if k = 1 then QS v true false false false && decide (((WC [a, b, c, d]).length : Int) ≤ n)
 else if k = 2 then QS v true false false false && (decide ([a, b, c, d] = [0, 0, 0, 0]) || decide ([a, b, c, d] = [1, 0, 0, 0]))
 else if k = 3 then QS v false false true false && decide ((items.length : Int) = n)
 else if k = 4 then QS v false false true false
 else if k = 5 then QS v false true false false && decide ((bits.length : Int) = n)
 else if k = 6 then QS v false true false false
 else if k = 7 then QS v false false true false && decide (items.length = m)
 else QS v false false true true && decide (items.length = 1) && decide (0 ≤ pick) && decide (pick < m) := by subst hv; rfl
theorem Jwx {n : Int} {m : Nat} {v : Vl} (h : ofT 8 n m v = true) : 0 ≤ v.pick := by
 unfold ofT at h
 simp at h; omega
def V8 (t : Ty) (v : Vl) : Int := if chk t 0 = 0 then KL v t else chk t 0
theorem Jt9 (x y : Bool) : Pure Tryz.prog 375 [.bool x, .bool y].toArray (.bool (x == y)) := by
 refine Jl Tryz.func375 rfl rfl fun w => ?_; refine JD ?_; refine Kh 14 rfl ?_; refine pT rfl rfl rfl fun w1 hs1 => ?_; exact ⟨rfl, hs1.keep⟩
def fV (f : FuncId) : Value := .func (.func f) #[] #[]
theorem Joz {R : Jm} {bits bits' : List Bool} {p p' : Pl} (hl : bits.length ≤ 9223372036854775807) (hl' : bits'.length ≤ 9223372036854775807) (hs : Seg R bits.length (ju bits) p) (hs' : Seg R bits'.length (ju bits') p') :
  PureR Tryz.prog 388 [KB bits.length p, KB bits'.length p', fV 375].toArray (.bool (decide (bits = bits'))) R := by
 refine Jb Tryz.func388 rfl rfl fun w => ?_; refine JD ?_; refine Jq 9 rfl ?_; refine LR rfl (Jz rfl hs rfl) ?_; refine Q1 rfl (LR rfl (Jz rfl hs' rfl) (JI 3 rfl ?_)); refine cD (fun g => ?_) fun g => ?_
 ·refine Kh 7 rfl ?_; refine pT rfl rfl rfl fun w1 hs1 => ?_; refine ⟨?_, hs1.keep⟩
  (have hse : bits ≠ bits' := fun e => by subst e; omega
   simp [JG, hse]; done)
 ·refine Jq 6 rfl ?_; refine LR rfl (Jz rfl hs rfl) ?_; refine JI 4 rfl ?_
  have hlb2 : bits.length = bits'.length := by omega
  refine Jy (σ := Nat) (fun i => i ≤ bits.length ∧ ∀ j, j < i → bits[j]? = bits'[j]?) (fun i => [(1, KB bits'.length p'), (2, fV 375), (15, KB bits.length p), (16, .int .i64 (bits.length : Int)), (17, .int .i64 (i : Int))]) (fun _ => []) (fun _ _ _ => True) (fun i => bits.length - i) 0 ⟨by omega, fun j hj => absurd hj (by omega)⟩ (lK rfl) (List.nil_sublist _) (fun _ _ h => h) ?_; rintro i ⟨hi1, hinv⟩; refine JK 6 rfl ?_; refine cD (fun g => ?_) fun g => ?_
  ·refine JK 5 rfl ?_
   obtain ⟨x, hx, hmx⟩ := Qs (show i < bits.length by omega)
   obtain ⟨y, hy, hmy⟩ := Qs (show i < bits'.length by omega)
   refine Jq 2 rfl ?_; refine LR rfl (Jk (j := i) rfl hs rfl rfl rfl rfl (by omega)) ?_; refine LR rfl (XZ oR rfl hs hx rfl) ?_; refine JJ 8 rfl ?_; refine LR rfl (Jk (j := i) rfl hs' rfl rfl rfl rfl (by omega)) ?_; refine LR rfl (XZ oR rfl hs' hy rfl) ?_; refine JJ 8 rfl ?_; refine Jn rfl rfl rfl (enters_of Tryz.func375 (by kernel_rfl) rfl) (Jt9 x y) ?_; refine JI 3 rfl ?_; refine cD (fun g => ?_) fun g => ?_
   ·refine Kh 11 rfl ?_; refine pT rfl rfl rfl fun w1 hs1 => ?_; refine ⟨?_, hs1.keep⟩
    (have hse : bits ≠ bits' := Jt0 hx hy (by simp_all)
     simp [JG, hse]; done)
   refine Jq 5 rfl ?_; refine Jc (by omega) (by omega) ?_; refine Jx 2 rfl ?_; refine Jv ?_
   exact Jo (i + 1) ⟨by omega, fun j hj => by
    rcases Nat.lt_succ_iff_lt_or_eq.1 hj with hj | rfl
    exact hinv j hj
    rw [hx, hy]; simp_all⟩ (by omega) (lK rfl) (List.nil_sublist _) (fun _ _ h => h)
  ·refine Kh 11 rfl ?_; refine pT rfl rfl rfl fun w1 hs1 => ?_; refine ⟨?_, hs1.keep⟩
   (have hse : bits = bits' := Jt1 hlb2 (by omega) hinv
    simp [JG, hse]; done)
theorem Jo0 {R : Jm} {items items' : List Vl} {p p' : Pl} {g : FuncId} (eg : Enters Tryz.prog g) (hg : ∀ x ∈ items, ∀ y ∈ items', PureR Tryz.prog g [x.val, y.val].toArray (.bool (Xi x y)) R) (hl : items.length ≤ 9223372036854775807) (hl' : items'.length ≤ 9223372036854775807) (hs : Seg R items.length (QE items) p) (hs' : Seg R items'.length (QE items') p') :
  PureR Tryz.prog 389 [KB items.length p, KB items'.length p', fV g].toArray (.bool (VG items items')) R := by
 refine Jb Tryz.func389 rfl rfl fun w => ?_; refine JD ?_; refine Jq 9 rfl ?_; refine LR rfl (Jz rfl hs rfl) ?_; refine Q1 rfl (LR rfl (Jz rfl hs' rfl) (JI 3 rfl ?_)); refine cD (fun h4 => ?_) fun h4 => ?_
 ·refine Kh 7 rfl ?_; refine pT rfl rfl rfl fun w1 hs1 => ?_; refine ⟨?_, hs1.keep⟩
  (have hse : VG items items' = false := Jt3 (by omega)
   simp [JG, hse]; done)
 ·refine Jq 6 rfl ?_; refine LR rfl (Jz rfl hs rfl) ?_; refine JI 4 rfl ?_
  have hl2 : items.length = items'.length := by omega
  refine Jy (σ := Nat) (fun i => i ≤ items.length ∧ ∀ q, q < i → ∀ x y, items[q]? = some x → items'[q]? = some y → Xi x y = true) (fun i => [(1, KB items'.length p'), (2, fV g), (15, KB items.length p), (16, .int .i64 (items.length : Int)), (17, .int .i64 (i : Int))]) (fun _ => []) (fun _ _ _ => True) (fun i => items.length - i) 0 ⟨by omega, fun j hj => absurd hj (by omega)⟩ (lK rfl) (List.nil_sublist _) (fun _ _ h => h) ?_; rintro i ⟨hi1, hinv⟩; refine JK 6 rfl ?_; refine cD (fun h10 => ?_) fun h10 => ?_
  ·refine JK 5 rfl ?_
   obtain ⟨x, hx, hmx⟩ := Qs (show i < items.length by omega)
   obtain ⟨y, hy, hmy⟩ := Qs (show i < items'.length by omega)
   refine Jq 2 rfl ?_; refine LR rfl (Jk (j := i) rfl hs rfl rfl rfl rfl (by omega)) ?_; refine LR rfl (Wv oR rfl hs hx rfl rfl) ?_; refine LN rfl fun r1 => ?_; refine Q1 rfl (Jh (k := 0) (n := 7) (ys := x.cells) rfl rfl rfl rfl rfl x.len rfl x.one rfl (JJ 6 rfl ?_)); refine LR rfl (Jk (j := i) rfl hs' rfl rfl rfl rfl (by omega)) ?_; refine LR rfl (Wv oR rfl hs' hy rfl rfl) ?_; refine LN rfl fun r2 => ?_; refine Jh (k := 0) (n := 7) (ys := y.cells) rfl rfl rfl rfl rfl y.len rfl y.one rfl ?_; refine JJ 5 rfl ?_; refine LR rfl (Jd (xs := x.cells) (n := 7) rfl (kn 1 rfl) rfl rfl x.len) ?_; refine LR rfl (Jd (xs := y.cells) (n := 7) rfl (kn 0 rfl) rfl rfl y.len) ?_; refine Ji rfl rfl rfl eg (hg x hmx y hmy) oR ?_; refine JI 3 rfl ?_; refine cD (fun h15 => ?_) fun h15 => ?_
   ·refine Kh 11 rfl ?_; refine pT rfl rfl rfl fun w1 hs1 => ?_; refine ⟨?_, hs1.keep⟩
    (have hse : VG items items' = false := Jt2 hx hy (by assumption)
     simp [JG, hse]; done)
   refine Jq 5 rfl ?_; refine Jc (by omega) (by omega) ?_; refine Jx 2 rfl ?_; refine Jv ?_
   exact Jo (i + 1) ⟨by omega, fun q hq u v hu hv => by
    rcases Nat.lt_succ_iff_lt_or_eq.1 hq with hq | rfl
    exact hinv q hq u v hu hv
    rw [hx] at hu; rw [hy] at hv; cases hu; cases hv; assumption⟩ (by omega) (lK rfl) (List.nil_sublist _) (fun _ _ h => h)
  ·refine Kh 11 rfl ?_; refine pT rfl rfl rfl fun w1 hs1 => ?_; refine ⟨?_, hs1.keep⟩
   (have hse : VG items items' = true := Wf.2 ⟨hl2, fun q x y hx hy => hinv q (by have := (List.getElem?_eq_some_iff.1 hx).1; omega) x y hx hy⟩
    simp [JG, hse]; done)
theorem Jua {R : Jm} {v0 v1 v2 v : Value} (h : PureR Tryz.prog 388 [v0, v1, v2].toArray v R) : PureR Tryz.prog 376 [v0, v1, v2].toArray v R := by
 refine Jb Tryz.func376 rfl rfl fun w => ?_; refine JD ?_; refine Jq 10 rfl ?_; refine Ji rfl rfl rfl (enters_of Tryz.func388 (by kernel_rfl) rfl) h oR ?_; refine Jx 4 rfl ?_; refine pT rfl rfl rfl fun w1 hs1 => ?_; exact ⟨rfl, hs1.keep⟩
theorem Jub {R : Jm} {v0 v1 v2 v : Value} (h : PureR Tryz.prog 389 [v0, v1, v2].toArray v R) : PureR Tryz.prog 377 [v0, v1, v2].toArray v R := by
 refine Jb Tryz.func377 rfl rfl fun w => ?_; refine JD ?_; refine Jq 10 rfl ?_; refine Ji rfl rfl rfl (enters_of Tryz.func389 (by kernel_rfl) rfl) h oR ?_; refine Jx 4 rfl ?_; refine pT rfl rfl rfl fun w1 hs1 => ?_; exact ⟨rfl, hs1.keep⟩
theorem Jx2 {R : Jm} {u : Vl} (hu : u.In R) : ∀ v : Vl, v.In R → PureR Tryz.prog 362 [u.val, v.val].toArray (.bool (Xi u v)) R := by
 induction hu with
 | @mk a b c d bits pb items pi pick ha hb hc hd hlb hsb hl hs hp hi ih =>
 intro v hv
 cases hv with
 | @mk a' b' c' d' bits' pb' items' pi' pick' ha' hb' hc' hd' hlb' hsb' hl' hs' hp' hi' =>
 rw [YV]
 have h1 := Jua (Joz hlb hlb' hsb hsb')
 have h2 := Jub (Jo0 (enters_of Tryz.func362 (by kernel_rfl) rfl) (fun x hx y hy => ih x hx y (hi' y hy)) hl hl' hs hs')
 refine Jb Tryz.func362 rfl rfl fun w => ?_; refine JD ?_; refine Jq 2 rfl ?_; refine LN rfl fun r1 => ?_; refine LN rfl fun r2 => ?_; refine Xf 14 [1, 0] rfl rfl ?_; refine LR rfl (Jhf rfl rfl rfl rfl rfl (by kernel_rfl) rfl rfl rfl rfl) ?_
 first | (refine J3 (congrArg Value.bool (xE (a := [a, b, c, d]) (b := [a', b', c', d']) rfl)) ?_) | skip
 refine Q1 rfl ?_
 refine J6 11 rfl (fun gb => ?_) (fun gb => ?_) <;> (try simp only [ZZ] at gb) <;> first | (refine LR rfl (JA rfl rfl rfl) ?_) | (refine LK rfl ?_)
 all_goals refine LW 1 [1] rfl rfl ?_
 all_goals first | refine LR rfl (JA rfl rfl rfl) ?_ | refine LK rfl ?_
 all_goals refine LW 4 [0] rfl rfl ?_
 all_goals first | refine LK rfl ?_ | (refine J6 18 rfl (fun gb => ?_) (fun gb => ?_) <;> (try simp only [ZZ] at gb) <;> first | (refine LR rfl (JA rfl rfl rfl) ?_) | (refine LK rfl ?_))
 all_goals refine LW 1 [1] rfl rfl ?_
 all_goals first | refine LR rfl (JA rfl rfl rfl) ?_ | refine LK rfl ?_
 all_goals refine LW 2 [0] rfl rfl ?_
 all_goals first | (refine Ji rfl rfl rfl (enters_of Tryz.func376 (by kernel_rfl) rfl) h1 oR ?_) | refine LK rfl ?_
 all_goals refine LW 2 [] rfl rfl ?_
 all_goals first | refine LK rfl ?_ | (refine J6 26 rfl (fun gb => ?_) (fun gb => ?_) <;> (try simp only [ZZ] at gb) <;> first | (refine LR rfl (JA rfl rfl rfl) ?_) | (refine LK rfl ?_))
 all_goals refine LW 1 [1] rfl rfl ?_
 all_goals first | refine LR rfl (JA rfl rfl rfl) ?_ | refine LK rfl ?_
 all_goals refine LW 1 [0] rfl rfl ?_
 all_goals first | (refine Ji rfl rfl rfl (enters_of Tryz.func377 (by kernel_rfl) rfl) h2 oR ?_) | refine LK rfl ?_
 all_goals (
  refine LW 2 [] rfl rfl (Jx 1 rfl (ZT 2 rfl ?_)); refine pT rfl rfl rfl fun w1 hs1 => ?_; refine ⟨?_, hs1.keep⟩
  simp_all [JG]
  skip)
def kfs : List (Nat × Nat × Nat × Bool) := [(269, 272, 274, false), (275, 277, 279, false), (280, 283, 285, false), (287, 288, 0, true),
 (289, 290, 292, false), (293, 294, 0, true), (295, 296, 297, false), (298, 299, 0, true)]
def kAt (k : Int) : Nat × Nat × Nat × Bool := kfs.getD (k - 1).toNat (0, 0, 0, false)
def isK (k : Int) : Bool := decide (1 ≤ k) && decide (k ≤ 8)
def Jo1 (k : Int) : FuncId := (kAt k).1
def ofF (k : Int) : FuncId := (kAt k).2.1
def Jo2 (k : Int) : FuncId := (kAt k).2.2.1
def Jf6 (k : Int) : Bool := (kAt k).2.2.2
def fnV (b : Bool) (f : FuncId) : Value := if b then fV f else .nilFunc
def YW (k : Int) : List Value := [fnV (isK k) (Jo1 k), fnV (isK k) (ofF k), fnV (isK k && !Jf6 k) (Jo2 k), .bool (Jf6 k)]
def Jak (j : Nat) : MapEntry := { key := .int .i64 ((j : Int) + 1), val := .agg (YW ((j : Int) + 1)).toArray, born := j }
def kMap : Array MapEntry := #[Jak 0, Jak 1, Jak 2, Jak 3, Jak 4, Jak 5, Jak 6, Jak 7]
def Jk7 : Obj := .map kMap 8
theorem YX : ∀ e ∈ kMap.toList, isI e.key := by
 intro e he; simp only [kMap, List.mem_cons, List.not_mem_nil, or_false] at he
 rcases he with rfl | rfl | rfl | rfl | rfl | rfl | rfl | rfl <;> exact ⟨_, rfl⟩
theorem Jdk (k : Int) : Kz YB (.int .i64 k) (kMap.toList.map Ve) = if isK k then some (.agg (YW k).toArray) else none := by
 by_cases h : 1 ≤ k ∧ k ≤ 8
 ·have : k = 1 ∨ k = 2 ∨ k = 3 ∨ k = 4 ∨ k = 5 ∨ k = 6 ∨ k = 7 ∨ k = 8 := by omega
  rcases this with rfl | rfl | rfl | rfl | rfl | rfl | rfl | rfl <;> rfl
 ·have e : isK k = false := by unfold isK; simp; omega
  rw [e]
  have h1 : k ≠ 1 := by omega
  have h2 : k ≠ 2 := by omega
  have h3 : k ≠ 3 := by omega
  have h4 : k ≠ 4 := by omega
  have h5 : k ≠ 5 := by omega
  have h6 : k ≠ 6 := by omega
  have h7 : k ≠ 7 := by omega
  have h8 : k ≠ 8 := by omega
  simp [kMap, Jak, Ve, Kz, Jnq, h1, h2, h3, h4, h5, h6, h7, h8]
theorem Jo3 (k : Int) : (if true = true then Value.tuple #[((Kz YB (.int .i64 k) (kMap.toList.map Ve)).getD (.agg #[.nilFunc, .nilFunc, .nilFunc, .bool false])), .bool (Kz YB (.int .i64 k) (kMap.toList.map Ve)).isSome] else (Kz YB (.int .i64 k) (kMap.toList.map Ve)).getD (.agg #[.nilFunc, .nilFunc, .nilFunc, .bool false])) =
  .tuple #[.agg (YW k).toArray, .bool (isK k)] := by
 rw [Jdk, if_pos rfl]
 cases h : isK k with
 | true => rfl
 | false =>
  have : Jf6 k = false := by
   unfold isK at h
   simp at h
   unfold Jf6 kAt
   by_cases h1 : 1 ≤ k
   ·have := h h1
    rw [List.getD_eq_getElem?_getD, List.getElem?_eq_none (by show 8 ≤ _; omega)]; rfl
   ·have : (k - 1).toNat = 0 := by omega
    rw [this]; rfl
  simp [YW, fnV, h, this]
theorem Zp {k : Int} (h : isK k = true) : (if false = true then Value.tuple #[((Kz YB (.int .i64 k) (kMap.toList.map Ve)).getD (.agg #[.nilFunc, .nilFunc, .nilFunc, .bool false])), .bool (Kz YB (.int .i64 k) (kMap.toList.map Ve)).isSome] else (Kz YB (.int .i64 k) (kMap.toList.map Ve)).getD (.agg #[.nilFunc, .nilFunc, .nilFunc, .bool false])) =
  .agg (YW k).toArray := by
 rw [Jdk, h]; rfl
theorem jF : PureE (α := Nat) Tryz.prog 212 [].toArray (fun r => .map (some r)) (fun r => [(r, Jk7)]) := by
 refine Kf Tryz.func212 rfl rfl fun w => ?_; refine JD ?_; refine Jq 7 rfl ?_; refine wa rfl rfl fun mr => ?_; refine LR rfl (Jt (r := [_, _, _, _]) rfl rfl) ?_; refine KU (q := 0) (key := .int .i64 1) (Xz (t := 3) (by kernel_rfl)) rfl rfl rfl rfl rfl rfl ⟨_, rfl⟩ (by intro e he; simp at he) rfl rfl ?_; refine LR rfl (Jt (r := [_, _, _, _]) rfl rfl) ?_
 refine KU (q := 0) (key := .int .i64 2) (Xz (t := 3) (by kernel_rfl)) rfl rfl rfl rfl rfl rfl ⟨_, rfl⟩ (by intro e he; simp at he; rcases he with rfl <;> exact ⟨_, rfl⟩) rfl rfl ?_; refine LR rfl (Jt (r := [_, _, _, _]) rfl rfl) ?_
 refine KU (q := 0) (key := .int .i64 3) (Xz (t := 3) (by kernel_rfl)) rfl rfl rfl rfl rfl rfl ⟨_, rfl⟩ (by intro e he; simp at he; rcases he with rfl | rfl <;> exact ⟨_, rfl⟩) rfl rfl ?_; refine LR rfl (Jt (r := [_, _, _, _]) rfl rfl) ?_
 refine KU (q := 0) (key := .int .i64 4) (Xz (t := 3) (by kernel_rfl)) rfl rfl rfl rfl rfl rfl ⟨_, rfl⟩ (by intro e he; simp at he; rcases he with rfl | rfl | rfl <;> exact ⟨_, rfl⟩) rfl rfl ?_; refine LR rfl (Jt (r := [_, _, _, _]) rfl rfl) ?_
 refine KU (q := 0) (key := .int .i64 5) (Xz (t := 3) (by kernel_rfl)) rfl rfl rfl rfl rfl rfl ⟨_, rfl⟩ (by intro e he; simp at he; rcases he with rfl | rfl | rfl | rfl <;> exact ⟨_, rfl⟩) rfl rfl ?_; refine LR rfl (Jt (r := [_, _, _, _]) rfl rfl) ?_
 refine KU (q := 0) (key := .int .i64 6) (Xz (t := 3) (by kernel_rfl)) rfl rfl rfl rfl rfl rfl ⟨_, rfl⟩ (by intro e he; simp at he; rcases he with rfl | rfl | rfl | rfl | rfl <;> exact ⟨_, rfl⟩) rfl rfl ?_; refine LR rfl (Jt (r := [_, _, _, _]) rfl rfl) ?_
 refine KU (q := 0) (key := .int .i64 7) (Xz (t := 3) (by kernel_rfl)) rfl rfl rfl rfl rfl rfl ⟨_, rfl⟩ (by intro e he; simp at he; rcases he with rfl | rfl | rfl | rfl | rfl | rfl <;> exact ⟨_, rfl⟩) rfl rfl ?_; refine LR rfl (Jt (r := [_, _, _, _]) rfl rfl) ?_
 refine KU (q := 0) (key := .int .i64 8) (Xz (t := 3) (by kernel_rfl)) rfl rfl rfl rfl rfl rfl ⟨_, rfl⟩ (by intro e he; simp at he; rcases he with rfl | rfl | rfl | rfl | rfl | rfl | rfl <;> exact ⟨_, rfl⟩) rfl rfl ?_; refine Jx 5 rfl ?_; refine pT rfl rfl rfl fun w1 hs1 => ?_; exact ⟨mr, rfl, hs1⟩
theorem YY {R : Jm} {k n : Int} {p : Pl} {ins : List Ty} (ht : Ty.In R (.mk k n p ins)) : PureR Tryz.prog 270 [Ty.val (.mk k n p ins)].toArray (.bool (decide (ins.length = 0))) R := by
 cases ht with
 | mk hk hn hl hs hi =>
 refine Jb Tryz.func270 rfl rfl fun w => ?_; refine JD ?_; refine Jq 2 rfl ?_; refine LN rfl fun r1 => ?_; refine Xf 7 [0] rfl rfl ?_; refine LR rfl (Jz rfl hs rfl) ?_; refine Jx 5 rfl ?_; refine pT rfl rfl rfl fun w1 hs1 => ?_; exact ⟨congrArg (fun b => Ending.returned (Value.bool b)) (by rw [Bool.eq_iff_iff]; simp only [beq_iff_eq, decide_eq_true_eq]; omega), hs1.keep⟩
theorem XD {R : Jm} {k n : Int} {p : Pl} {ins : List Ty} (ht : Ty.In R (.mk k n p ins)) : PureR Tryz.prog 276 [Ty.val (.mk k n p ins)].toArray (.bool (decide (n = 0))) R := by
 cases ht with
 | mk hk hn hl hs hi =>
 refine Jb Tryz.func276 rfl rfl fun w => ?_; refine JD ?_; refine Jq 2 rfl ?_; refine LN rfl fun r1 => ?_; refine Goq 12 [0] rfl rfl ?_; refine pT rfl rfl rfl fun w1 hs1 => ?_; refine ⟨?_, hs1.keep⟩
 simp_all [JG]
 first | done | rfl | omega | (rw [Bool.eq_iff_iff]; simp only [Bool.and_eq_true, Bool.or_eq_true, decide_eq_true_eq, beq_iff_eq]; omega) | (simp only [decide_eq_true_eq, decide_eq_false_iff_not]; omega)
theorem qS {R : Jm} {k n : Int} {p : Pl} {ins : List Ty} (ht : Ty.In R (.mk k n p ins)) : PureR Tryz.prog 282 [Ty.val (.mk k n p ins)].toArray (.bool (decide (1 ≤ n) && decide (n ≤ 512))) R := by
 cases ht with
 | mk hk hn hl hs hi =>
 refine Jb Tryz.func282 rfl rfl fun w => ?_; refine JD ?_; refine Jq 2 rfl ?_; refine LN rfl fun r1 => ?_; refine Xf 9 [0] rfl rfl ?_
 refine J6 6 rfl (fun gb => ?_) (fun gb => ?_) <;> (try simp only [ZZ] at gb) <;> first | (refine LR rfl (JA rfl rfl rfl) ?_) | (refine LK rfl ?_)
 all_goals (
  refine LW 4 [0] rfl rfl (Jx 1 rfl (ZT 2 rfl ?_)); refine pT rfl rfl rfl fun w1 hs1 => ?_; refine ⟨?_, hs1.keep⟩
  simp_all [JG]
  all_goals first | done | rfl | omega | (rw [Bool.eq_iff_iff]; simp only [Bool.and_eq_true, Bool.or_eq_true, decide_eq_true_eq, beq_iff_eq]; omega) | (simp only [decide_eq_true_eq, decide_eq_false_iff_not]; omega)
  skip)
theorem YZ {R : Jm} {k n : Int} {p : Pl} {ins : List Ty} (ht : Ty.In R (.mk k n p ins)) (most : Int) : PureR Tryz.prog 281 [Ty.val (.mk k n p ins), .int .i64 most].toArray (.bool (decide (1 ≤ ins.length) && decide ((ins.length : Int) ≤ most))) R := by
 cases ht with
 | mk hk hn hl hs hi =>
 refine Jb Tryz.func281 rfl rfl fun w => ?_; refine JD ?_; refine Jq 2 rfl ?_; refine LN rfl fun r1 => ?_; refine Xf 7 [0] rfl rfl ?_; refine LR rfl (Jz rfl hs rfl) ?_; refine LS 2 [] rfl rfl ?_
 refine J6 9 rfl (fun gb => ?_) (fun gb => ?_) <;> (try simp only [ZZ] at gb) <;> first | (refine LR rfl (JA rfl rfl rfl) ?_) | (refine LK rfl ?_)
 all_goals refine LW 1 [0] rfl rfl ?_
 all_goals first | refine LR rfl (Jz rfl hs rfl) ?_ | refine LK rfl ?_
 all_goals (
  refine LW 4 [] rfl rfl (Jx 1 rfl (ZT 2 rfl ?_)); refine pT rfl rfl rfl fun w1 hs1 => ?_; refine ⟨?_, hs1.keep⟩
  simp_all [JG]
  first | done | rfl | omega | (rw [Bool.eq_iff_iff]; simp only [Bool.and_eq_true, Bool.or_eq_true, decide_eq_true_eq, beq_iff_eq]; omega) | (simp only [decide_eq_true_eq, decide_eq_false_iff_not]; omega)
  skip)
def Jal : List Int → Int → Int → Int
 | [], _, _ => -1
 | y :: ys, x, j => if x = y then j else Jal ys x (j + 1)
def Jo4 (l : List Int) : List Value := l.map (Value.int .i64)
theorem Juc {R : Jm} {xs : List Int} {p : Pl} (x : Int) (hl : xs.length ≤ 9223372036854775807) (hs : Seg R xs.length (Jo4 xs) p) : PureR Tryz.prog 333 [KB xs.length p, .int .i64 x].toArray (.int .i64 (Jal xs x 0)) R := by
 refine Jb Tryz.func333 rfl rfl fun w => ?_; refine JD ?_; refine Jq 9 rfl ?_; refine LR rfl (Jz rfl hs rfl) ?_; refine JI 4 rfl ?_; refine Jy (σ := Nat) (fun i => i ≤ xs.length ∧ Jal (xs.drop i) x (i : Int) = Jal xs x 0) (fun i => [(0, KB xs.length p), (1, .int .i64 x), (7, .int .i64 (xs.length : Int)), (8, .int .i64 (i : Int))]) (fun _ => []) (fun _ _ _ => True) (fun i => xs.length - i) 0 ⟨by omega, rfl⟩ (lK rfl) (List.nil_sublist _) (fun _ _ h => h) ?_; rintro i ⟨hi1, hinv⟩; refine JK 6 rfl ?_; refine cD (fun g => ?_) fun g => ?_
 refine JK 11 rfl ?_
 obtain ⟨y, hy, hmy⟩ := Qs (show i < xs.length by omega)
 rw [WH hy, Jal] at hinv; refine Jq 4 rfl ?_; refine LR rfl (Jk (j := i) rfl hs rfl rfl rfl rfl (by omega)) ?_; refine LR rfl (QL (v := .int .i64 y) (j := i) oR rfl hs (by omega) rfl (by unfold Jo4; rw [List.getElem?_map, hy]; rfl)) ?_; refine JI 3 rfl ?_; refine cD (fun g => ?_) fun g => ?_
 refine Kh 12 rfl ?_; refine pT rfl rfl rfl fun w1 hs1 => ?_; refine ⟨?_, hs1.keep⟩; rw [← hinv, if_pos (by assumption)]; rfl
 refine Jq 5 rfl ?_; refine Jc (by omega) (by omega) ?_; refine Jx 2 rfl ?_; refine Jv ?_; exact Jo (i + 1) ⟨by omega, by rw [if_neg (by assumption)] at hinv; exact hinv⟩ (by omega) (lK rfl) (List.nil_sublist _) (fun _ _ h => h)
 ·refine Kh 11 rfl ?_; refine pT rfl rfl rfl fun w1 hs1 => ?_; refine ⟨?_, hs1.keep⟩; rw [← hinv, List.drop_of_length_le (by omega), Jal]; rfl
theorem Jf7 {R : Jm} {xs : List Int} {p : Pl} (x : Int) (hl : xs.length ≤ 9223372036854775807) (hs : Seg R xs.length (Jo4 xs) p) : PureR Tryz.prog 271 [KB xs.length p, .int .i64 x].toArray (.bool (decide (0 ≤ Jal xs x 0))) R := by
 have h := Juc x hl hs
 refine Jb Tryz.func271 rfl rfl fun w => ?_; refine JD ?_; refine Jq 9 rfl ?_; refine Ji rfl rfl rfl (enters_of Tryz.func333 (by kernel_rfl) rfl) h oR ?_; refine Jx 5 rfl ?_; refine pT rfl rfl rfl fun w1 hs1 => ?_; exact ⟨rfl, hs1.keep⟩
theorem J1y (n : Int) : decide (0 ≤ Jal [1, 2, 4, 8, 32] n 0) = (decide (n = 1) || decide (n = 2) || decide (n = 4) || decide (n = 8) || decide (n = 32)) := by
 simp only [Jal]
 by_cases h1 : n = 1
 ·simp [h1]
 by_cases h2 : n = 2
 ·simp [h2]
 by_cases h4 : n = 4
 ·simp [h4]
 by_cases h8 : n = 8
 ·simp [h8]
 by_cases h32 : n = 32
 ·simp [h32]
 simp [h1, h2, h4, h8, h32]
theorem F_1 {R : Jm} {n : Int} {p : Pl} {ins : List Ty} (ht : Ty.In R (.mk 1 n p ins)) : PureR Tryz.prog 269 [Ty.val (.mk 1 n p ins)].toArray (.bool (Qd 1 n ins.length)) R := by
 have hno := YY ht
 have hpl := XD ht
 have hro := qS ht
 have hma := fun m => YZ ht m
 cases ht with
 | mk hk hn hl hs hi =>
 refine Jb Tryz.func269 rfl rfl fun w => ?_; refine JD ?_; refine Jq 2 rfl ?_; refine LN rfl fun r1 => ?_; refine JJ 5 rfl ?_; refine LR rfl (Js (vs := [_, _, _]) rfl (kn 0 rfl) rfl rfl rfl rfl) ?_; refine Ji rfl rfl rfl Jii hno oR ?_; refine Q1 rfl ?_
 refine J6 5 rfl (fun gb => ?_) (fun gb => ?_) <;> (try simp only [ZZ] at gb) <;> first | (refine J4 (vs := [_, _, _, _, _]) (zs := [_, _, _, _, _]) (r := [_, _, _, _, _]) rfl rfl rfl rfl rfl rfl rfl rfl rfl (by show (madeCells #[_] _).toList = _; rw [QJ]; exact rfl) rfl fun r2 => ?_) | (refine LK rfl ?_)
 all_goals first | refine LR rfl (JA rfl rfl rfl) ?_ | refine LK rfl ?_
 all_goals refine LW 1 [1] rfl rfl ?_
 all_goals first | (refine Ji rfl rfl rfl (enters_of Tryz.func271 (by kernel_rfl) rfl) (Jf7 (R := [(r2, _)]) (xs := [1, 2, 4, 8, 32]) (p := some (⟨r2, 0, none⟩, 5)) n (by decide) ⟨by decide, fun _ => ⟨rfl, _, _, _, List.mem_cons_self, rfl⟩⟩) (fun q hq => .inl (by rw [List.mem_singleton.1 hq]; exact List.mem_cons_self)) ?_; refine J3 (congrArg Value.bool (J1y n)) ?_) | refine LK rfl ?_
 all_goals (
  refine LW 2 [] rfl rfl (Jx 1 rfl (ZT 2 rfl ?_)); refine pT rfl rfl rfl fun w1 hs1 => ?_; refine ⟨?_, hs1.keep⟩
  unfold Qd
  simp_all [JG]
  skip)
theorem F_2 {R : Jm} {n : Int} {p : Pl} {ins : List Ty} (ht : Ty.In R (.mk 2 n p ins)) : PureR Tryz.prog 275 [Ty.val (.mk 2 n p ins)].toArray (.bool (Qd 2 n ins.length)) R := by
 have hno := YY ht
 have hpl := XD ht
 have hro := qS ht
 have hma := fun m => YZ ht m
 cases ht with
 | mk hk hn hl hs hi =>
 refine Jb Tryz.func275 rfl rfl fun w => ?_; refine JD ?_; refine Jq 2 rfl ?_; refine LN rfl fun r1 => ?_; refine JJ 5 rfl ?_; refine LR rfl (Js (vs := [_, _, _]) rfl (kn 0 rfl) rfl rfl rfl rfl) ?_; refine Ji rfl rfl rfl Jii hno oR ?_; refine Q1 rfl ?_
 refine J6 5 rfl (fun gb => ?_) (fun gb => ?_) <;> (try simp only [ZZ] at gb) <;> first | (refine LR rfl (Js (vs := [_, _, _]) rfl (kn 0 rfl) rfl rfl rfl rfl) ?_) | (refine LK rfl ?_)
 all_goals first | (refine Ji rfl rfl rfl Jou hpl oR ?_) | refine LK rfl ?_
 all_goals (
  refine LW 2 [] rfl rfl (Jx 1 rfl (ZT 2 rfl ?_)); refine pT rfl rfl rfl fun w1 hs1 => ?_; refine ⟨?_, hs1.keep⟩
  unfold Qd
  simp_all [JG]
  skip)
theorem F_3 {R : Jm} {n : Int} {p : Pl} {ins : List Ty} (ht : Ty.In R (.mk 3 n p ins)) : PureR Tryz.prog 280 [Ty.val (.mk 3 n p ins)].toArray (.bool (Qd 3 n ins.length)) R := by
 have hno := YY ht
 have hpl := XD ht
 have hro := qS ht
 have hma := fun m => YZ ht m
 cases ht with
 | mk hk hn hl hs hi =>
 refine Jb Tryz.func280 rfl rfl fun w => ?_; refine JD ?_; refine Jq 2 rfl ?_; refine LN rfl fun r1 => ?_; refine JJ 5 rfl ?_; refine LR rfl (Js (vs := [_, _, _]) rfl (kn 0 rfl) rfl rfl rfl rfl) ?_; refine Ji rfl rfl rfl Jij (hma 1) oR ?_; refine Q1 rfl ?_
 refine J6 5 rfl (fun gb => ?_) (fun gb => ?_) <;> (try simp only [ZZ] at gb) <;> first | (refine LR rfl (Js (vs := [_, _, _]) rfl (kn 0 rfl) rfl rfl rfl rfl) ?_) | (refine LK rfl ?_)
 all_goals first | (refine Ji rfl rfl rfl Jik hro oR ?_) | refine LK rfl ?_
 all_goals (
  refine LW 2 [] rfl rfl (Jx 1 rfl (ZT 2 rfl ?_)); refine pT rfl rfl rfl fun w1 hs1 => ?_; refine ⟨?_, hs1.keep⟩
  unfold Qd
  simp_all [JG]
  first | done | rfl | omega | (rw [Bool.eq_iff_iff]; simp only [Bool.and_eq_true, Bool.or_eq_true, decide_eq_true_eq, beq_iff_eq]; omega) | (simp only [decide_eq_true_eq, decide_eq_false_iff_not]; omega)
  skip)
theorem F_4 {R : Jm} {n : Int} {p : Pl} {ins : List Ty} (ht : Ty.In R (.mk 4 n p ins)) : PureR Tryz.prog 287 [Ty.val (.mk 4 n p ins)].toArray (.bool (Qd 4 n ins.length)) R := by
 have hno := YY ht
 have hpl := XD ht
 have hro := qS ht
 have hma := fun m => YZ ht m
 cases ht with
 | mk hk hn hl hs hi =>
 refine Jb Tryz.func287 rfl rfl fun w => ?_; refine JD ?_; refine Jq 2 rfl ?_; refine LN rfl fun r1 => ?_; refine JJ 5 rfl ?_; refine LR rfl (Js (vs := [_, _, _]) rfl (kn 0 rfl) rfl rfl rfl rfl) ?_; refine Ji rfl rfl rfl Jij (hma 1) oR ?_; refine Q1 rfl ?_
 refine J6 5 rfl (fun gb => ?_) (fun gb => ?_) <;> (try simp only [ZZ] at gb) <;> first | (refine LR rfl (Js (vs := [_, _, _]) rfl (kn 0 rfl) rfl rfl rfl rfl) ?_) | (refine LK rfl ?_)
 all_goals first | (refine Ji rfl rfl rfl Jik hro oR ?_) | refine LK rfl ?_
 all_goals (
  refine LW 2 [] rfl rfl (Jx 1 rfl (ZT 2 rfl ?_)); refine pT rfl rfl rfl fun w1 hs1 => ?_; refine ⟨?_, hs1.keep⟩
  unfold Qd
  simp_all [JG]
  first | done | rfl | omega | (rw [Bool.eq_iff_iff]; simp only [Bool.and_eq_true, Bool.or_eq_true, decide_eq_true_eq, beq_iff_eq]; omega) | (simp only [decide_eq_true_eq, decide_eq_false_iff_not]; omega)
  skip)
theorem F_5 {R : Jm} {n : Int} {p : Pl} {ins : List Ty} (ht : Ty.In R (.mk 5 n p ins)) : PureR Tryz.prog 289 [Ty.val (.mk 5 n p ins)].toArray (.bool (Qd 5 n ins.length)) R := by
 have hno := YY ht
 have hpl := XD ht
 have hro := qS ht
 have hma := fun m => YZ ht m
 cases ht with
 | mk hk hn hl hs hi =>
 refine Jb Tryz.func289 rfl rfl fun w => ?_; refine JD ?_; refine Jq 2 rfl ?_; refine LN rfl fun r1 => ?_; refine JJ 5 rfl ?_; refine LR rfl (Js (vs := [_, _, _]) rfl (kn 0 rfl) rfl rfl rfl rfl) ?_; refine Ji rfl rfl rfl Jii hno oR ?_; refine Q1 rfl ?_
 refine J6 5 rfl (fun gb => ?_) (fun gb => ?_) <;> (try simp only [ZZ] at gb) <;> first | (refine LR rfl (Js (vs := [_, _, _]) rfl (kn 0 rfl) rfl rfl rfl rfl) ?_) | (refine LK rfl ?_)
 all_goals first | (refine Ji rfl rfl rfl Jik hro oR ?_) | refine LK rfl ?_
 all_goals (
  refine LW 2 [] rfl rfl (Jx 1 rfl (ZT 2 rfl ?_)); refine pT rfl rfl rfl fun w1 hs1 => ?_; refine ⟨?_, hs1.keep⟩
  unfold Qd
  simp_all [JG]
  skip)
theorem F_6 {R : Jm} {n : Int} {p : Pl} {ins : List Ty} (ht : Ty.In R (.mk 6 n p ins)) : PureR Tryz.prog 293 [Ty.val (.mk 6 n p ins)].toArray (.bool (Qd 6 n ins.length)) R := by
 have hno := YY ht
 have hpl := XD ht
 have hro := qS ht
 have hma := fun m => YZ ht m
 cases ht with
 | mk hk hn hl hs hi =>
 refine Jb Tryz.func293 rfl rfl fun w => ?_; refine JD ?_; refine Jq 2 rfl ?_; refine LN rfl fun r1 => ?_; refine JJ 5 rfl ?_; refine LR rfl (Js (vs := [_, _, _]) rfl (kn 0 rfl) rfl rfl rfl rfl) ?_; refine Ji rfl rfl rfl Jii hno oR ?_; refine Q1 rfl ?_
 refine J6 5 rfl (fun gb => ?_) (fun gb => ?_) <;> (try simp only [ZZ] at gb) <;> first | (refine LR rfl (Js (vs := [_, _, _]) rfl (kn 0 rfl) rfl rfl rfl rfl) ?_) | (refine LK rfl ?_)
 all_goals first | (refine Ji rfl rfl rfl Jik hro oR ?_) | refine LK rfl ?_
 all_goals (
  refine LW 2 [] rfl rfl (Jx 1 rfl (ZT 2 rfl ?_)); refine pT rfl rfl rfl fun w1 hs1 => ?_; refine ⟨?_, hs1.keep⟩
  unfold Qd
  simp_all [JG]
  skip)
theorem F_7 {R : Jm} {n : Int} {p : Pl} {ins : List Ty} (ht : Ty.In R (.mk 7 n p ins)) : PureR Tryz.prog 295 [Ty.val (.mk 7 n p ins)].toArray (.bool (Qd 7 n ins.length)) R := by
 have hno := YY ht
 have hpl := XD ht
 have hro := qS ht
 have hma := fun m => YZ ht m
 cases ht with
 | mk hk hn hl hs hi =>
 refine Jb Tryz.func295 rfl rfl fun w => ?_; refine JD ?_; refine Jq 2 rfl ?_; refine LN rfl fun r1 => ?_; refine JJ 5 rfl ?_; refine LR rfl (Js (vs := [_, _, _]) rfl (kn 0 rfl) rfl rfl rfl rfl) ?_; refine Ji rfl rfl rfl Jij (hma 16) oR ?_; refine Q1 rfl ?_
 refine J6 5 rfl (fun gb => ?_) (fun gb => ?_) <;> (try simp only [ZZ] at gb) <;> first | (refine LR rfl (Js (vs := [_, _, _]) rfl (kn 0 rfl) rfl rfl rfl rfl) ?_) | (refine LK rfl ?_)
 all_goals first | (refine Ji rfl rfl rfl Jou hpl oR ?_) | refine LK rfl ?_
 all_goals (
  refine LW 2 [] rfl rfl (Jx 1 rfl (ZT 2 rfl ?_)); refine pT rfl rfl rfl fun w1 hs1 => ?_; refine ⟨?_, hs1.keep⟩
  unfold Qd
  simp_all [JG]
  first | done | rfl | omega | (rw [Bool.eq_iff_iff]; simp only [Bool.and_eq_true, Bool.or_eq_true, decide_eq_true_eq, beq_iff_eq]; omega) | (simp only [decide_eq_true_eq, decide_eq_false_iff_not]; omega)
  skip)
theorem F_8 {R : Jm} {n : Int} {p : Pl} {ins : List Ty} (ht : Ty.In R (.mk 8 n p ins)) : PureR Tryz.prog 298 [Ty.val (.mk 8 n p ins)].toArray (.bool (Qd 8 n ins.length)) R := by
 have hno := YY ht
 have hpl := XD ht
 have hro := qS ht
 have hma := fun m => YZ ht m
 cases ht with
 | mk hk hn hl hs hi =>
 refine Jb Tryz.func298 rfl rfl fun w => ?_; refine JD ?_; refine Jq 2 rfl ?_; refine LN rfl fun r1 => ?_; refine JJ 5 rfl ?_; refine LR rfl (Js (vs := [_, _, _]) rfl (kn 0 rfl) rfl rfl rfl rfl) ?_; refine Ji rfl rfl rfl Jij (hma 8) oR ?_; refine Q1 rfl ?_
 refine J6 5 rfl (fun gb => ?_) (fun gb => ?_) <;> (try simp only [ZZ] at gb) <;> first | (refine LR rfl (Js (vs := [_, _, _]) rfl (kn 0 rfl) rfl rfl rfl rfl) ?_) | (refine LK rfl ?_)
 all_goals first | (refine Ji rfl rfl rfl Jou hpl oR ?_) | refine LK rfl ?_
 all_goals (
  refine LW 2 [] rfl rfl (Jx 1 rfl (ZT 2 rfl ?_)); refine pT rfl rfl rfl fun w1 hs1 => ?_; refine ⟨?_, hs1.keep⟩
  unfold Qd
  simp_all [JG]
  first | done | rfl | omega | (rw [Bool.eq_iff_iff]; simp only [Bool.and_eq_true, Bool.or_eq_true, decide_eq_true_eq, beq_iff_eq]; omega) | (simp only [decide_eq_true_eq, decide_eq_false_iff_not]; omega)
  skip)
theorem Wp {k : Int} : isK k = true ↔ 1 ≤ k ∧ k ≤ 8 := by unfold isK; simp
theorem J0b {R : Jm} {k n : Int} {p : Pl} {ins : List Ty} (ht : Ty.In R (.mk k n p ins)) (h : isK k = true) : Enters Tryz.prog (Jo1 k) ∧ PureR Tryz.prog (Jo1 k) [Ty.val (.mk k n p ins)].toArray (.bool (Qd k n ins.length)) R := by
 have := Wp.1 h
 have : k = 1 ∨ k = 2 ∨ k = 3 ∨ k = 4 ∨ k = 5 ∨ k = 6 ∨ k = 7 ∨ k = 8 := by omega
 rcases this with rfl | rfl | rfl | rfl | rfl | rfl | rfl | rfl
 ·exact ⟨enters_of Tryz.func269 (by kernel_rfl) rfl, F_1 ht⟩
 ·exact ⟨enters_of Tryz.func275 (by kernel_rfl) rfl, F_2 ht⟩
 ·exact ⟨enters_of Tryz.func280 (by kernel_rfl) rfl, F_3 ht⟩
 ·exact ⟨enters_of Tryz.func287 (by kernel_rfl) rfl, F_4 ht⟩
 ·exact ⟨enters_of Tryz.func289 (by kernel_rfl) rfl, F_5 ht⟩
 ·exact ⟨enters_of Tryz.func293 (by kernel_rfl) rfl, F_6 ht⟩
 ·exact ⟨enters_of Tryz.func295 (by kernel_rfl) rfl, F_7 ht⟩
 ·exact ⟨enters_of Tryz.func298 (by kernel_rfl) rfl, F_8 ht⟩
theorem Jf8 (k : Int) : (YW k).all Q3 = true := by
 unfold YW fnV
 cases isK k <;> cases Jf6 k <;> rfl
theorem Zq {k : Int} (h : isK k = false) : k < 1 ∨ 8 < k := by unfold isK at h; simp at h; omega
theorem Jin {b : Bool} {f : FuncId} (h : b = true) : fnV b f = .func (.func f) #[] #[] := by rw [h]; rfl
theorem Jio {k : Int} (h : isK k = true) : Jf6 k = (decide (k = 4) || decide (k = 6) || decide (k = 8)) := by
 have := Wp.1 h
 have : k = 1 ∨ k = 2 ∨ k = 3 ∨ k = 4 ∨ k = 5 ∨ k = 6 ∨ k = 7 ∨ k = 8 := by omega
 rcases this with rfl | rfl | rfl | rfl | rfl | rfl | rfl | rfl <;> rfl
theorem Jud {R : Jm} {t : Ty} (ht : t.In R) : ∀ d : Int, 0 ≤ d → d ≤ 1000 → PureR Tryz.prog 211 [t.val, .int .i64 d].toArray (.int .i64 (chk t d)) R := by
  induction ht with
  | @mk k n p ins hk hn hl hs hi ih =>
  intro d hd0 hd1
  have hF := fun h => J0b (.mk hk hn hl hs hi : Ty.In R (.mk k n p ins)) h
  refine Jb Tryz.func211 rfl rfl fun w => ?_; refine JD ?_; refine Jq 2 rfl ?_; refine LN rfl fun r1 => ?_; refine JI 4 rfl ?_
  refine JT [] [(0, .grow (Qe 0 (fun r : Nat => Value.map (some r)) (fun r => [(r, Jk7)]))), (1, .pure), (4, .pure), (5, .pure), (6, .pure), (7, .grow (VI vV (.cells #[.nilFunc, .nilFunc, .nilFunc, .bool false] 235 (0, 0)))), (8, .turn), (9, .pure)] 10 [1, 2, 0, 3, 4, 5, 6, 7, 8, 9] (by kernel_rfl) (by kernel_rfl) (by first | exact (fun _ h => absurd h List.not_mem_nil) | simp [SubS] | (intro p hp; simp [hp])) ?_
  refine Jp (k := 1) rfl rfl rfl rfl rfl (fun _ hS => (JA rfl rfl rfl)) ?_; refine KE (k := 2) rfl rfl rfl rfl rfl (Je rfl (kn 0 rfl) rfl rfl) ?_; refine WV (k := 0) rfl rfl rfl rfl rfl Jdh jF fun mr => ?_; refine KE (k := 3) rfl rfl rfl rfl rfl (Xe (Xz (t := 3) (by kernel_rfl)) rfl rfl (kn 0 rfl) rfl rfl ⟨_, rfl⟩ YX (Jo3 k)) ?_; refine Jp (k := 4) rfl rfl rfl rfl rfl (fun _ hS => (Jf rfl)) ?_; refine Jp (k := 5) rfl rfl rfl rfl rfl (fun _ hS => (JY rfl rfl)) ?_; refine Jp (k := 6) rfl rfl rfl rfl rfl (fun _ hS => (JY rfl rfl)) ?_; refine Wx (k := 7) (cs := #[_, _, _, _]) rfl rfl rfl rfl rfl rfl fun r2 => ?_
  refine Vi (k := 8) (q := 0) (n := 4) (ys := YW k) rfl rfl rfl rfl rfl rfl rfl rfl rfl (Jf8 k) (by first | (simp only [List.set_cons_zero, List.set_cons_succ]; exact rfl) | exact rfl) (by first | exact (fun _ h => nomatch h) | simp [SubS]) ?_; refine Jp (k := 9) rfl rfl rfl rfl rfl (fun _ hS => (JC rfl)) ?_; refine Kx ?_; refine JI 11 rfl ?_; refine cD (fun g => ?_) fun g => ?_
  refine Kh 8 rfl ?_; refine pT rfl rfl rfl fun w1 hs1 => ?_; refine ⟨?_, hs1.keep⟩; rw [chk, if_pos (Zq (by assumption))]; rfl
  · refine Vw 4 [0] rfl rfl ?_; refine J3 (Jin (by assumption)) ?_; refine LR rfl (Js (vs := [_, _, _]) rfl (kn 2 rfl) rfl rfl rfl rfl) ?_; refine Ji rfl rfl rfl (hF (by assumption)).1 (hF (by assumption)).2 oR ?_; refine JI 4 rfl ?_; refine cD (fun g => ?_) fun g => ?_
    refine Kh 8 rfl ?_; refine pT rfl rfl rfl fun w1 hs1 => ?_; refine ⟨?_, hs1.keep⟩
    first
      | (rw [chk, if_pos (Zq (by assumption))]; rfl)
      | (have hkk := Wp.1 (by assumption)
         rw [chk, if_neg (by omega)]
         first
         | (rw [if_pos (by assumption)]; rfl)
         | (rw [if_neg (by simp_all), if_pos (by omega)]; rfl)
         | (rw [if_neg (by simp_all), if_neg (by omega), ← hinv, if_neg (by assumption)]; rfl)
         | (rw [if_neg (by simp_all), if_neg (by omega), ← hinv, List.drop_of_length_le (by omega), XO]; rfl))
    · refine JK 7 rfl ?_; refine cD (fun g => ?_) fun g => ?_
      refine Kh 8 rfl ?_; refine pT rfl rfl rfl fun w1 hs1 => ?_; refine ⟨?_, hs1.keep⟩
      first
        | (rw [chk, if_pos (Zq (by assumption))]; rfl)
        | (have hkk := Wp.1 (by assumption)
           rw [chk, if_neg (by omega)]
           first
           | (rw [if_pos (by assumption)]; rfl)
           | (rw [if_neg (by simp_all), if_pos (by omega)]; rfl)
           | (rw [if_neg (by simp_all), if_neg (by omega), ← hinv, if_neg (by assumption)]; rfl)
           | (rw [if_neg (by simp_all), if_neg (by omega), ← hinv, List.drop_of_length_le (by omega), XO]; rfl))
      · refine Vw 8 [2] rfl rfl ?_; refine LR rfl (Jz rfl hs rfl) ?_; refine JI 4 rfl ?_; refine Jy (σ := Nat) (fun i => i ≤ ins.length ∧ XO (ins.drop i) (d + 1) = XO ins (d + 1)) (fun i => [(1, .int .i64 d), (30, KB ins.length p), (31, .int .i64 (ins.length : Int)), (32, .int .i64 (i : Int))]) (fun _ => []) (fun _ _ _ => True) (fun i => ins.length - i) 0 ⟨by omega, rfl⟩ (lK rfl) (List.nil_sublist _) (fun _ _ h => h) ?_; rintro i ⟨hi1, hinv⟩; refine JK 6 rfl ?_; refine cD (fun g => ?_) fun g => ?_
        refine JK 5 rfl ?_
        obtain ⟨y, hy, hmem⟩ := Qs (show i < ins.length by omega)
        rw [WH hy, XO] at hinv; refine Jq 1 rfl ?_; refine LR rfl (Jk (j := i) rfl hs rfl rfl rfl rfl (by omega)) ?_; refine LR rfl (Qr oR rfl hs hy rfl rfl) ?_; refine LN rfl fun r3 => ?_; refine Jh (k := 0) (n := 3) (ys := y.cells) rfl rfl rfl rfl rfl y.len rfl y.one rfl ?_; refine JJ 4 rfl ?_; refine LR rfl (Jd (xs := y.cells) (n := 3) rfl (kn 0 rfl) rfl rfl y.len) ?_; refine LS 2 [] rfl rfl ?_; refine Jc (by omega) (by omega) ?_; refine Ji rfl rfl rfl (enters_of Tryz.func211 (by kernel_rfl) rfl) (ih y hmem (d + 1) (by omega) (by omega)) oR ?_; refine JI 9 rfl ?_; refine cD (fun g => ?_) fun g => ?_
        refine Kh 12 rfl ?_; refine pT rfl rfl rfl fun w1 hs1 => ?_; refine ⟨?_, hs1.keep⟩
        first
          | (rw [chk, if_pos (Zq (by assumption))]; rfl)
          | (have hkk := Wp.1 (by assumption)
             rw [chk, if_neg (by omega)]
             first
             | (rw [if_pos (by assumption)]; rfl)
             | (rw [if_neg (by simp_all), if_pos (by omega)]; rfl)
             | (rw [if_neg (by simp_all), if_neg (by omega), ← hinv, if_neg (by assumption)]; rfl)
             | (rw [if_neg (by simp_all), if_neg (by omega), ← hinv, List.drop_of_length_le (by omega), XO]; rfl))
        refine Jq 5 rfl ?_; refine Jc (by omega) (by omega) ?_; refine Jx 2 rfl ?_; refine Jv ?_; exact Jo (i + 1) ⟨by omega, by rw [if_pos (by assumption)] at hinv; exact hinv⟩ (by omega) (lK rfl) (List.nil_sublist _) (fun _ _ h => h)
        · refine Kh 11 rfl ?_; refine pT rfl rfl rfl fun w1 hs1 => ?_; refine ⟨?_, hs1.keep⟩
          (have hkk := Wp.1 (by assumption)
           rw [chk, if_neg (by omega)]
           first
           | (rw [if_pos (by assumption)]; rfl)
           | (rw [if_neg (by simp_all), if_pos (by omega)]; rfl)
           | (rw [if_neg (by simp_all), if_neg (by omega), ← hinv, if_neg (by assumption)]; rfl)
           | (rw [if_neg (by simp_all), if_neg (by omega), ← hinv, List.drop_of_length_le (by omega), XO]; rfl))
theorem Jip {R : Jm} {t : Ty} (ht : t.In R) : PureR Tryz.prog 157 [t.val].toArray (.int .i64 (chk t 0)) R := by
 have h1 := Jud ht 0 (by omega) (by omega)
 obtain ⟨k, n, p, ins⟩ := t
 refine Jb Tryz.func157 rfl rfl fun w => ?_; refine JD ?_; refine Jq 2 rfl ?_; refine LN rfl fun r1 => ?_; refine JJ 5 rfl ?_; refine LR rfl (Js (vs := [_, _, _]) rfl (kn 0 rfl) rfl rfl rfl rfl) ?_; refine Ji rfl rfl rfl (enters_of Tryz.func211 (by kernel_rfl) rfl) h1 oR ?_; refine Jx 4 rfl ?_; refine pT rfl rfl rfl fun w1 hs1 => ?_; exact ⟨rfl, hs1.keep⟩
def Jdl {α : Type} (b : α → Bool) : List α → Int → Int
 | [], _ => -1
 | y :: ys, j => if b y = true then j else Jdl b ys (j + 1)
theorem Jdm {α : Type} {b : α → Bool} : ∀ {l : List α} {j : Int}, 0 ≤ j → decide (0 ≤ Jdl b l j) = l.any b
 | [], _, _ => rfl
 | y :: ys, j, h => by
  rw [Jdl, List.any_cons]
  split
  ·rename_i hb; rw [hb]; simp [h]
  ·rename_i hb; rw [Jdm (by omega)]; simp [hb]
theorem Jam {R : Jm} {ins : List Ty} {p : Pl} {g : FuncId} {b : Ty → Bool} (eg : Enters Tryz.prog g) (hg : ∀ x ∈ ins, PureR Tryz.prog g [x.val].toArray (.bool (b x)) R) (hl : ins.length ≤ 9223372036854775807) (hs : Seg R ins.length (Jcj ins) p) :
  PureR Tryz.prog 381 [KB ins.length p, fV g].toArray (.int .i64 (Jdl b ins 0)) R := by
 refine Jb Tryz.func381 rfl rfl fun w => ?_; refine JD ?_; refine Jq 9 rfl ?_; refine LR rfl (Jz rfl hs rfl) ?_; refine JI 4 rfl ?_; refine Jy (σ := Nat) (fun i => i ≤ ins.length ∧ Jdl b (ins.drop i) (i : Int) = Jdl b ins 0) (fun i => [(0, KB ins.length p), (1, fV g), (7, .int .i64 (ins.length : Int)), (8, .int .i64 (i : Int))]) (fun _ => []) (fun _ _ _ => True) (fun i => ins.length - i) 0 ⟨by omega, rfl⟩ (lK rfl) (List.nil_sublist _) (fun _ _ h => h) ?_; rintro i ⟨hi1, hinv⟩; refine JK 6 rfl ?_; refine cD (fun h6 => ?_) fun h6 => ?_
 refine JK 11 rfl ?_
 obtain ⟨y, hy, hmem⟩ := Qs (show i < ins.length by omega)
 rw [WH hy, Jdl] at hinv; refine Jq 4 rfl ?_; refine LR rfl (Jk (j := i) rfl hs rfl rfl rfl rfl (by omega)) ?_; refine LR rfl (Qr oR rfl hs hy rfl rfl) ?_; refine Ji rfl rfl rfl eg (hg y hmem) oR ?_; refine JI 2 rfl ?_; refine cD (fun h10 => ?_) fun h10 => ?_
 refine Kh 12 rfl ?_; refine pT rfl rfl rfl fun w1 hs1 => ?_; refine ⟨?_, hs1.keep⟩; rw [← hinv, if_pos (by assumption)]; rfl
 refine Jq 5 rfl ?_; refine Jc (by omega) (by omega) ?_; refine Jx 2 rfl ?_; refine Jv ?_; exact Jo (i + 1) ⟨by omega, by rw [if_neg (by simp_all)] at hinv; exact hinv⟩ (by omega) (lK rfl) (List.nil_sublist _) (fun _ _ h => h)
 ·refine Kh 11 rfl ?_; refine pT rfl rfl rfl fun w1 hs1 => ?_; refine ⟨?_, hs1.keep⟩; rw [← hinv, List.drop_of_length_le (by omega), Jdl]; rfl
theorem vj {R : Jm} {ins : List Ty} {p : Pl} {g : FuncId} {b : Ty → Bool} (eg : Enters Tryz.prog g) (hg : ∀ x ∈ ins, PureR Tryz.prog g [x.val].toArray (.bool (b x)) R) (hl : ins.length ≤ 9223372036854775807) (hs : Seg R ins.length (Jcj ins) p) :
  PureR Tryz.prog 368 [KB ins.length p, fV g].toArray (.bool (ins.any b)) R := by
 have h := Jam (b := b) eg hg hl hs
 rw [← Jdm (b := b) (l := ins) (Int.le_refl 0)]; refine Jb Tryz.func368 rfl rfl fun w => ?_; refine JD ?_; refine Jq 9 rfl ?_; refine Ji rfl rfl rfl (enters_of Tryz.func381 (by kernel_rfl) rfl) h oR ?_; refine Jx 5 rfl ?_; refine pT rfl rfl rfl fun w1 hs1 => ?_; exact ⟨rfl, hs1.keep⟩
theorem Jiq : ∀ ins : List Ty, (ins.any fun x => !Xh x) = !qf ins
 | [] => rfl
 | x :: xs => by rw [List.any_cons, Jiq xs, qf, Bool.not_and]
theorem Jue {R : Jm} {t : Ty} (ht : t.In R) : ∀ d : Int, chk t d = 0 → PureR Tryz.prog 346 [t.val].toArray (.bool (Xh t)) R := by
 induction ht with
 | @mk k n p ins hk hn hl hs hi ih =>
 intro d hc
 obtain ⟨hk8, ho, h6, hci⟩ := Vg hc
 have hkk := Wp.2 hk8
 have hcl : ∀ x ∈ ins, PureR Tryz.prog 369 [x.val].toArray (.bool (!Xh x)) R := fun x hx => by
  have h1 := ih x hx (d + 1) (hci x hx)
  obtain ⟨xk, xn, xp, xi⟩ := x
  refine Jb Tryz.func369 rfl rfl fun w => ?_; refine JD ?_; refine Jq 2 rfl ?_; refine LN rfl fun r1 => ?_; refine JJ 5 rfl ?_; refine LR rfl (Js (vs := [_, _, _]) rfl (kn 0 rfl) rfl rfl rfl rfl) ?_; refine Ji rfl rfl rfl (enters_of Tryz.func346 (by kernel_rfl) rfl) h1 oR ?_; refine Jx 5 rfl ?_; refine pT rfl rfl rfl fun w1 hs1 => ?_; exact ⟨rfl, hs1.keep⟩
 have hany := vj (b := fun x => !Xh x) (enters_of Tryz.func369 (by kernel_rfl) rfl) hcl hl hs
 rw [Jiq] at hany
 have hvb := Jio hkk
 rw [Xh]; refine Jb Tryz.func346 rfl rfl fun w => ?_; refine JD ?_; refine Jq 2 rfl ?_; refine LN rfl fun r1 => ?_; refine JI 4 rfl ?_
 refine JT [] [(0, .grow (Qe 0 (fun r : Nat => Value.map (some r)) (fun r => [(r, Jk7)]))), (1, .pure), (4, .pure), (5, .pure), (6, .pure), (7, .pure), (10, .pure), (11, .pure), (12, .pure)] 13 [1, 2, 0, 3, 4, 5, 6, 7, 8, 9, 10, 11, 12] (by kernel_rfl) (by kernel_rfl) (by first | exact (fun _ h => absurd h List.not_mem_nil) | simp [SubS] | (intro p hp; simp [hp])) ?_
 refine Jp (k := 1) rfl rfl rfl rfl rfl (fun _ hS => (JA rfl rfl rfl)) ?_; refine KE (k := 2) rfl rfl rfl rfl rfl (Je rfl (kn 0 rfl) rfl rfl) ?_; refine WV (k := 0) rfl rfl rfl rfl rfl Jdh jF fun mr => ?_; refine KE (k := 3) rfl rfl rfl rfl rfl (Xe (Xz (t := 3) (by kernel_rfl)) rfl rfl (kn 0 rfl) rfl rfl ⟨_, rfl⟩ YX (Zp hkk)) ?_; refine Jp (k := 4) rfl rfl rfl rfl rfl (fun _ hS => (J2 rfl rfl rfl)) ?_; refine Jp (k := 5) rfl rfl rfl rfl rfl (fun _ hS => (J2 rfl rfl rfl)) ?_; refine Jp (k := 6) rfl rfl rfl rfl rfl (fun _ hS => (Jf rfl)) ?_
 refine Jte 9 rfl (fun gb => ?_) (fun gb => ?_) <;> (try simp only [ZZ] at gb) <;> first | (refine Jp (k := 7) rfl rfl rfl rfl rfl (fun _ hS => (JA rfl rfl rfl)) ?_) | (refine vv (k := 7) rfl rfl rfl rfl ?_)
 all_goals first | refine KE (k := 8) rfl rfl rfl rfl rfl (Je rfl (kn 1 rfl) rfl rfl) ?_ | refine vv (k := 8) rfl rfl rfl rfl ?_
 all_goals first | (refine Qa (k := 9) rfl rfl rfl rfl rfl (enters_of Tryz.func368 (by kernel_rfl) rfl) hany oR ?_) | refine vv (k := 9) rfl rfl rfl rfl ?_
 all_goals first | refine Jp (k := 10) rfl rfl rfl rfl rfl (fun _ hS => (J2 rfl rfl rfl)) ?_ | refine vv (k := 10) rfl rfl rfl rfl ?_
 all_goals first | refine Jp (k := 11) rfl rfl rfl rfl rfl (fun _ hS => (VO rfl rfl)) ?_ | refine Jp (k := 11) rfl rfl rfl rfl rfl (fun _ hS => (VP rfl rfl)) ?_
 all_goals (
  refine Jp (k := 12) rfl rfl rfl rfl rfl (fun _ hS => (JC rfl)) (Kx (Jx 1 rfl (ZT 2 rfl ?_))); refine pT rfl rfl rfl fun w1 hs1 => ?_; refine ⟨?_, hs1.keep⟩
  simp_all [JG]
  all_goals first | done | (intros; omega)
  skip)
theorem Jir {R : Jm} {t : Ty} (ht : t.In R) : PureR Tryz.prog 304 [t.val].toArray (.bool (V4 t)) R := by
 have h1 := Jip ht
 have h2 := Jue ht 0
 obtain ⟨k, n, p, ins⟩ := t
 refine Jb Tryz.func304 rfl rfl fun w => ?_; refine JD ?_; refine Jq 2 rfl ?_; refine LN rfl fun r1 => ?_; refine JJ 5 rfl ?_; refine LR rfl (Js (vs := [_, _, _]) rfl (kn 0 rfl) rfl rfl rfl rfl) ?_; refine Ji rfl rfl rfl (enters_of Tryz.func157 (by kernel_rfl) rfl) h1 oR ?_; refine LS 2 [] rfl rfl ?_
 refine J6 6 rfl (fun gb => ?_) (fun gb => ?_) <;> (try simp only [ZZ] at gb) <;> first | (refine LR rfl (Js (vs := [_, _, _]) rfl (kn 0 rfl) rfl rfl rfl rfl) ?_) | (refine LK rfl ?_)
 all_goals first | (refine Ji rfl rfl rfl (enters_of Tryz.func346 (by kernel_rfl) rfl) (h2 (by assumption)) oR ?_) | refine LK rfl ?_
 all_goals (
  refine LW 2 [] rfl rfl (Jx 1 rfl (ZT 2 rfl ?_)); refine pT rfl rfl rfl fun w1 hs1 => ?_; refine ⟨?_, hs1.keep⟩
  simp_all [V4, JG]
  skip)
theorem Juf {R : Jm} {k n : Int} {p : Pl} {ins : List Ty} (ht : Ty.In R (.mk k n p ins)) (hsub : ∀ x ∈ ins, PureR Tryz.prog 305 [x.val].toArray (.int .i64 (KW x)) R) (hpos : ∀ x ∈ ins, 1 ≤ KW x) (hb : VY ins ≤ 2251799813685248) :
  PureR Tryz.prog 286 [Ty.val (.mk k n p ins)].toArray (.int .i64 (VY ins)) R := by
 cases ht with
 | mk hk hn hl hs hi =>
 have hdp : ∀ i, 0 ≤ VY (ins.drop i) := fun i => by
  have : ∀ l : List Ty, (∀ x ∈ l, 1 ≤ KW x) → 0 ≤ VY l := by
   intro l
   induction l with
   | nil => intro _; rw [VY]; omega
   | cons x xs ih => intro h; rw [VY]; have h1 := h x (by simp); have h2 := ih fun y hy => h y (by simp [hy]); omega
  exact this _ fun x hx => hpos x (List.mem_of_mem_drop hx)
 refine Jb Tryz.func286 rfl rfl fun w => ?_; refine JD ?_; refine Jq 2 rfl ?_; refine LN rfl fun r1 => ?_; refine Xf 13 [0] rfl rfl ?_; refine LR rfl (Jz rfl hs rfl) ?_; refine JI 4 rfl ?_; refine Jy (σ := Nat × Int) (fun s => s.1 ≤ ins.length ∧ 0 ≤ s.2 ∧ s.2 + VY (ins.drop s.1) = VY ins) (fun s => [(3, .int .i64 s.2), (7, KB ins.length p), (8, .int .i64 (ins.length : Int)), (9, .int .i64 (s.1 : Int))]) (fun _ => []) (fun _ _ _ => True) (fun s => ins.length - s.1) (0, 0) ⟨by omega, by omega, by simp⟩ (lK rfl) (List.nil_sublist _) (fun _ _ h => h) ?_; rintro ⟨i, m⟩ ⟨hi1, hm, hinv⟩; simp only at hinv hi1 hm; refine JK 6 rfl ?_; refine cD (fun g => ?_) fun g => ?_
 refine JK 5 rfl ?_
 obtain ⟨y, hy, hmem⟩ := Qs (show i < ins.length by omega)
 have hdi := hdp (i + 1)
 have hyp := hpos y hmem
 rw [WH hy, VY] at hinv; refine Jq 1 rfl ?_; refine LR rfl (Jk (j := i) rfl hs rfl rfl rfl rfl (by omega)) ?_; refine LR rfl (Qr oR rfl hs hy rfl rfl) ?_; refine LN rfl fun r2 => ?_; refine Jh (k := 0) (n := 3) (ys := y.cells) rfl rfl rfl rfl rfl y.len rfl y.one rfl ?_; refine JJ 4 rfl ?_; refine LR rfl (Jd (xs := y.cells) (n := 3) rfl (kn 0 rfl) rfl rfl y.len) ?_; refine Ji rfl rfl rfl (enters_of Tryz.func305 (by kernel_rfl) rfl) (hsub y hmem) oR ?_; refine VQ rfl (Jc (by omega) (by omega) (JJ 6 rfl ?_)); refine Jc (by omega) (by omega) ?_; refine Jx 2 rfl ?_; refine Jv ?_; exact Jo (i + 1, m + KW y) ⟨by omega, by simp only; omega, by simp only; omega⟩ (by simp only; omega) (lK rfl) (List.nil_sublist _) (fun _ _ h => h)
 ·refine Kh 12 rfl ?_; refine pT rfl rfl rfl fun w1 hs1 => ?_; refine ⟨?_, hs1.keep⟩; rw [← hinv, List.drop_of_length_le (by omega), VY, Int.add_zero]; rfl
theorem Jo5 {k n : Int} {p : Pl} {ins : List Ty} {d : Int} (hd : 0 ≤ d) (hc : chk (.mk k n p ins) d = 0) (hf : Xh (.mk k n p ins) = true) : (∀ x ∈ ins, 1 ≤ KW x) ∧ VY ins ≤ 2251799813685248 ∧ (k = 3 → 0 ≤ n * VY ins ∧ n * VY ins ≤ 2251799813685248) := by
 have hsz := Jff _ d hd hc hf
 have hb5 := Jnp (show (5 - d).toNat ≤ 5 by omega)
 obtain ⟨hk8, ho, h6, hci⟩ := Vg hc
 rw [Xh, Bool.and_eq_true] at hf
 have hfi := jw.1 hf.2
 have hsub : ∀ x ∈ ins, 1 ≤ KW x ∧ KW x ≤ bnd (5 - (d + 1)).toNat := fun x hx => Jff x (d + 1) (by omega) (hci x hx) (hfi x hx)
 have hL := xJ hsub
 refine ⟨fun x hx => (hsub x hx).1, ?_, fun h3 => ?_⟩
 ·by_cases he : ins = []
  ·subst he; rw [VY]; omega
  ·have hd5 : d < 5 := by
    obtain ⟨x, hx⟩ := List.exists_mem_of_ne_nil _ he
    cases x with
    | mk a b c e => have := (Vg (hci _ hx)).2.2.1; omega
   have hlen : ins.length ≤ 16 := by
    have h9 : k = 1 ∨ k = 2 ∨ k = 3 ∨ k = 4 ∨ k = 5 ∨ k = 6 ∨ k = 7 ∨ k = 8 := by omega
    unfold Qd at ho
    rcases h9 with rfl | rfl | rfl | rfl | rfl | rfl | rfl | rfl <;> simp [he] at ho <;> omega
   have e : (5 - d).toNat = (5 - (d + 1)).toNat + 1 := by omega
   rw [e, bnd] at hb5
   have hb2 := vu (5 - (d + 1)).toNat
   generalize bnd (5 - (d + 1)).toNat = B at *
   have : (ins.length : Int) * B ≤ 16 * B := Int.mul_le_mul_of_nonneg_right (by omega) (by omega)
   omega
 ·subst h3
  have : KW (.mk 3 n p ins) = n * VY ins := by rw [KW, if_neg (by decide), if_neg (by decide), if_neg (by decide), if_pos rfl]
  rw [this] at hsz; omega
theorem J0c {R : Jm} {k n : Int} {p : Pl} {ins : List Ty} {d : Int} (ht : Ty.In R (.mk k n p ins)) (hd : 0 ≤ d) (hc : chk (.mk k n p ins) d = 0) (hf : Xh (.mk k n p ins) = true)
  (hsub : ∀ x ∈ ins, PureR Tryz.prog 305 [x.val].toArray (.int .i64 (KW x)) R) : Enters Tryz.prog (Jo2 k) ∧ PureR Tryz.prog (Jo2 k) [Ty.val (.mk k n p ins)].toArray (.int .i64 (KW (.mk k n p ins))) R := by
 obtain ⟨hpos, hb, h3⟩ := Jo5 hd hc hf
 have hp := Juf ht hsub hpos hb
 obtain ⟨hk8, ho, h6, hci⟩ := Vg hc
 rw [Xh, Bool.and_eq_true] at hf
 have hne : (k ≠ 4 ∧ k ≠ 6) ∧ k ≠ 8 := by simpa using hf.1
 have h9 : k = 1 ∨ k = 2 ∨ k = 3 ∨ k = 5 ∨ k = 7 := by omega
 rcases h9 with rfl | rfl | rfl | rfl | rfl
 refine ⟨enters_of Tryz.func274 (by kernel_rfl) rfl, ?_⟩
 show PureR Tryz.prog 274 _ _ R
 rw [KW, if_pos rfl]; refine Jb Tryz.func274 rfl rfl fun w => ?_; refine JD ?_; refine Jq 2 rfl ?_; refine LN rfl fun r1 => ?_; refine Goq 11 [0] rfl rfl ?_; refine pT rfl rfl rfl fun w1 hs1 => ?_; exact ⟨rfl, hs1.keep⟩
 refine ⟨enters_of Tryz.func279 (by kernel_rfl) rfl, ?_⟩
 show PureR Tryz.prog 279 _ _ R
 rw [KW, if_neg (by decide), if_pos rfl]; refine Jb Tryz.func279 rfl rfl fun w => ?_; refine JD ?_; refine Jq 2 rfl ?_; refine LN rfl fun r1 => ?_; refine Jx 9 rfl ?_; refine pT rfl rfl rfl fun w1 hs1 => ?_; exact ⟨rfl, hs1.keep⟩
 refine ⟨enters_of Tryz.func285 (by kernel_rfl) rfl, ?_⟩
 show PureR Tryz.prog 285 _ _ R
 have h3' := h3 rfl
 rw [KW, if_neg (by decide), if_neg (by decide), if_neg (by decide), if_pos rfl]; refine Jb Tryz.func285 rfl rfl fun w => ?_; refine JD ?_; refine Jq 2 rfl ?_; refine LN rfl fun r1 => ?_; refine JI 4 rfl ?_; refine JE 6 (by kernel_rfl) (by kernel_rfl) ?_
 refine Ja rfl rfl rfl (JA rfl rfl rfl) ?_; refine Ja rfl rfl rfl (Je rfl (kn 0 rfl) rfl rfl) ?_; refine Ja rfl rfl rfl (Js (vs := [_, _, _]) rfl (kn 0 rfl) rfl rfl rfl rfl) ?_; refine V3 rfl rfl rfl (enters_of Tryz.func286 (by kernel_rfl) rfl) hp oR ?_; refine Ja rfl rfl rfl (J2 rfl rfl rfl) ?_; refine Q9 (by omega) (by omega) ?_; refine Ja rfl rfl rfl (JC rfl) ?_; refine JS ?_; refine Jx 3 rfl ?_; refine pT rfl rfl rfl fun w1 hs1 => ?_; exact ⟨rfl, hs1.keep⟩
 refine ⟨enters_of Tryz.func292 (by kernel_rfl) rfl, ?_⟩
 show PureR Tryz.prog 292 _ _ R
 have hbit : 1 ≤ n ∧ n ≤ 512 := by simp [Qd] at ho; omega
 rw [KW, if_neg (by decide), if_neg (by decide), if_pos rfl]; refine Jb Tryz.func292 rfl rfl fun w => ?_; refine JD ?_; refine Jq 2 rfl ?_; refine LN rfl fun r1 => ?_; refine Xf 8 [0] rfl rfl ?_; refine Jc (by omega) (by omega) ?_; refine VQ rfl (Jc (by omega) (by omega) ?_); refine VQ rfl (Je8 (by omega) (by omega) (by omega) (Jx 4 rfl ?_)); refine pT rfl rfl rfl fun w1 hs1 => ?_; exact ⟨congrArg (fun z => Ending.returned (Value.int .i64 z)) (by omega), hs1.keep⟩
 ·refine ⟨enters_of Tryz.func297 (by kernel_rfl) rfl, ?_⟩
  show PureR Tryz.prog 297 _ _ R
  rw [KW, if_neg (by decide), if_neg (by decide), if_neg (by decide), if_neg (by decide)]; refine Jb Tryz.func297 rfl rfl fun w => ?_; refine JD ?_; refine Jq 2 rfl ?_; refine LN rfl fun r1 => ?_; refine JJ 5 rfl ?_; refine LR rfl (Js (vs := [_, _, _]) rfl (kn 0 rfl) rfl rfl rfl rfl) ?_; refine Ji rfl rfl rfl (enters_of Tryz.func286 (by kernel_rfl) rfl) hp oR ?_; refine Jx 4 rfl ?_; refine pT rfl rfl rfl fun w1 hs1 => ?_; exact ⟨rfl, hs1.keep⟩
theorem Jx3 {R : Jm} {t : Ty} (ht : t.In R) : ∀ d : Int, 0 ≤ d → chk t d = 0 → Xh t = true → PureR Tryz.prog 305 [t.val].toArray (.int .i64 (KW t)) R := by
 induction ht with
 | @mk k n p ins hk hn hl hs hi ih =>
 intro d hd hc hf
 obtain ⟨hk8, ho, h6, hci⟩ := Vg hc
 have hkk := Wp.2 hk8
 have hf0 := hf
 rw [Xh, Bool.and_eq_true] at hf0
 have hfi := jw.1 hf0.2
 have hz := J0c (.mk hk hn hl hs hi : Ty.In R (.mk k n p ins)) hd hc hf fun x hx => ih x hx (d + 1) (by omega) (hci x hx) (hfi x hx)
 have hvb : (isK k && !Jf6 k) = true := by rw [hkk, Jio hkk]; exact hf0.1
 refine Jb Tryz.func305 rfl rfl fun w => ?_; refine JD ?_; refine Jq 2 rfl ?_; refine LN rfl fun r1 => ?_; refine JI 4 rfl ?_
 refine JT [] [(0, .grow (Qe 0 (fun r : Nat => Value.map (some r)) (fun r => [(r, Jk7)]))), (1, .pure), (4, .pure), (7, .pure)] 8 [1, 2, 5, 0, 3, 4, 6, 7] (by kernel_rfl) (by kernel_rfl) (by first | exact (fun _ h => absurd h List.not_mem_nil) | simp [SubS] | (intro p hp; simp [hp])) ?_
 refine Jp (k := 1) rfl rfl rfl rfl rfl (fun _ hS => (JA rfl rfl rfl)) ?_; refine KE (k := 2) rfl rfl rfl rfl rfl (Je rfl (kn 0 rfl) rfl rfl) ?_; refine KE (k := 5) rfl rfl rfl rfl rfl (Js (vs := [_, _, _]) rfl (kn 0 rfl) rfl rfl rfl rfl) ?_; refine WV (k := 0) rfl rfl rfl rfl rfl Jdh jF fun mr => ?_; refine KE (k := 3) rfl rfl rfl rfl rfl (Xe (Xz (t := 3) (by kernel_rfl)) rfl rfl (kn 0 rfl) rfl rfl ⟨_, rfl⟩ YX (Zp hkk)) ?_; refine Jp (k := 4) rfl rfl rfl rfl rfl (fun _ hS => (J2 rfl rfl rfl)) ?_; refine Ww (Jin hvb) ?_; refine Qa (k := 6) rfl rfl rfl rfl rfl hz.1 hz.2 oR ?_; refine Jp (k := 7) rfl rfl rfl rfl rfl (fun _ hS => (JC rfl)) ?_; refine Kx ?_; refine Jx 3 rfl ?_; refine pT rfl rfl rfl fun w1 hs1 => ?_; exact ⟨rfl, hs1.keep⟩
theorem Jo6 {R : Jm} {t : Ty} (ht : t.In R) : PureR Tryz.prog 221 [t.val].toArray (.int .i64 (zh t)) R := by
 have h1 := Jir ht
 have h2 := Jx3 ht 0 (by omega)
 obtain ⟨k, n, p, ins⟩ := t
 refine Jb Tryz.func221 rfl rfl fun w => ?_; refine JD ?_; refine Jq 2 rfl ?_; refine LN rfl fun r1 => ?_; refine JJ 6 rfl ?_; refine LR rfl (Js (vs := [_, _, _]) rfl (kn 0 rfl) rfl rfl rfl rfl) ?_; refine Ji rfl rfl rfl (enters_of Tryz.func304 (by kernel_rfl) rfl) h1 oR ?_; refine JI 3 rfl ?_; refine cD (fun g => ?_) fun g => ?_
 refine Kh 7 rfl ?_; refine pT rfl rfl rfl fun w1 hs1 => ?_; refine ⟨?_, hs1.keep⟩
 simp_all [zh, JG]
 ·refine Jq 4 rfl ?_; refine LR rfl (Js (vs := [_, _, _]) rfl (kn 0 rfl) rfl rfl rfl rfl) ?_; refine Ji rfl rfl rfl (enters_of Tryz.func305 (by kernel_rfl) rfl) (h2 (Yf.1 (by assumption)).1 (Yf.1 (by assumption)).2) oR ?_; refine Jx 4 rfl ?_; refine pT rfl rfl rfl fun w1 hs1 => ?_; refine ⟨?_, hs1.keep⟩
  simp_all [zh, JG]
def X5 (r : Nat) (v : Vl) : Nat × Obj := (r, .cells v.cells.toArray 89 (0, 0))
def zVl : Vl := .mk 0 0 0 0 [] none [] none 0
def clV (f : FuncId) (r : Nat) : Value := .func (.func f) #[] #[.pointer (some ⟨r, 0, none⟩)]
def Jdn (f : FuncId) (v out : Vl) : Prop := ∀ r1 rr : Nat, r1 ≠ rr → PureMR Tryz.prog f [.pointer (some ⟨rr, 0, none⟩), .pointer (some ⟨r1, 0, none⟩)].toArray (.tuple #[]) rr (X5 rr zVl).2 (X5 rr out).2 [X5 r1 v]
theorem Jo7 (a b c d : Nat) (bits : List Bool) (pb : Pl) (items : List Vl) (pi : Pl) (pick : Int) : Jdn 335 (.mk a b c d bits pb items pi pick) (.mk a b c d [] none [] none 0) := fun r1 rr hne => by
 refine WQ (fun p hp => by rw [List.mem_singleton.1 hp]; exact hne) Tryz.func335 rfl rfl fun w => ?_; refine JD ?_; refine Jq 3 rfl ?_; refine LR rfl (Js (vs := [_, _, _, _]) rfl (J5 (k := 0) rfl) rfl rfl rfl rfl) ?_; refine LS 2 [] rfl rfl ?_
 refine LT 0 rfl rfl ?_; refine Jx 1 rfl ?_; refine Kv rfl rfl .nil (fun w1 hs1 => ?_); exact ⟨rfl, _, List.mem_cons_self, hs1⟩
theorem Jug (a b c d : Nat) (bits : List Bool) (pb : Pl) (items : List Vl) (pi : Pl) (pick : Int) : Jdn 337 (.mk a b c d bits pb items pi pick) (.mk 0 0 0 0 [] none items pi 0) := fun r1 rr hne => by
 refine WQ (fun p hp => by rw [List.mem_singleton.1 hp]; exact hne) Tryz.func337 rfl rfl fun w => ?_; refine JD ?_; refine Jq 3 rfl ?_; refine LR rfl (Je rfl (J5 (k := 0) rfl) rfl rfl) ?_; refine LS 2 [] rfl rfl ?_
 refine LT 0 rfl rfl ?_; refine Jx 1 rfl ?_; refine Kv rfl rfl .nil (fun w1 hs1 => ?_); exact ⟨rfl, _, List.mem_cons_self, hs1⟩
theorem Jx4 (a b c d : Nat) (bits : List Bool) (pb : Pl) (items : List Vl) (pi : Pl) (pick : Int) : Jdn 338 (.mk a b c d bits pb items pi pick) (.mk 0 0 0 0 bits pb [] none 0) := fun r1 rr hne => by
 refine WQ (fun p hp => by rw [List.mem_singleton.1 hp]; exact hne) Tryz.func338 rfl rfl fun w => ?_; refine JD ?_; refine Jq 3 rfl ?_; refine LR rfl (Je rfl (J5 (k := 0) rfl) rfl rfl) ?_; refine LS 2 [] rfl rfl ?_
 refine LT 0 rfl rfl ?_; refine Jx 1 rfl ?_; refine Kv rfl rfl .nil (fun w1 hs1 => ?_); exact ⟨rfl, _, List.mem_cons_self, hs1⟩
theorem Jx5 (a b c d : Nat) (bits : List Bool) (pb : Pl) (items : List Vl) (pi : Pl) (pick : Int) : Jdn 339 (.mk a b c d bits pb items pi pick) (.mk 0 0 0 0 [] none items pi pick) := fun r1 rr hne => by
 refine WQ (fun p hp => by rw [List.mem_singleton.1 hp]; exact hne) Tryz.func339 rfl rfl fun w => ?_; refine JD ?_
 refine JT [] [(0, .pure), (1, .pure), (2, .pure), (3, .pure), (4, .pure), (5, .pure), (6, .pure), (7, .pure), (8, .turn), (9, .pure), (10, .pure), (11, .turn)] 12 [0, 1, 2, 3, 4, 5, 6, 7, 8, 9, 10, 11] (by kernel_rfl) (by kernel_rfl) (by first | exact (fun _ h => absurd h List.not_mem_nil) | simp [SubS] | (intro p hp; simp [hp])) ?_; refine Jp (k := 0) rfl rfl rfl rfl rfl (fun _ hS => (Jf rfl)) ?_; refine Jp (k := 1) rfl rfl rfl rfl rfl (fun _ hS => (Jf rfl)) ?_
 refine Jp (k := 2) rfl rfl rfl rfl rfl (fun _ hS => (JA rfl rfl rfl)) ?_; refine Jp (k := 3) rfl rfl rfl rfl rfl (fun _ hS => (Je rfl (J5 (k := 0) rfl) rfl rfl)) ?_
 refine Jp (k := 4) rfl rfl rfl rfl rfl (fun _ hS => (JA rfl rfl rfl)) ?_; refine Jp (k := 5) rfl rfl rfl rfl rfl (fun _ hS => (Je rfl (J5 (k := 0) rfl) rfl rfl)) ?_; refine Jp (k := 6) rfl rfl rfl rfl rfl (fun _ hS => (J2 rfl rfl rfl)) ?_
 refine Jp (k := 7) rfl rfl rfl rfl rfl (fun _ hS => (JA rfl rfl rfl)) ?_
 refine Ya (k := 8) (q := 0) rfl rfl rfl rfl rfl rfl rfl rfl rfl (by first | (simp only [List.setIfInBounds_toArray, List.set_cons_zero, List.set_cons_succ]; exact rfl) | exact rfl) (by first | (simp only [List.set_cons_zero, List.set_cons_succ]; exact rfl) | exact rfl) (by first | exact (fun _ h => absurd h List.not_mem_nil) | simp [SubS] | (intro p hp; simp [hp])) ?_; refine Jp (k := 9) rfl rfl rfl rfl rfl (fun _ hS => (J2 rfl rfl rfl)) ?_
 refine Jp (k := 10) rfl rfl rfl rfl rfl (fun _ hS => (JA rfl rfl rfl)) ?_
 refine Ya (k := 11) (q := 0) rfl rfl rfl rfl rfl rfl rfl rfl rfl (by first | (simp only [List.setIfInBounds_toArray, List.set_cons_zero, List.set_cons_succ]; exact rfl) | exact rfl) (by first | (simp only [List.set_cons_zero, List.set_cons_succ]; exact rfl) | exact rfl) (by first | exact (fun _ h => absurd h List.not_mem_nil) | simp [SubS] | (intro p hp; simp [hp])) ?_; refine Kx ?_; refine Jx 1 rfl ?_; refine Kv rfl rfl .nil (fun w1 hs1 => ?_); exact ⟨rfl, _, List.mem_cons_self, hs1⟩
theorem Jan {R : Jm} {v out : Vl} {f : FuncId} {rv : Nat} (ef : Enters Tryz.prog f) (hv : v.In R) (ho : out.In R) (hk : Jdn f v out) (hr : X5 rv v ∈ R) : PureR Tryz.prog 334 [v.val, clV f rv].toArray (.bool (Xi v out)) R := by
 have hsm := Jx2 hv out ho
 obtain ⟨a, b, c, d, bits, pb, items, pi, pick⟩ := v
 obtain ⟨a', b', c', d', bits', pb', items', pi', pick'⟩ := out
 refine Jb Tryz.func334 rfl rfl fun w => ?_; refine JD ?_; refine Jq 2 rfl ?_; refine LN rfl fun r1 => ?_; refine JJ 5 rfl ?_; refine LN rfl fun r2 => ?_; refine JJ 5 rfl ?_; refine Jkr (k := 0) rfl rfl rfl ef rfl (fun hne => hk rv r2 (hne _ List.mem_cons_self)) (fun q hq => by rw [List.mem_singleton.1 hq]; exact hr) rfl ?_; refine Xf 6 [1, 0] rfl rfl ?_; refine Ji rfl rfl rfl (enters_of Tryz.func362 (by kernel_rfl) rfl) hsm oR ?_; refine Jx 4 rfl ?_; refine pT rfl rfl rfl fun w1 hs1 => ?_; exact ⟨rfl, hs1.keep⟩
theorem vF {R : Jm} {a b c d : Nat} {bits : List Bool} {pb : Pl} {items : List Vl} {pi : Pl} {pick : Int} (h : Vl.In R (.mk a b c d bits pb items pi pick)) : Vl.In R (.mk a b c d [] none [] none 0) ∧ Vl.In R (.mk 0 0 0 0 [] none items pi 0) ∧ Vl.In R (.mk 0 0 0 0 bits pb [] none 0) ∧ Vl.In R (.mk 0 0 0 0 [] none items pi pick) := by
 cases h with
 | mk ha hb hc hd hlb hsb hl hs hp hi =>
 have z : VV 0 := by unfold VV; omega
 have i0 : qH 0 := by unfold qH; omega
 refine ⟨.mk ha hb hc hd (by simp) rfl (by simp) rfl i0 (by simp), .mk z z z z (by simp) rfl hl hs i0 hi, .mk z z z z hlb hsb (by simp) rfl i0 (by simp), .mk z z z z (by simp) rfl hl hs hp hi⟩
theorem wv (l : List Vl) : VG l l = true := Wf.2 ⟨rfl, fun i x y hx hy => by rw [hx] at hy; cases hy; exact Jfg x⟩
theorem zx (l : List Vl) : VG l [] = decide (l.length = 0) := by cases l <;> simp [VG]
theorem Jdo {a b c d : Nat} {bits : List Bool} {pb : Pl} {items : List Vl} {pi : Pl} {pick : Int} : Xi (.mk a b c d bits pb items pi pick) (.mk a b c d [] none [] none 0) = QS (.mk a b c d bits pb items pi pick) true false false false := by
 rw [YV, Vk, zx]
 by_cases h1 : bits = [] <;> by_cases h2 : items = [] <;> by_cases h3 : pick = 0 <;> simp [h1, h2, h3]
theorem Jf9 {a b c d : Nat} {bits : List Bool} {pb : Pl} {items : List Vl} {pi : Pl} {pick : Int} : Xi (.mk a b c d bits pb items pi pick) (.mk 0 0 0 0 [] none items pi 0) = QS (.mk a b c d bits pb items pi pick) false false true false := by
 rw [YV, Vk, wv]
 by_cases h1 : bits = [] <;> by_cases h3 : pick = 0 <;> simp [h1, h3]
theorem Jk8 {a b c d : Nat} {bits : List Bool} {pb : Pl} {items : List Vl} {pi : Pl} {pick : Int} : Xi (.mk a b c d bits pb items pi pick) (.mk 0 0 0 0 bits pb [] none 0) = QS (.mk a b c d bits pb items pi pick) false true false false := by
 rw [YV, Vk, zx]
 by_cases h2 : items = [] <;> by_cases h3 : pick = 0 <;> simp [h2, h3]
theorem Jk9 {a b c d : Nat} {bits : List Bool} {pb : Pl} {items : List Vl} {pi : Pl} {pick : Int} : Xi (.mk a b c d bits pb items pi pick) (.mk 0 0 0 0 [] none items pi pick) = QS (.mk a b c d bits pb items pi pick) false false true true := by
 rw [YV, Vk, wv]
 by_cases h1 : bits = [] <;> simp [h1]
theorem W5 {R : Jm} {v : Vl} (hv : v.In R) : PureR Tryz.prog 273 [v.val].toArray (.bool (QS v true false false false)) R := by
 obtain ⟨a, b, c, d, bits, pb, items, pi, pick⟩ := v
 have hb4 := vF hv
 refine Jb Tryz.func273 rfl rfl fun w => ?_; refine JD ?_; rw [← Jdo (pb := pb) (pi := pi)]; refine Jq 2 rfl ?_; refine LN rfl fun r1 => ?_; refine JJ 5 rfl ?_; refine LR rfl (Js (vs := [_, _, _, _, _, _, _]) rfl (kn 0 rfl) rfl rfl rfl rfl) ?_; refine LR rfl (JN rfl rfl) ?_
 refine Ji (Rl := X5 r1 (.mk a b c d bits pb items pi pick) :: R) rfl rfl rfl Jim (Jan (enters_of Tryz.func335 (by kernel_rfl) rfl) (hv.mono fun q hq => List.mem_cons_of_mem _ hq) (hb4.1.mono fun q hq => List.mem_cons_of_mem _ hq) (Jo7 a b c d bits pb items pi pick) List.mem_cons_self) (fun q hq => by rcases List.mem_cons.1 hq with rfl | hq; exact .inl List.mem_cons_self; exact .inr hq) ?_; refine Jx 4 rfl ?_; refine pT rfl rfl rfl fun w1 hs1 => ?_; exact ⟨rfl, hs1.keep⟩
theorem XE {R : Jm} {v : Vl} (hv : v.In R) : PureR Tryz.prog 284 [v.val].toArray (.bool (QS v false false true false)) R := by
 obtain ⟨a, b, c, d, bits, pb, items, pi, pick⟩ := v
 have hb4 := vF hv
 refine Jb Tryz.func284 rfl rfl fun w => ?_; refine JD ?_; rw [← Jf9 (pb := pb) (pi := pi)]; refine Jq 2 rfl ?_; refine LN rfl fun r1 => ?_; refine JJ 5 rfl ?_; refine LR rfl (Js (vs := [_, _, _, _, _, _, _]) rfl (kn 0 rfl) rfl rfl rfl rfl) ?_; refine LR rfl (JN rfl rfl) ?_
 refine Ji (Rl := X5 r1 (.mk a b c d bits pb items pi pick) :: R) rfl rfl rfl Jim (Jan (enters_of Tryz.func337 (by kernel_rfl) rfl) (hv.mono fun q hq => List.mem_cons_of_mem _ hq) (hb4.2.1.mono fun q hq => List.mem_cons_of_mem _ hq) (Jug a b c d bits pb items pi pick) List.mem_cons_self) (fun q hq => by rcases List.mem_cons.1 hq with rfl | hq; exact .inl List.mem_cons_self; exact .inr hq) ?_; refine Jx 4 rfl ?_; refine pT rfl rfl rfl fun w1 hs1 => ?_; exact ⟨rfl, hs1.keep⟩
theorem Za {R : Jm} {v : Vl} (hv : v.In R) : PureR Tryz.prog 291 [v.val].toArray (.bool (QS v false true false false)) R := by
 obtain ⟨a, b, c, d, bits, pb, items, pi, pick⟩ := v
 have hb4 := vF hv
 refine Jb Tryz.func291 rfl rfl fun w => ?_; refine JD ?_; rw [← Jk8 (pb := pb) (pi := pi)]; refine Jq 2 rfl ?_; refine LN rfl fun r1 => ?_; refine JJ 5 rfl ?_; refine LR rfl (Js (vs := [_, _, _, _, _, _, _]) rfl (kn 0 rfl) rfl rfl rfl rfl) ?_; refine LR rfl (JN rfl rfl) ?_
 refine Ji (Rl := X5 r1 (.mk a b c d bits pb items pi pick) :: R) rfl rfl rfl Jim (Jan (enters_of Tryz.func338 (by kernel_rfl) rfl) (hv.mono fun q hq => List.mem_cons_of_mem _ hq) (hb4.2.2.1.mono fun q hq => List.mem_cons_of_mem _ hq) (Jx4 a b c d bits pb items pi pick) List.mem_cons_self) (fun q hq => by rcases List.mem_cons.1 hq with rfl | hq; exact .inl List.mem_cons_self; exact .inr hq) ?_; refine Jx 4 rfl ?_; refine pT rfl rfl rfl fun w1 hs1 => ?_; exact ⟨rfl, hs1.keep⟩
theorem Zb {R : Jm} {v : Vl} (hv : v.In R) : PureR Tryz.prog 300 [v.val].toArray (.bool (QS v false false true true)) R := by
 obtain ⟨a, b, c, d, bits, pb, items, pi, pick⟩ := v
 have hb4 := vF hv
 refine Jb Tryz.func300 rfl rfl fun w => ?_; refine JD ?_; rw [← Jk9 (pb := pb) (pi := pi)]; refine Jq 2 rfl ?_; refine LN rfl fun r1 => ?_; refine JJ 5 rfl ?_; refine LR rfl (Js (vs := [_, _, _, _, _, _, _]) rfl (kn 0 rfl) rfl rfl rfl rfl) ?_; refine LR rfl (JN rfl rfl) ?_
 refine Ji (Rl := X5 r1 (.mk a b c d bits pb items pi pick) :: R) rfl rfl rfl Jim (Jan (enters_of Tryz.func339 (by kernel_rfl) rfl) (hv.mono fun q hq => List.mem_cons_of_mem _ hq) (hb4.2.2.2.mono fun q hq => List.mem_cons_of_mem _ hq) (Jx5 a b c d bits pb items pi pick) List.mem_cons_self) (fun q hq => by rcases List.mem_cons.1 hq with rfl | hq; exact .inl List.mem_cons_self; exact .inr hq) ?_; refine Jx 4 rfl ?_; refine pT rfl rfl rfl fun w1 hs1 => ?_; exact ⟨rfl, hs1.keep⟩
theorem qT {l : List Nat} (hl : WOk l) : (!zf [1, 0, 0, 0] l) = (decide (l = [0, 0, 0, 0]) || decide (l = [1, 0, 0, 0])) := by
 have h0 : WOk [0, 0, 0, 0] := ⟨rfl, fun x hx => by simp at hx; omega⟩
 have h1 : WOk [1, 0, 0, 0] := ⟨rfl, fun x hx => by simp at hx; omega⟩
 rw [Jnj h1 hl, show wN [1, 0, 0, 0] = 1 from rfl]
 by_cases e0 : l = [0, 0, 0, 0]
 ·subst e0; rfl
 by_cases e1 : l = [1, 0, 0, 0]
 ·subst e1; rfl
 have n0 : wN l ≠ 0 := fun h => e0 (Jnh hl h0 h)
 have n1 : wN l ≠ 1 := fun h => e1 (Jnh hl h1 h)
 simp [e0, e1]
 omega
theorem O_1 {R : Jm} {n : Int} {p : Pl} {ins : List Ty} {v : Vl} (ht : Ty.In R (.mk 1 n p ins)) (hv : v.In R) : PureR Tryz.prog 272 [Ty.val (.mk 1 n p ins), v.val].toArray (.bool (ofT 1 n ins.length v)) R := by
 have hnu := W5 hv
 have hit := XE hv
 have hbi := Za hv
 have hpk := Zb hv
 cases ht with
 | mk hk hn hlt hst hit0 =>
 cases hv with
 | @mk a b c d bits pb items pi pick ha hb hc hd hlb hsb hl hs hp hi =>
 have hw : WOk [a, b, c, d] := ⟨rfl, fun x hx => by simp at hx; rcases hx with rfl | rfl | rfl | rfl <;> assumption⟩
 have hw1 : WOk [1, 0, 0, 0] := ⟨rfl, fun x hx => by simp at hx; omega⟩
 have hl1 := qT hw
 rw [V0 _ n ins.length a b c d bits pb items pi pick _ rfl]; refine Jb Tryz.func272 rfl rfl fun w => ?_; refine JD ?_; refine Jq 2 rfl ?_; refine LN rfl fun r1 => ?_; refine LN rfl fun r2 => ?_; refine JI 4 rfl ?_; refine JE 12 (by kernel_rfl) (by kernel_rfl) ?_; refine Ja rfl rfl rfl (Js (vs := [_, _, _, _, _, _, _]) rfl (kn 0 rfl) rfl rfl rfl rfl) ?_; refine V3 rfl rfl rfl (enters_of Tryz.func273 (by kernel_rfl) rfl) hnu oR ?_; refine Ja rfl rfl rfl (Jf rfl) ?_
 refine X7 7 rfl (fun gb => ?_) (fun gb => ?_) <;> (try simp only [ZZ] at gb) <;> first | (refine Ja rfl rfl rfl (JA rfl rfl rfl) ?_) | (refine J7 rfl rfl rfl ?_)
 all_goals first | refine Ja rfl rfl rfl (Js (vs := [_, _, _, _]) rfl (kn 0 rfl) rfl rfl rfl rfl) ?_ | refine J7 rfl rfl rfl ?_
 all_goals first | (refine Ky rfl rfl rfl (enters_of Tryz.func200 (by kernel_rfl) rfl) (jE hw) ?_) | refine J7 rfl rfl rfl ?_
 all_goals first | refine Ja rfl rfl rfl (KK rfl rfl) ?_ | refine J7 rfl rfl rfl ?_
 all_goals first | refine Ja rfl rfl rfl (JA rfl rfl rfl) ?_ | refine J7 rfl rfl rfl ?_
 all_goals first | refine Ja rfl rfl rfl (Je rfl (kn 1 rfl) rfl rfl) ?_ | refine J7 rfl rfl rfl ?_
 all_goals first | refine Ja rfl rfl rfl (J2 rfl rfl rfl) ?_ | refine J7 rfl rfl rfl ?_
 all_goals first | refine Ja rfl rfl rfl (VO rfl rfl) ?_ | refine Ja rfl rfl rfl (VP rfl rfl) ?_
 all_goals (
  refine Ja rfl rfl rfl (JC rfl) (JS (Jx 1 rfl (ZT 2 rfl ?_))); refine pT rfl rfl rfl fun w1 hs1 => ?_; refine ⟨?_, hs1.keep⟩
  simp_all [JG]
  skip)
theorem O_2 {R : Jm} {n : Int} {p : Pl} {ins : List Ty} {v : Vl} (ht : Ty.In R (.mk 2 n p ins)) (hv : v.In R) : PureR Tryz.prog 277 [Ty.val (.mk 2 n p ins), v.val].toArray (.bool (ofT 2 n ins.length v)) R := by
 have hnu := W5 hv
 have hit := XE hv
 have hbi := Za hv
 have hpk := Zb hv
 cases ht with
 | mk hk hn hlt hst hit0 =>
 cases hv with
 | @mk a b c d bits pb items pi pick ha hb hc hd hlb hsb hl hs hp hi =>
 have hw : WOk [a, b, c, d] := ⟨rfl, fun x hx => by simp at hx; rcases hx with rfl | rfl | rfl | rfl <;> assumption⟩
 have hw1 : WOk [1, 0, 0, 0] := ⟨rfl, fun x hx => by simp at hx; omega⟩
 have hl1 := qT hw
 rw [V0 _ n ins.length a b c d bits pb items pi pick _ rfl]; refine Jb Tryz.func277 rfl rfl fun w => ?_; refine JD ?_; refine Jq 2 rfl ?_; refine LN rfl fun r1 => ?_; refine LN rfl fun r2 => ?_; refine JI 4 rfl ?_; refine JE 10 (by kernel_rfl) (by kernel_rfl) ?_; refine Ja rfl rfl rfl (Js (vs := [_, _, _, _, _, _, _]) rfl (kn 0 rfl) rfl rfl rfl rfl) ?_; refine V3 rfl rfl rfl (enters_of Tryz.func273 (by kernel_rfl) rfl) hnu oR ?_; refine Ja rfl rfl rfl (Jf rfl) ?_
 refine X7 7 rfl (fun gb => ?_) (fun gb => ?_) <;> (try simp only [ZZ] at gb) <;> first | (refine Ky rfl rfl rfl qR (VK ..) ?_) | (refine J7 rfl rfl rfl ?_)
 all_goals first | refine Ja rfl rfl rfl (JA rfl rfl rfl) ?_ | refine J7 rfl rfl rfl ?_
 all_goals first | refine Ja rfl rfl rfl (Js (vs := [_, _, _, _]) rfl (kn 0 rfl) rfl rfl rfl rfl) ?_ | refine J7 rfl rfl rfl ?_
 all_goals first | (refine Ky rfl rfl rfl (enters_of Tryz.func278 (by kernel_rfl) rfl) (Jdi hw1 hw) ?_) | refine J7 rfl rfl rfl ?_
 all_goals first | refine Ja rfl rfl rfl (J2 rfl rfl rfl) ?_ | refine J7 rfl rfl rfl ?_
 all_goals first | refine Ja rfl rfl rfl (VO rfl rfl) ?_ | refine Ja rfl rfl rfl (VP rfl rfl) ?_
 all_goals (
  refine Ja rfl rfl rfl (JC rfl) (JS (Jx 1 rfl (ZT 2 rfl ?_))); refine pT rfl rfl rfl fun w1 hs1 => ?_; refine ⟨?_, hs1.keep⟩
  simp_all [JG]
  skip)
theorem O_3 {R : Jm} {n : Int} {p : Pl} {ins : List Ty} {v : Vl} (ht : Ty.In R (.mk 3 n p ins)) (hv : v.In R) : PureR Tryz.prog 283 [Ty.val (.mk 3 n p ins), v.val].toArray (.bool (ofT 3 n ins.length v)) R := by
 have hnu := W5 hv
 have hit := XE hv
 have hbi := Za hv
 have hpk := Zb hv
 cases ht with
 | mk hk hn hlt hst hit0 =>
 cases hv with
 | @mk a b c d bits pb items pi pick ha hb hc hd hlb hsb hl hs hp hi =>
 have hw : WOk [a, b, c, d] := ⟨rfl, fun x hx => by simp at hx; rcases hx with rfl | rfl | rfl | rfl <;> assumption⟩
 have hw1 : WOk [1, 0, 0, 0] := ⟨rfl, fun x hx => by simp at hx; omega⟩
 have hl1 := qT hw
 rw [V0 _ n ins.length a b c d bits pb items pi pick _ rfl]; refine Jb Tryz.func283 rfl rfl fun w => ?_; refine JD ?_; refine Jq 2 rfl ?_; refine LN rfl fun r1 => ?_; refine LN rfl fun r2 => ?_; refine JJ 5 rfl ?_; refine LR rfl (Js (vs := [_, _, _, _, _, _, _]) rfl (kn 0 rfl) rfl rfl rfl rfl) ?_; refine Ji rfl rfl rfl Jov hit oR ?_; refine Q1 rfl ?_
 refine J6 7 rfl (fun gb => ?_) (fun gb => ?_) <;> (try simp only [ZZ] at gb) <;> first | (refine LR rfl (JA rfl rfl rfl) ?_) | (refine LK rfl ?_)
 all_goals refine LW 1 [0] rfl rfl ?_
 all_goals first | refine LR rfl (Jz rfl hs rfl) ?_ | refine LK rfl ?_
 all_goals first | refine LR rfl (JA rfl rfl rfl) ?_ | refine LK rfl ?_
 all_goals (
  refine LW 4 [1] rfl rfl (Jx 1 rfl (ZT 2 rfl ?_)); refine pT rfl rfl rfl fun w1 hs1 => ?_; refine ⟨?_, hs1.keep⟩
  simp_all [JG]
  all_goals first | done | rfl | omega | (rw [Bool.eq_iff_iff]; simp only [Bool.and_eq_true, Bool.or_eq_true, decide_eq_true_eq, beq_iff_eq]; omega) | (simp only [decide_eq_true_eq, decide_eq_false_iff_not]; omega)
  skip)
theorem O_4 {R : Jm} {n : Int} {p : Pl} {ins : List Ty} {v : Vl} (ht : Ty.In R (.mk 4 n p ins)) (hv : v.In R) : PureR Tryz.prog 288 [Ty.val (.mk 4 n p ins), v.val].toArray (.bool (ofT 4 n ins.length v)) R := by
 have hnu := W5 hv
 have hit := XE hv
 have hbi := Za hv
 have hpk := Zb hv
 cases ht with
 | mk hk hn hlt hst hit0 =>
 cases hv with
 | @mk a b c d bits pb items pi pick ha hb hc hd hlb hsb hl hs hp hi =>
 have hw : WOk [a, b, c, d] := ⟨rfl, fun x hx => by simp at hx; rcases hx with rfl | rfl | rfl | rfl <;> assumption⟩
 have hw1 : WOk [1, 0, 0, 0] := ⟨rfl, fun x hx => by simp at hx; omega⟩
 have hl1 := qT hw
 rw [V0 _ n ins.length a b c d bits pb items pi pick _ rfl]; refine Jb Tryz.func288 rfl rfl fun w => ?_; refine JD ?_; refine Jq 2 rfl ?_; refine LN rfl fun r1 => ?_; refine LN rfl fun r2 => ?_; refine JJ 5 rfl ?_; refine LR rfl (Js (vs := [_, _, _, _, _, _, _]) rfl (kn 0 rfl) rfl rfl rfl rfl) ?_; refine Ji rfl rfl rfl Jov hit oR ?_; refine Jx 4 rfl ?_; refine pT rfl rfl rfl fun w1 hs1 => ?_; refine ⟨?_, hs1.keep⟩
 simp_all [JG]
theorem O_5 {R : Jm} {n : Int} {p : Pl} {ins : List Ty} {v : Vl} (ht : Ty.In R (.mk 5 n p ins)) (hv : v.In R) : PureR Tryz.prog 290 [Ty.val (.mk 5 n p ins), v.val].toArray (.bool (ofT 5 n ins.length v)) R := by
 have hnu := W5 hv
 have hit := XE hv
 have hbi := Za hv
 have hpk := Zb hv
 cases ht with
 | mk hk hn hlt hst hit0 =>
 cases hv with
 | @mk a b c d bits pb items pi pick ha hb hc hd hlb hsb hl hs hp hi =>
 have hw : WOk [a, b, c, d] := ⟨rfl, fun x hx => by simp at hx; rcases hx with rfl | rfl | rfl | rfl <;> assumption⟩
 have hw1 : WOk [1, 0, 0, 0] := ⟨rfl, fun x hx => by simp at hx; omega⟩
 have hl1 := qT hw
 rw [V0 _ n ins.length a b c d bits pb items pi pick _ rfl]; refine Jb Tryz.func290 rfl rfl fun w => ?_; refine JD ?_; refine Jq 2 rfl ?_; refine LN rfl fun r1 => ?_; refine LN rfl fun r2 => ?_; refine JJ 5 rfl ?_; refine LR rfl (Js (vs := [_, _, _, _, _, _, _]) rfl (kn 0 rfl) rfl rfl rfl rfl) ?_; refine Ji rfl rfl rfl (enters_of Tryz.func291 (by kernel_rfl) rfl) hbi oR ?_; refine Q1 rfl ?_
 refine J6 7 rfl (fun gb => ?_) (fun gb => ?_) <;> (try simp only [ZZ] at gb) <;> first | (refine LR rfl (JA rfl rfl rfl) ?_) | (refine LK rfl ?_)
 all_goals refine LW 1 [0] rfl rfl ?_
 all_goals first | refine LR rfl (Jz rfl hsb rfl) ?_ | refine LK rfl ?_
 all_goals first | refine LR rfl (JA rfl rfl rfl) ?_ | refine LK rfl ?_
 all_goals (
  refine LW 4 [1] rfl rfl (Jx 1 rfl (ZT 2 rfl ?_)); refine pT rfl rfl rfl fun w1 hs1 => ?_; refine ⟨?_, hs1.keep⟩
  simp_all [JG]
  all_goals first | done | rfl | omega | (rw [Bool.eq_iff_iff]; simp only [Bool.and_eq_true, Bool.or_eq_true, decide_eq_true_eq, beq_iff_eq]; omega) | (simp only [decide_eq_true_eq, decide_eq_false_iff_not]; omega)
  skip)
theorem O_6 {R : Jm} {n : Int} {p : Pl} {ins : List Ty} {v : Vl} (ht : Ty.In R (.mk 6 n p ins)) (hv : v.In R) : PureR Tryz.prog 294 [Ty.val (.mk 6 n p ins), v.val].toArray (.bool (ofT 6 n ins.length v)) R := by
 have hnu := W5 hv
 have hit := XE hv
 have hbi := Za hv
 have hpk := Zb hv
 cases ht with
 | mk hk hn hlt hst hit0 =>
 cases hv with
 | @mk a b c d bits pb items pi pick ha hb hc hd hlb hsb hl hs hp hi =>
 have hw : WOk [a, b, c, d] := ⟨rfl, fun x hx => by simp at hx; rcases hx with rfl | rfl | rfl | rfl <;> assumption⟩
 have hw1 : WOk [1, 0, 0, 0] := ⟨rfl, fun x hx => by simp at hx; omega⟩
 have hl1 := qT hw
 rw [V0 _ n ins.length a b c d bits pb items pi pick _ rfl]; refine Jb Tryz.func294 rfl rfl fun w => ?_; refine JD ?_; refine Jq 2 rfl ?_; refine LN rfl fun r1 => ?_; refine LN rfl fun r2 => ?_; refine JJ 5 rfl ?_; refine LR rfl (Js (vs := [_, _, _, _, _, _, _]) rfl (kn 0 rfl) rfl rfl rfl rfl) ?_; refine Ji rfl rfl rfl (enters_of Tryz.func291 (by kernel_rfl) rfl) hbi oR ?_; refine Jx 4 rfl ?_; refine pT rfl rfl rfl fun w1 hs1 => ?_; refine ⟨?_, hs1.keep⟩
 simp_all [JG]
theorem O_7 {R : Jm} {n : Int} {p : Pl} {ins : List Ty} {v : Vl} (ht : Ty.In R (.mk 7 n p ins)) (hv : v.In R) : PureR Tryz.prog 296 [Ty.val (.mk 7 n p ins), v.val].toArray (.bool (ofT 7 n ins.length v)) R := by
 have hnu := W5 hv
 have hit := XE hv
 have hbi := Za hv
 have hpk := Zb hv
 cases ht with
 | mk hk hn hlt hst hit0 =>
 cases hv with
 | @mk a b c d bits pb items pi pick ha hb hc hd hlb hsb hl hs hp hi =>
 have hw : WOk [a, b, c, d] := ⟨rfl, fun x hx => by simp at hx; rcases hx with rfl | rfl | rfl | rfl <;> assumption⟩
 have hw1 : WOk [1, 0, 0, 0] := ⟨rfl, fun x hx => by simp at hx; omega⟩
 have hl1 := qT hw
 rw [V0 _ n ins.length a b c d bits pb items pi pick _ rfl]; refine Jb Tryz.func296 rfl rfl fun w => ?_; refine JD ?_; refine Jq 2 rfl ?_; refine LN rfl fun r1 => ?_; refine LN rfl fun r2 => ?_; refine JJ 5 rfl ?_; refine LR rfl (Js (vs := [_, _, _, _, _, _, _]) rfl (kn 0 rfl) rfl rfl rfl rfl) ?_; refine Ji rfl rfl rfl Jov hit oR ?_; refine Q1 rfl ?_
 refine J6 7 rfl (fun gb => ?_) (fun gb => ?_) <;> (try simp only [ZZ] at gb) <;> first | (refine LR rfl (JA rfl rfl rfl) ?_) | (refine LK rfl ?_)
 all_goals refine LW 1 [0] rfl rfl ?_
 all_goals first | refine LR rfl (Jz rfl hs rfl) ?_ | refine LK rfl ?_
 all_goals first | refine LR rfl (JA rfl rfl rfl) ?_ | refine LK rfl ?_
 all_goals refine LW 1 [1] rfl rfl ?_
 all_goals first | refine LR rfl (Jz rfl hst rfl) ?_ | refine LK rfl ?_
 all_goals (
  refine LW 3 [] rfl rfl (Jx 1 rfl (ZT 2 rfl ?_)); refine pT rfl rfl rfl fun w1 hs1 => ?_; refine ⟨?_, hs1.keep⟩
  simp_all [JG]
  all_goals first | done | rfl | omega | (rw [Bool.eq_iff_iff]; simp only [Bool.and_eq_true, Bool.or_eq_true, decide_eq_true_eq, beq_iff_eq]; omega) | (simp only [decide_eq_true_eq, decide_eq_false_iff_not]; omega)
  skip)
theorem O_8 {R : Jm} {n : Int} {p : Pl} {ins : List Ty} {v : Vl} (ht : Ty.In R (.mk 8 n p ins)) (hv : v.In R) : PureR Tryz.prog 299 [Ty.val (.mk 8 n p ins), v.val].toArray (.bool (ofT 8 n ins.length v)) R := by
 have hnu := W5 hv
 have hit := XE hv
 have hbi := Za hv
 have hpk := Zb hv
 cases ht with
 | mk hk hn hlt hst hit0 =>
 cases hv with
 | @mk a b c d bits pb items pi pick ha hb hc hd hlb hsb hl hs hp hi =>
 have hw : WOk [a, b, c, d] := ⟨rfl, fun x hx => by simp at hx; rcases hx with rfl | rfl | rfl | rfl <;> assumption⟩
 have hw1 : WOk [1, 0, 0, 0] := ⟨rfl, fun x hx => by simp at hx; omega⟩
 have hl1 := qT hw
 rw [V0 _ n ins.length a b c d bits pb items pi pick _ rfl]; refine Jb Tryz.func299 rfl rfl fun w => ?_; refine JD ?_; refine Jq 2 rfl ?_; refine LN rfl fun r1 => ?_; refine LN rfl fun r2 => ?_; refine JJ 5 rfl ?_; refine LR rfl (Js (vs := [_, _, _, _, _, _, _]) rfl (kn 0 rfl) rfl rfl rfl rfl) ?_; refine Ji rfl rfl rfl (enters_of Tryz.func300 (by kernel_rfl) rfl) hpk oR ?_; refine Q1 rfl ?_
 refine J6 7 rfl (fun gb => ?_) (fun gb => ?_) <;> (try simp only [ZZ] at gb) <;> first | (refine LR rfl (JA rfl rfl rfl) ?_) | (refine LK rfl ?_)
 all_goals refine LW 1 [0] rfl rfl ?_
 all_goals first | refine LR rfl (Jz rfl hs rfl) ?_ | refine LK rfl ?_
 all_goals refine LW 3 [] rfl rfl ?_
 all_goals first | refine LK rfl ?_ | (refine J6 13 rfl (fun gb => ?_) (fun gb => ?_) <;> (try simp only [ZZ] at gb) <;> first | (refine LR rfl (JA rfl rfl rfl) ?_) | (refine LK rfl ?_))
 all_goals refine LW 4 [0] rfl rfl ?_
 all_goals first | refine LK rfl ?_ | (refine J6 18 rfl (fun gb => ?_) (fun gb => ?_) <;> (try simp only [ZZ] at gb) <;> first | (refine LR rfl (JA rfl rfl rfl) ?_) | (refine LK rfl ?_))
 all_goals refine LW 1 [0] rfl rfl ?_
 all_goals first | refine LR rfl (JA rfl rfl rfl) ?_ | refine LK rfl ?_
 all_goals refine LW 1 [1] rfl rfl ?_
 all_goals first | refine LR rfl (Jz rfl hst rfl) ?_ | refine LK rfl ?_
 all_goals (
  refine LW 3 [] rfl rfl (Jx 1 rfl (ZT 2 rfl ?_)); refine pT rfl rfl rfl fun w1 hs1 => ?_; refine ⟨?_, hs1.keep⟩
  simp_all [JG]
  all_goals first | done | rfl | omega | (rw [Bool.eq_iff_iff]; simp only [Bool.and_eq_true, Bool.or_eq_true, decide_eq_true_eq, beq_iff_eq]; omega) | (simp only [decide_eq_true_eq, decide_eq_false_iff_not]; omega)
  skip)
theorem J0d {R : Jm} {k n : Int} {p : Pl} {ins : List Ty} {v : Vl} (ht : Ty.In R (.mk k n p ins)) (hv : v.In R) (h : isK k = true) : Enters Tryz.prog (ofF k) ∧ PureR Tryz.prog (ofF k) [Ty.val (.mk k n p ins), v.val].toArray (.bool (ofT k n ins.length v)) R := by
 have := Wp.1 h
 have : k = 1 ∨ k = 2 ∨ k = 3 ∨ k = 4 ∨ k = 5 ∨ k = 6 ∨ k = 7 ∨ k = 8 := by omega
 rcases this with rfl | rfl | rfl | rfl | rfl | rfl | rfl | rfl
 ·exact ⟨enters_of Tryz.func272 (by kernel_rfl) rfl, O_1 ht hv⟩
 ·exact ⟨enters_of Tryz.func277 (by kernel_rfl) rfl, O_2 ht hv⟩
 ·exact ⟨enters_of Tryz.func283 (by kernel_rfl) rfl, O_3 ht hv⟩
 ·exact ⟨enters_of Tryz.func288 (by kernel_rfl) rfl, O_4 ht hv⟩
 ·exact ⟨enters_of Tryz.func290 (by kernel_rfl) rfl, O_5 ht hv⟩
 ·exact ⟨enters_of Tryz.func294 (by kernel_rfl) rfl, O_6 ht hv⟩
 ·exact ⟨enters_of Tryz.func296 (by kernel_rfl) rfl, O_7 ht hv⟩
 ·exact ⟨enters_of Tryz.func299 (by kernel_rfl) rfl, O_8 ht hv⟩
def WD (r : Nat) (t : Ty) : Nat × Obj := (r, .cells t.cells.toArray 84 (0, 0))
instance : Inhabited Vl := ⟨zVl⟩
def XG (l : List Vl) (i : Nat) : Vl := l.getD i default
theorem XH {l : List Vl} {i : Nat} (h : i < l.length) : l[i]? = some (XG l i) ∧ XG l i ∈ l := by
 unfold XG
 rw [List.getD_eq_getElem?_getD, List.getElem?_eq_getElem h]; exact ⟨rfl, List.getElem_mem h⟩
theorem Jdp (t : Ty) (v : Vl) : PureE (α := Nat × Nat) Tryz.prog 213 [t.val, v.val].toArray (fun p => .func (.func 301) #[] #[.pointer (some ⟨p.2, 0, none⟩), .pointer (some ⟨p.1, 0, none⟩)])
  (fun p => [X5 p.2 v, WD p.1 t]) := by
 obtain ⟨k, n, p, ins⟩ := t
 obtain ⟨a, b, c, d, bits, pb, items, pi, pick⟩ := v
 refine Kf Tryz.func213 rfl rfl fun w => ?_; refine JD ?_; refine Jq 2 rfl ?_; refine LN rfl fun r1 => ?_; refine LN rfl fun r2 => ?_; refine JJ 5 rfl ?_; refine LR rfl (JN rfl rfl) ?_; refine Jx 4 rfl ?_; refine pT rfl rfl rfl fun w1 hs1 => ?_; exact ⟨(r1, r2), rfl, hs1⟩
def zy (k pick : Int) (ins : List Ty) (items : List Vl) (i : Nat) : List Value := [(JX k pick ins i).val, (XG items i).val]
theorem Jdq {R : Jm} {k n : Int} {p : Pl} {ins : List Ty} {a b c d : Nat} {bits : List Bool} {pb : Pl} {items : List Vl} {pi : Pl} {pick : Int} (hl : items.length ≤ 9223372036854775807) (hlt : ins.length ≤ 9223372036854775807) (hs : Seg R items.length (QE items) pi) (hst : Seg R ins.length (Jcj ins) p)
    (hx : ∀ i, i < items.length → XC k pick i < ins.length) (hp8 : k = 8 → 0 ≤ pick) (rt rv : Nat) :
    jk Tryz.prog 301 [.pointer (some ⟨rv, 0, none⟩), .pointer (some ⟨rt, 0, none⟩)] (X5 rv (.mk a b c d bits pb items pi pick) :: WD rt (.mk k n p ins) :: R) 0 (nxN (zy k pick ins items) items.length) (yE items.length) := by
  have hs := hs.mono (R' := X5 rv (.mk a b c d bits pb items pi pick) :: WD rt (.mk k n p ins) :: R) fun q hq => List.mem_cons_of_mem _ (List.mem_cons_of_mem _ hq)
  have hst := hst.mono (R' := X5 rv (.mk a b c d bits pb items pi pick) :: WD rt (.mk k n p ins) :: R) fun q hq => List.mem_cons_of_mem _ (List.mem_cons_of_mem _ hq)
  refine Vf Tryz.func301 rfl rfl fun q xids w2 XI XF hY => ?_; refine JD ?_; refine Jq 3 rfl ?_; refine LR rfl (Je rfl (J5 (k := 0) rfl) rfl rfl) ?_; refine LR rfl (Jz rfl hs rfl) ?_; refine JI 4 rfl ?_; refine Jy (σ := Nat) (fun i => i ≤ items.length) (fun i => [(0, .func (.yield q) #[] #[]), (1, .pointer (some ⟨rv, 0, none⟩)), (2, .pointer (some ⟨rt, 0, none⟩)), (8, KB items.length pi), (9, .int .i64 (items.length : Int)), (10, .int .i64 (i : Int))]) (fun _ => []) (fun i => XI i) (fun i => items.length - i) 0 (Nat.zero_le _) (lK rfl) (List.nil_sublist _) (fun _ _ h => h) ?_; intro i hi; refine JK 6 rfl ?_; refine cD (fun g => ?_) fun g => ?_
  · refine JK 5 rfl ?_
    have hil : i < items.length := by omega
    have hix := XH hil
    have hty := QV (hx i hil)
    refine Jq 2 rfl ?_; refine LR rfl (Jk (j := i) rfl hs rfl rfl rfl rfl (by omega)) ?_; refine LR rfl (Wv oR rfl hs hix.1 rfl rfl) ?_; refine LN rfl fun r1 => ?_; refine Q1 rfl (Jh (k := 0) (n := 7) (ys := (XG items i).cells) rfl rfl rfl rfl rfl (XG items i).len rfl (XG items i).one rfl (JJ 11 rfl ?_)); refine LR rfl (Je rfl (J5 (k := 1) rfl) rfl rfl) ?_; refine JI 9 rfl ?_; refine cD (fun g => ?_) fun g => ?_
    · refine JK 7 rfl ?_; refine JE 7 (by kernel_rfl) (by kernel_rfl) ?_; refine Ja rfl rfl rfl (Jf rfl) ?_
      refine Ja rfl rfl rfl (JA rfl rfl rfl) ?_; refine Ja rfl rfl rfl (Je rfl (J5 (k := 1) rfl) rfl rfl) ?_; refine Ja rfl rfl rfl (Jf rfl) ?_
      refine Ja rfl rfl rfl (Jk (j := XC k pick i) rfl hst rfl rfl rfl (by unfold XC; first | (rw [if_pos (by assumption)]) | (rw [if_neg (by assumption), if_pos (by assumption)]; have := hp8 (by assumption); omega) | (rw [if_neg (by assumption), if_neg (by assumption)]; rfl)) (hx i hil)) ?_; refine Ja rfl rfl rfl (Qr oR rfl hst hty.1 rfl rfl) ?_; refine Ja rfl rfl rfl (Jd (xs := (XG items i).cells) (n := 7) rfl (kn 0 rfl) rfl rfl (XG items i).len) ?_; refine JS ?_; refine V2 (XT := XI (i + 1)) (XF := XF) rfl rfl rfl rfl (hY i (zy k pick ins items i) (i + 1) ⟨hil, rfl, rfl⟩) ?_ ?_
      all_goals (
       refine Jx 2 rfl (XN 1 rfl ?_); refine J0 rfl (fun g => ?_) (fun g => ?_)
       · try exact Bool.noConfusion g
         all_goals try simp only [ZZ] at g
         all_goals (
          refine Kh 5 rfl ?_; refine Jg rfl rfl .nil (fun w1 hs1 => ?_)
          obtain ⟨xs1, hx1⟩ := hs1.now
          exact ⟨⟨_, rfl⟩, hs1.keep, .inr ⟨_, hx1⟩⟩
          skip)
       · try exact Bool.noConfusion g
         all_goals try simp only [ZZ] at g
         all_goals (
          refine Jq 5 rfl ?_; refine Jc (by omega) (by omega) ?_; refine Jx 2 rfl ?_; refine Jv ?_; exact Jo (i + 1) (by omega) (by omega) (lK rfl) (List.nil_sublist _) (fun _ _ h => h)
          skip)
       skip)
    · refine JK 6 rfl ?_; refine cD (fun g => ?_) fun g => ?_
      · refine Jq 2 rfl ?_; refine LR rfl (Je rfl (J5 (k := 0) rfl) rfl rfl) ?_; refine JI 5 rfl ?_; refine JE 7 (by kernel_rfl) (by kernel_rfl) ?_; refine Ja rfl rfl rfl (Jf rfl) ?_
        refine Ja rfl rfl rfl (JA rfl rfl rfl) ?_; refine Ja rfl rfl rfl (Je rfl (J5 (k := 1) rfl) rfl rfl) ?_; refine Ja rfl rfl rfl (Jf rfl) ?_
        refine Ja rfl rfl rfl (Jk (j := XC k pick i) rfl hst rfl rfl rfl (by unfold XC; first | (rw [if_pos (by assumption)]) | (rw [if_neg (by assumption), if_pos (by assumption)]; have := hp8 (by assumption); omega) | (rw [if_neg (by assumption), if_neg (by assumption)]; rfl)) (hx i hil)) ?_; refine Ja rfl rfl rfl (Qr oR rfl hst hty.1 rfl rfl) ?_; refine Ja rfl rfl rfl (Jd (xs := (XG items i).cells) (n := 7) rfl (kn 0 rfl) rfl rfl (XG items i).len) ?_; refine JS ?_; refine V2 (XT := XI (i + 1)) (XF := XF) rfl rfl rfl rfl (hY i (zy k pick ins items i) (i + 1) ⟨hil, rfl, rfl⟩) ?_ ?_
        all_goals (
         refine Jx 2 rfl (XN 1 rfl ?_); refine J0 rfl (fun g => ?_) (fun g => ?_)
         · try exact Bool.noConfusion g
           all_goals try simp only [ZZ] at g
           all_goals (
            refine Kh 5 rfl ?_; refine Jg rfl rfl .nil (fun w1 hs1 => ?_)
            obtain ⟨xs1, hx1⟩ := hs1.now
            exact ⟨⟨_, rfl⟩, hs1.keep, .inr ⟨_, hx1⟩⟩
            skip)
         · try exact Bool.noConfusion g
           all_goals try simp only [ZZ] at g
           all_goals (
            refine Jq 5 rfl ?_; refine Jc (by omega) (by omega) ?_; refine Jx 2 rfl ?_; refine Jv ?_; exact Jo (i + 1) (by omega) (by omega) (lK rfl) (List.nil_sublist _) (fun _ _ h => h)
            skip)
         skip)
      · refine JK 4 rfl ?_; refine JE 7 (by kernel_rfl) (by kernel_rfl) ?_; refine Ja rfl rfl rfl (Jf rfl) ?_
        refine Ja rfl rfl rfl (JA rfl rfl rfl) ?_; refine Ja rfl rfl rfl (Je rfl (J5 (k := 1) rfl) rfl rfl) ?_; refine Ja rfl rfl rfl (Jf rfl) ?_
        refine Ja rfl rfl rfl (Jk (j := XC k pick i) rfl hst rfl rfl rfl (by unfold XC; first | (rw [if_pos (by assumption)]) | (rw [if_neg (by assumption), if_pos (by assumption)]; have := hp8 (by assumption); omega) | (rw [if_neg (by assumption), if_neg (by assumption)]; rfl)) (hx i hil)) ?_; refine Ja rfl rfl rfl (Qr oR rfl hst hty.1 rfl rfl) ?_; refine Ja rfl rfl rfl (Jd (xs := (XG items i).cells) (n := 7) rfl (kn 0 rfl) rfl rfl (XG items i).len) ?_; refine JS ?_; refine V2 (XT := XI (i + 1)) (XF := XF) rfl rfl rfl rfl (hY i (zy k pick ins items i) (i + 1) ⟨hil, rfl, rfl⟩) ?_ ?_
        all_goals (
         refine Jx 2 rfl (XN 1 rfl ?_); refine J0 rfl (fun g => ?_) (fun g => ?_)
         · try exact Bool.noConfusion g
           all_goals try simp only [ZZ] at g
           all_goals (
            refine Kh 5 rfl ?_; refine Jg rfl rfl .nil (fun w1 hs1 => ?_)
            obtain ⟨xs1, hx1⟩ := hs1.now
            exact ⟨⟨_, rfl⟩, hs1.keep, .inr ⟨_, hx1⟩⟩
            skip)
         · try exact Bool.noConfusion g
           all_goals try simp only [ZZ] at g
           all_goals (
            refine Jq 5 rfl ?_; refine Jc (by omega) (by omega) ?_; refine Jx 2 rfl ?_; refine Jv ?_; exact Jo (i + 1) (by omega) (by omega) (lK rfl) (List.nil_sublist _) (fun _ _ h => h)
            skip)
         skip)
  · refine Kh 4 rfl ?_; refine Kv rfl rfl .nil (fun w1 hs1 => ?_)
    obtain ⟨xs1, hx1⟩ := hs1.now
    exact ⟨⟨_, rfl⟩, hs1.keep, .inl ⟨i, _, (by show i = items.length; omega), hx1⟩⟩
theorem qt {a b c d : Nat} {bits : List Bool} {pb : Pl} {items : List Vl} {pi : Pl} {pick k n : Int} {p : Pl} {ins : List Ty} (h1 : ¬ ((k = 4 ∧ n < items.length) ∨ (k = 6 ∧ n < bits.length))) (h2 : ofT k n ins.length (.mk a b c d bits pb items pi pick) = true) : KL (.mk a b c d bits pb items pi pick) (.mk k n p ins) = QN items k pick ins 0 := by
 rw [KL, if_neg h1, if_neg (by rw [h2]; simp)]
theorem Jx6 {R : Jm} {v : Vl} (hv : v.In R) : ∀ (t : Ty) (dp : Int), t.In R → chk t dp = 0 → PureR Tryz.prog 158 [t.val, v.val].toArray (.int .i64 (KL v t)) R := by
  have hv0 := hv
  induction hv with
  | @mk a b c d bits pb items pi pick ha hb hc hd hlb hsb hl hs hp hi ih =>
  intro t dp ht hck
  have ht0 := ht
  cases ht with
  | @mk k n p ins hk hn hlt hst hit =>
  obtain ⟨hk8, ho, h6, hci⟩ := Vg hck
  have hkk := Wp.2 hk8
  have hO := J0d ht0 hv0 hkk
  refine Jb Tryz.func158 rfl rfl fun w => ?_; refine JD ?_; refine Jq 2 rfl ?_; refine LN rfl fun r1 => ?_; refine LN rfl fun r2 => ?_; refine LN rfl fun r3 => ?_; refine Xf 11 [2] rfl rfl ?_
  refine J6 12 rfl (fun gb => ?_) (fun gb => ?_) <;> (try simp only [ZZ] at gb) <;> first | (refine LR rfl (JA rfl rfl rfl) ?_) | (refine LK rfl ?_)
  all_goals refine LW 1 [1] rfl rfl ?_
  all_goals first | refine LR rfl (Jz rfl hs rfl) ?_ | refine LK rfl ?_
  all_goals first | refine LR rfl (JA rfl rfl rfl) ?_ | refine LK rfl ?_
  all_goals (
   refine LW 4 [2] rfl rfl (Jx 1 rfl (XN 1 rfl ?_)); refine J0 rfl (fun g => ?_) (fun g => ?_)
   · try exact Bool.noConfusion g
     all_goals try simp only [ZZ] at g
     all_goals (
      refine JK 2 rfl ?_; refine cD (fun g => ?_) fun g => ?_
      refine Jq 2 rfl ?_
      refine LT 0 rfl rfl ?_; refine Jx 5 rfl ?_
      first
        | (refine KX (k := 0) rfl rfl ?_
           refine Jg rfl rfl (.cons (KZ rfl (kn 1 rfl) rfl rfl) .nil) (fun w1 hs1 => ?_)
           first | exact ⟨by rw [hfo, ← he]; rfl, hs1.keep⟩ | exact ⟨by rw [hfo, hz]; rfl, hs1.keep⟩)
        | (refine Jg rfl rfl (.cons (KZ rfl (kn 0 rfl) rfl rfl) .nil) (fun w1 hs1 => ?_)
           first | exact ⟨by rw [KL, if_pos (by omega)]; rfl, hs1.keep⟩ | exact ⟨by rw [KL, if_neg (by omega), if_pos (by assumption)]; rfl, hs1.keep⟩)
        | (refine Jg rfl rfl (.cons (KZ rfl (kn 1 rfl) rfl rfl) .nil) (fun w1 hs1 => ?_)
           first | exact ⟨by rw [KL, if_pos (by omega)]; rfl, hs1.keep⟩ | exact ⟨by rw [KL, if_neg (by omega), if_pos (by assumption)]; rfl, hs1.keep⟩)
      refine JK 1 rfl ?_
      refine JT [] [(0, .grow (Qe 0 (fun r : Nat => Value.map (some r)) (fun r => [(r, Jk7)]))), (1, .pure), (4, .pure), (8, .pure), (9, .pure)] 10 [1, 2, 5, 6, 0, 3, 4, 7, 8, 9] (by kernel_rfl) (by kernel_rfl) (by first | exact (fun _ h => absurd h List.not_mem_nil) | simp [SubS] | (intro p hp; simp [hp])) ?_
      refine Jp (k := 1) rfl rfl rfl rfl rfl (fun _ hS => (JA rfl rfl rfl)) ?_; refine KE (k := 2) rfl rfl rfl rfl rfl (Je rfl (kn 2 rfl) rfl rfl) ?_; refine KE (k := 5) rfl rfl rfl rfl rfl (Js (vs := [_, _, _]) rfl (kn 2 rfl) rfl rfl rfl rfl) ?_; refine KE (k := 6) rfl rfl rfl rfl rfl (Js (vs := [_, _, _, _, _, _, _]) rfl (kn 1 rfl) rfl rfl rfl rfl) ?_; refine WV (k := 0) rfl rfl rfl rfl rfl Jdh jF fun mr => ?_; refine KE (k := 3) rfl rfl rfl rfl rfl (Xe (Xz (t := 3) (by kernel_rfl)) rfl rfl (kn 0 rfl) rfl rfl ⟨_, rfl⟩ YX (Zp hkk)) ?_; refine Jp (k := 4) rfl rfl rfl rfl rfl (fun _ hS => (J2 rfl rfl rfl)) ?_; refine Ww (Jin hkk) ?_; refine Qa (k := 7) rfl rfl rfl rfl rfl hO.1 hO.2 oR ?_; refine Jp (k := 8) rfl rfl rfl rfl rfl (fun _ hS => (J2 rfl rfl rfl)) ?_; refine Jp (k := 9) rfl rfl rfl rfl rfl (fun _ hS => (JC rfl)) ?_; refine Kx ?_; refine JI 2 rfl ?_; refine cD (fun g => ?_) fun g => ?_
      refine Jq 2 rfl ?_
      refine LT 1 rfl rfl ?_; refine Jx 5 rfl ?_
      (refine Jg rfl rfl (.cons (KZ rfl (kn 1 rfl) rfl rfl) .nil) (fun w1 hs1 => ?_)
       first | exact ⟨by rw [KL, if_pos (by omega)]; rfl, hs1.keep⟩ | exact ⟨by rw [KL, if_neg (by omega), if_pos (by assumption)]; rfl, hs1.keep⟩)
      refine JK 5 rfl ?_
      have hfo := qt (a := a) (b := b) (c := c) (d := d) (pb := pb) (pi := pi) (p := p) (show ¬ ((k = 4 ∧ n < items.length) ∨ (k = 6 ∧ n < bits.length)) by omega) (by assumption)
      have hxl : ∀ i, i < items.length → XC k pick i < ins.length := fun i hi => qr (v := .mk a b c d bits pb items pi pick) hck (by assumption) hi
      have hp8 : k = 8 → 0 ≤ pick := fun h => by subst h; exact Jwx (v := .mk a b c d bits pb items pi pick) (by assumption)
      refine Vw 3 [3, 2] rfl rfl ?_; refine JZ rfl rfl rfl (enters_of Tryz.func213 (by kernel_rfl) rfl) (Jdp (.mk k n p ins) (.mk a b c d bits pb items pi pick)) fun pp => ?_
      obtain ⟨rt, rv⟩ := pp
      change HL _ _ _ (X5 rv (.mk a b c d bits pb items pi pick) :: WD rt (.mk k n p ins) :: _) _ _ _ _; refine JI 3 rfl ?_; refine QX [3, 0, 1, 2, 4, 5] (L' := [_, _, _, _, _, _]) (by decide) rfl ?_
      refine Wd (τ := Int) (fun i (_ : Unit) => i ≤ items.length ∧ QN (items.drop i) k pick ins i = QN items k pick ins 0) (fun _ => [(r3, .cells #[.int .i64 (0)] 37 (0, 0))]) (fun j e => j = .ret ∧ e = QN items k pick ins 0) (fun e => [(r3, .cells #[.int .i64 (e)] 37 (0, 0))]) [X5 rv (.mk a b c d bits pb items pi pick), WD rt (.mk k n p ins), _, _, _] () rfl rfl (enters_of Tryz.func301 (by kernel_rfl) rfl) (Jdq (n := n) (a := a) (b := b) (c := c) (d := d) (bits := bits) (pb := pb) hl hlt hs hst hxl hp8 rt rv) (by rintro _ _ _ ⟨_, rfl, _⟩; rfl) rfl (fun q hq => by rcases List.mem_cons.1 hq with rfl | hq; exact .inl (by simp); rcases List.mem_cons.1 hq with rfl | hq; exact .inl (by simp); exact .inr hq) rfl ⟨Nat.zero_le _, rfl⟩ ?_ ?_ ?_
      rintro q Xr Xb w3 i _ _ ⟨⟩ ⟨hii, rfl, rfl⟩ ⟨hil, hinv⟩ Kr hKr; refine inR ?_
      have hix := XH hii
      have hty := QV (hxl i hii)
      rw [WH hix.1, QN] at hinv
      unfold zy
      refine Jq 2 rfl ?_; refine LN rfl fun r4 => ?_; refine Jh (k := 0) (n := 3) (ys := (JX k pick ins i).cells) rfl rfl rfl rfl rfl (JX k pick ins i).len rfl (JX k pick ins i).one rfl ?_; refine JJ 3 rfl ?_; refine LN rfl fun r5 => ?_; refine Jh (k := 0) (n := 7) (ys := (XG items i).cells) rfl rfl rfl rfl rfl (XG items i).len rfl (XG items i).one rfl ?_; refine Jx 1 rfl ?_; refine hKr _ _ ?_; refine JD ?_; clear hKr; refine Jq 3 rfl ?_; refine LR rfl (Jd (xs := (JX k pick ins i).cells) (n := 3) rfl (kn 1 rfl) rfl rfl (JX k pick ins i).len) ?_; refine LR rfl (Jd (xs := (XG items i).cells) (n := 7) rfl (kn 0 rfl) rfl rfl (XG items i).len) ?_; refine Ji rfl rfl rfl Jon (ih _ hix.2 (hi _ hix.2) _ (dp + 1) (hit _ hty.2) (hci _ hty.2)) (fun q hq => Or.inr (List.mem_append_right _ hq)) ?_; refine JI 9 rfl ?_; refine cD (fun g => ?_) fun g => ?_
      refine Jq 3 rfl ?_
      refine LT 2 rfl rfl ?_; refine Jx 4 rfl ?_; refine Qi [2] (L' := [_]) (by decide) rfl ?_; refine jY (KL (XG items i) (JX k pick ins i)) ⟨rfl, by rw [if_neg (by assumption)] at hinv; exact hinv⟩ rfl
      refine Kh 2 rfl ?_; refine Qi [2] (L' := [_]) (by decide) rfl ?_; refine KD () ⟨by omega, by rw [if_pos (by assumption)] at hinv; exact hinv⟩ rfl
      rintro D i ⟨⟩ hfi ⟨hil, hinv⟩
      have hin : i = items.length := hfi
      have hz : QN items k pick ins 0 = 0 := by rw [← hinv, hin, List.drop_length, QN]
      refine gqo 4 rfl ?_
      refine LT 1 rfl rfl ?_; refine Jx 3 rfl ?_
      (refine KX (k := 0) rfl rfl ?_
       refine Jg rfl rfl (.cons (KZ rfl (kn 1 rfl) rfl rfl) .nil) (fun w1 hs1 => ?_)
       first | exact ⟨by rw [hfo, ← he]; rfl, hs1.keep⟩ | exact ⟨by rw [hfo, hz]; rfl, hs1.keep⟩)
      rintro D j e ⟨rfl, he⟩
      refine Kh 3 rfl ?_
      first
        | (refine KX (k := 0) rfl rfl ?_
           refine Jg rfl rfl (.cons (KZ rfl (kn 1 rfl) rfl rfl) .nil) (fun w1 hs1 => ?_)
           first | exact ⟨by rw [hfo, ← he]; rfl, hs1.keep⟩ | exact ⟨by rw [hfo, hz]; rfl, hs1.keep⟩)
        | (refine Jg rfl rfl (.cons (KZ rfl (kn 0 rfl) rfl rfl) .nil) (fun w1 hs1 => ?_)
           first | exact ⟨by rw [KL, if_pos (by omega)]; rfl, hs1.keep⟩ | exact ⟨by rw [KL, if_neg (by omega), if_pos (by assumption)]; rfl, hs1.keep⟩)
        | (refine Jg rfl rfl (.cons (KZ rfl (kn 1 rfl) rfl rfl) .nil) (fun w1 hs1 => ?_)
           first | exact ⟨by rw [KL, if_pos (by omega)]; rfl, hs1.keep⟩ | exact ⟨by rw [KL, if_neg (by omega), if_pos (by assumption)]; rfl, hs1.keep⟩)
      skip)
   · try simp only [ZZ] at g
     refine Vw 5 [2] rfl rfl ?_
     refine J6 23 rfl (fun gb => ?_) (fun gb => ?_) <;> (try simp only [ZZ] at gb) <;> first | (refine LR rfl (JA rfl rfl rfl) ?_) | (refine LK rfl ?_)
     all_goals refine LW 1 [1] rfl rfl ?_
     all_goals first | refine LR rfl (Jz rfl hsb rfl) ?_ | refine LK rfl ?_
     all_goals first | refine LR rfl (JA rfl rfl rfl) ?_ | refine LK rfl ?_
     all_goals (
      refine LW 4 [2] rfl rfl (Jx 1 rfl (XN 1 rfl ?_)); refine J0 rfl (fun g => ?_) (fun g => ?_)
      · try exact Bool.noConfusion g
        all_goals try simp only [ZZ] at g
        all_goals (
         refine Jq 2 rfl ?_
         refine LT 0 rfl rfl ?_; refine Jx 5 rfl ?_
         first
           | (refine KX (k := 0) rfl rfl ?_
              refine Jg rfl rfl (.cons (KZ rfl (kn 1 rfl) rfl rfl) .nil) (fun w1 hs1 => ?_)
              first | exact ⟨by rw [hfo, ← he]; rfl, hs1.keep⟩ | exact ⟨by rw [hfo, hz]; rfl, hs1.keep⟩)
           | (refine Jg rfl rfl (.cons (KZ rfl (kn 0 rfl) rfl rfl) .nil) (fun w1 hs1 => ?_)
              first | exact ⟨by rw [KL, if_pos (by omega)]; rfl, hs1.keep⟩ | exact ⟨by rw [KL, if_neg (by omega), if_pos (by assumption)]; rfl, hs1.keep⟩)
           | (refine Jg rfl rfl (.cons (KZ rfl (kn 1 rfl) rfl rfl) .nil) (fun w1 hs1 => ?_)
              first | exact ⟨by rw [KL, if_pos (by omega)]; rfl, hs1.keep⟩ | exact ⟨by rw [KL, if_neg (by omega), if_pos (by assumption)]; rfl, hs1.keep⟩)
         skip)
      try simp only [ZZ] at g
      refine JK 1 rfl ?_
      refine JT [] [(0, .grow (Qe 0 (fun r : Nat => Value.map (some r)) (fun r => [(r, Jk7)]))), (1, .pure), (4, .pure), (8, .pure), (9, .pure)] 10 [1, 2, 5, 6, 0, 3, 4, 7, 8, 9] (by kernel_rfl) (by kernel_rfl) (by first | exact (fun _ h => absurd h List.not_mem_nil) | simp [SubS] | (intro p hp; simp [hp])) ?_
      refine Jp (k := 1) rfl rfl rfl rfl rfl (fun _ hS => (JA rfl rfl rfl)) ?_; refine KE (k := 2) rfl rfl rfl rfl rfl (Je rfl (kn 2 rfl) rfl rfl) ?_; refine KE (k := 5) rfl rfl rfl rfl rfl (Js (vs := [_, _, _]) rfl (kn 2 rfl) rfl rfl rfl rfl) ?_; refine KE (k := 6) rfl rfl rfl rfl rfl (Js (vs := [_, _, _, _, _, _, _]) rfl (kn 1 rfl) rfl rfl rfl rfl) ?_; refine WV (k := 0) rfl rfl rfl rfl rfl Jdh jF fun mr => ?_; refine KE (k := 3) rfl rfl rfl rfl rfl (Xe (Xz (t := 3) (by kernel_rfl)) rfl rfl (kn 0 rfl) rfl rfl ⟨_, rfl⟩ YX (Zp hkk)) ?_; refine Jp (k := 4) rfl rfl rfl rfl rfl (fun _ hS => (J2 rfl rfl rfl)) ?_; refine Ww (Jin hkk) ?_; refine Qa (k := 7) rfl rfl rfl rfl rfl hO.1 hO.2 oR ?_; refine Jp (k := 8) rfl rfl rfl rfl rfl (fun _ hS => (J2 rfl rfl rfl)) ?_; refine Jp (k := 9) rfl rfl rfl rfl rfl (fun _ hS => (JC rfl)) ?_; refine Kx ?_; refine JI 2 rfl ?_; refine cD (fun g => ?_) fun g => ?_
      refine Jq 2 rfl ?_
      refine LT 1 rfl rfl ?_; refine Jx 5 rfl ?_
      (refine Jg rfl rfl (.cons (KZ rfl (kn 1 rfl) rfl rfl) .nil) (fun w1 hs1 => ?_)
       first | exact ⟨by rw [KL, if_pos (by omega)]; rfl, hs1.keep⟩ | exact ⟨by rw [KL, if_neg (by omega), if_pos (by assumption)]; rfl, hs1.keep⟩)
      refine JK 5 rfl ?_
      have hfo := qt (a := a) (b := b) (c := c) (d := d) (pb := pb) (pi := pi) (p := p) (show ¬ ((k = 4 ∧ n < items.length) ∨ (k = 6 ∧ n < bits.length)) by omega) (by assumption)
      have hxl : ∀ i, i < items.length → XC k pick i < ins.length := fun i hi => qr (v := .mk a b c d bits pb items pi pick) hck (by assumption) hi
      have hp8 : k = 8 → 0 ≤ pick := fun h => by subst h; exact Jwx (v := .mk a b c d bits pb items pi pick) (by assumption)
      refine Vw 3 [3, 2] rfl rfl ?_; refine JZ rfl rfl rfl (enters_of Tryz.func213 (by kernel_rfl) rfl) (Jdp (.mk k n p ins) (.mk a b c d bits pb items pi pick)) fun pp => ?_
      obtain ⟨rt, rv⟩ := pp
      change HL _ _ _ (X5 rv (.mk a b c d bits pb items pi pick) :: WD rt (.mk k n p ins) :: _) _ _ _ _; refine JI 3 rfl ?_; refine QX [3, 0, 1, 2, 4, 5] (L' := [_, _, _, _, _, _]) (by decide) rfl ?_
      refine Wd (τ := Int) (fun i (_ : Unit) => i ≤ items.length ∧ QN (items.drop i) k pick ins i = QN items k pick ins 0) (fun _ => [(r3, .cells #[.int .i64 (0)] 37 (0, 0))]) (fun j e => j = .ret ∧ e = QN items k pick ins 0) (fun e => [(r3, .cells #[.int .i64 (e)] 37 (0, 0))]) [X5 rv (.mk a b c d bits pb items pi pick), WD rt (.mk k n p ins), _, _, _] () rfl rfl (enters_of Tryz.func301 (by kernel_rfl) rfl) (Jdq (n := n) (a := a) (b := b) (c := c) (d := d) (bits := bits) (pb := pb) hl hlt hs hst hxl hp8 rt rv) (by rintro _ _ _ ⟨_, rfl, _⟩; rfl) rfl (fun q hq => by rcases List.mem_cons.1 hq with rfl | hq; exact .inl (by simp); rcases List.mem_cons.1 hq with rfl | hq; exact .inl (by simp); exact .inr hq) rfl ⟨Nat.zero_le _, rfl⟩ ?_ ?_ ?_
      rintro q Xr Xb w3 i _ _ ⟨⟩ ⟨hii, rfl, rfl⟩ ⟨hil, hinv⟩ Kr hKr; refine inR ?_
      have hix := XH hii
      have hty := QV (hxl i hii)
      rw [WH hix.1, QN] at hinv
      unfold zy
      refine Jq 2 rfl ?_; refine LN rfl fun r6 => ?_; refine Jh (k := 0) (n := 3) (ys := (JX k pick ins i).cells) rfl rfl rfl rfl rfl (JX k pick ins i).len rfl (JX k pick ins i).one rfl ?_; refine JJ 3 rfl ?_; refine LN rfl fun r7 => ?_; refine Jh (k := 0) (n := 7) (ys := (XG items i).cells) rfl rfl rfl rfl rfl (XG items i).len rfl (XG items i).one rfl ?_; refine Jx 1 rfl ?_; refine hKr _ _ ?_; refine JD ?_; clear hKr; refine Jq 3 rfl ?_; refine LR rfl (Jd (xs := (JX k pick ins i).cells) (n := 3) rfl (kn 1 rfl) rfl rfl (JX k pick ins i).len) ?_; refine LR rfl (Jd (xs := (XG items i).cells) (n := 7) rfl (kn 0 rfl) rfl rfl (XG items i).len) ?_; refine Ji rfl rfl rfl Jon (ih _ hix.2 (hi _ hix.2) _ (dp + 1) (hit _ hty.2) (hci _ hty.2)) (fun q hq => Or.inr (List.mem_append_right _ hq)) ?_; refine JI 9 rfl ?_; refine cD (fun g => ?_) fun g => ?_
      refine Jq 3 rfl ?_
      refine LT 2 rfl rfl ?_; refine Jx 4 rfl ?_; refine Qi [2] (L' := [_]) (by decide) rfl ?_; refine jY (KL (XG items i) (JX k pick ins i)) ⟨rfl, by rw [if_neg (by assumption)] at hinv; exact hinv⟩ rfl
      refine Kh 2 rfl ?_; refine Qi [2] (L' := [_]) (by decide) rfl ?_; refine KD () ⟨by omega, by rw [if_pos (by assumption)] at hinv; exact hinv⟩ rfl
      rintro D i ⟨⟩ hfi ⟨hil, hinv⟩
      have hin : i = items.length := hfi
      have hz : QN items k pick ins 0 = 0 := by rw [← hinv, hin, List.drop_length, QN]
      refine gqo 4 rfl ?_
      refine LT 1 rfl rfl ?_; refine Jx 3 rfl ?_
      (refine KX (k := 0) rfl rfl ?_
       refine Jg rfl rfl (.cons (KZ rfl (kn 1 rfl) rfl rfl) .nil) (fun w1 hs1 => ?_)
       first | exact ⟨by rw [hfo, ← he]; rfl, hs1.keep⟩ | exact ⟨by rw [hfo, hz]; rfl, hs1.keep⟩)
      rintro D j e ⟨rfl, he⟩
      refine Kh 3 rfl ?_
      first
        | (refine KX (k := 0) rfl rfl ?_
           refine Jg rfl rfl (.cons (KZ rfl (kn 1 rfl) rfl rfl) .nil) (fun w1 hs1 => ?_)
           first | exact ⟨by rw [hfo, ← he]; rfl, hs1.keep⟩ | exact ⟨by rw [hfo, hz]; rfl, hs1.keep⟩)
        | (refine Jg rfl rfl (.cons (KZ rfl (kn 0 rfl) rfl rfl) .nil) (fun w1 hs1 => ?_)
           first | exact ⟨by rw [KL, if_pos (by omega)]; rfl, hs1.keep⟩ | exact ⟨by rw [KL, if_neg (by omega), if_pos (by assumption)]; rfl, hs1.keep⟩)
        | (refine Jg rfl rfl (.cons (KZ rfl (kn 1 rfl) rfl rfl) .nil) (fun w1 hs1 => ?_)
           first | exact ⟨by rw [KL, if_pos (by omega)]; rfl, hs1.keep⟩ | exact ⟨by rw [KL, if_neg (by omega), if_pos (by assumption)]; rfl, hs1.keep⟩)
      skip)
   skip)
theorem Jo8 {R : Jm} {t : Ty} {v : Vl} (ht : t.In R) (hv : v.In R) : PureR Tryz.prog 99 [t.val, v.val].toArray (.int .i64 (V8 t v)) R := by
 have h1 := Jip ht
 have h2 := Jx6 hv t 0 ht
 obtain ⟨k, n, p, ins⟩ := t
 obtain ⟨a, b, c, d, bits, pb, items, pi, pick⟩ := v
 refine Jb Tryz.func99 rfl rfl fun w => ?_; refine JD ?_; refine Jq 2 rfl ?_; refine LN rfl fun r1 => ?_; refine LN rfl fun r2 => ?_; refine JJ 6 rfl ?_; refine LR rfl (Js (vs := [_, _, _]) rfl (kn 1 rfl) rfl rfl rfl rfl) ?_; refine Ji rfl rfl rfl (enters_of Tryz.func157 (by kernel_rfl) rfl) h1 oR ?_; refine JI 9 rfl ?_; refine cD (fun g => ?_) fun g => ?_
 refine Kh 8 rfl ?_; refine pT rfl rfl rfl fun w1 hs1 => ?_; refine ⟨?_, hs1.keep⟩; rw [V8, if_neg (by assumption)]; rfl
 ·refine Vw 6 [1, 0] rfl rfl ?_; refine Ji rfl rfl rfl Jon (h2 (by assumption)) oR ?_; refine Jx 4 rfl ?_; refine pT rfl rfl rfl fun w1 hs1 => ?_; refine ⟨?_, hs1.keep⟩; rw [V8, if_pos (by assumption)]; rfl
theorem ww {n : Nat} (h : n < 256) : UInt8.ofNat n = 0 ↔ n = 0 := by
 constructor
 ·intro e
  have := congrArg UInt8.toNat e
  rw [UInt8.toNat_ofNat', Nat.mod_eq_of_lt h] at this; exact this
 ·rintro rfl; rfl
theorem wx (l : List Nat) : ∀ n k, (Lib.trimLeftB (Yq l n) 0).length ≤ k ↔ ∀ t, k ≤ t → t < n → dg l t = 0
 | 0, k => by simp [Yq, Lib.trimLeftB]
 | n + 1, k => by
  have ih := wx l n k
  by_cases hz : dg l n = 0
  ·have e : Lib.trimLeftB (Yq l (n + 1)) 0 = Lib.trimLeftB (Yq l n) 0 := by simp [Yq, Lib.trimLeftB, hz]
   rw [e, ih]
   constructor
   ·intro h t h1 h2
    by_cases ht : t = n
    ·rw [ht]; exact hz
    ·exact h t h1 (by omega)
   ·intro h t h1 h2; exact h t h1 (by omega)
  ·have hne : ¬ UInt8.ofNat (dg l n) = 0 := fun e => hz ((ww (Jhj l n)).1 e)
   have e : Lib.trimLeftB (Yq l (n + 1)) 0 = Yq l (n + 1) := by simp [Yq, Lib.trimLeftB, hne]
   rw [e, Vq]
   constructor
   ·intro h t h1 h2; omega
   ·intro h
    rcases Nat.lt_or_ge n k with hk | hk
    ·omega
    ·exact absurd (h n hk (by omega)) hz
theorem Jla {l : List Nat} (hl : WOk l) : xH l = decide ((WC l).length ≤ 8) := by
 unfold xH WC
 rw [decide_eq_decide, wx]
 constructor
 ·intro h t h1 h2
  have hj : t / 8 = 1 ∨ t / 8 = 2 ∨ t / 8 = 3 := by omega
  rw [h]
  rcases hj with e | e | e <;> simp [dg, e]
 ·intro h
  have hz : ∀ j, 1 ≤ j → j < 4 → l.getD j 0 = 0 := fun j h1 h2 => by
   rw [← Jcd hl h2]
   have : ∀ m, m ≤ 8 → pw (dg l) j m = 0 := by
    intro m
    induction m with
    | zero => intro _; rfl
    | succ m ih => intro hm; simp only [pw]; rw [ih (by omega), h (8 * j + m) (by omega) (by omega)]; simp
   exact this 8 (by omega)
  obtain ⟨a, b, c, d, rfl, _⟩ := hl.four
  have e1 := hz 1 (by decide) (by decide)
  have e2 := hz 2 (by decide) (by decide)
  have e3 := hz 3 (by decide) (by decide)
  simp only [List.getD_cons_zero, List.getD_cons_succ] at e1 e2 e3 ⊢; rw [e1, e2, e3]
theorem wy : ∀ n, Lib.repeatL [0] n = List.replicate n 0
 | 0 => rfl
 | n + 1 => by rw [Lib.repeatL, wy n]; rfl
theorem Jdr (t : List UInt8) : ∃ k, t = List.replicate k 0 ++ Lib.trimLeftB t 0 := by
 induction t with
 | nil => exact ⟨0, rfl⟩
 | cons x t ih =>
  by_cases hx : x = 0
  ·subst hx
   obtain ⟨k, hk⟩ := ih
   refine ⟨k + 1, ?_⟩; simp only [Lib.trimLeftB, if_true, List.replicate_succ, List.cons_append] at hk ⊢
   simpa using hk
  ·exact ⟨0, by simp [Lib.trimLeftB, hx]⟩
theorem Jga (l : List Nat) : (WC l).length ≤ 32 := by
 obtain ⟨k, hk⟩ := Jdr (Yq l 32)
 have h := congrArg List.length hk
 rw [Vq, List.length_append, List.length_replicate] at h
 unfold WC; omega
theorem Jo9 (n : Nat) : xH [n, 0, 0, 0] = true := by simp [xH]
theorem Jx7 {n : Nat} (h : n < 18446744073709551616) : WOk [n, 0, 0, 0] := ⟨rfl, fun x hx => by simp at hx; rcases hx with rfl | rfl <;> simp_all⟩
def beN (n : Nat) : List UInt8 := WC [n, 0, 0, 0]
theorem Jpa {n t : Nat} (h : t < 8) : dg [n, 0, 0, 0] t = n / 256 ^ t % 256 := by
 have e : t / 8 = 0 := by omega
 have e2 : t % 8 = t := by omega
 simp only [dg, e, e2, List.getD_cons_zero]; rw [show (256 : Nat) = 2 ^ 8 from rfl, ← Nat.pow_mul, Nat.mul_comm]
theorem Jx8 {n t : Nat} (h : 8 ≤ t) (h2 : t < 32) : dg [n, 0, 0, 0] t = 0 := by
 have hj : t / 8 = 1 ∨ t / 8 = 2 ∨ t / 8 = 3 := by omega
 rcases hj with e | e | e <;> simp [dg, e]
theorem Jis {n k : Nat} (hn : n < 18446744073709551616) (hk : k ≤ 8) : (beN n).length ≤ k ↔ n < 256 ^ k := by
 unfold beN WC
 rw [wx]
 constructor
 ·intro h
  have h' : ∀ t, k ≤ t → t < 8 → n / 256 ^ t % 256 = 0 := fun t h1 h2 => by rw [← Jpa h2]; exact h t h1 (by omega)
  have key : ∀ j, k ≤ j → j ≤ 8 → n < 256 ^ j → n < 256 ^ k := by
   intro j
   induction j with
   | zero => intro h1 _ h3; rw [show k = 0 from by omega]; exact h3
   | succ j ih =>
    intro h1 h2 h3
    by_cases e : k = j + 1
    ·rw [e]; exact h3
    ·refine ih (by omega) (by omega) ?_
     have h4 := h' j (by omega) (by omega)
     have h5 : n / 256 ^ j < 256 := by
      rw [Nat.div_lt_iff_lt_mul (Nat.pow_pos (by decide))]; rw [Nat.pow_succ, Nat.mul_comm] at h3; exact h3
     rw [Nat.mod_eq_of_lt h5] at h4
     rcases Nat.div_eq_zero_iff.1 h4 with h6 | h6
     ·have := Nat.pow_pos (n := j) (show 0 < 256 by decide); omega
     ·exact h6
  exact key 8 hk (Nat.le_refl _) hn
 ·intro h t h1 h2
  by_cases ht : t < 8
  ·rw [Jpa ht, Nat.div_eq_of_lt (Nat.lt_of_lt_of_le h (Nat.pow_le_pow_right (by decide) h1))]
  ·exact Jx8 (by omega) h2
theorem Jpb {n : Nat} (hn : n < 18446744073709551616) : Pure Tryz.prog 138 [uV n].toArray (.string (bs (beN n))) := by
 refine Jl Tryz.func138 rfl rfl fun w => ?_; refine JD ?_; refine Jq 8 rfl ?_; refine Jn rfl rfl rfl qR (VK n) ?_; refine Jn rfl rfl rfl (enters_of Tryz.func200 (by kernel_rfl) rfl) (jE (Jx7 hn)) ?_; refine Jx 4 rfl ?_; refine pT rfl rfl rfl fun w1 hs1 => ?_; exact ⟨rfl, hs1.keep⟩
def yI (n : Nat) (w : Int) : List UInt8 × Int := if w < 1 ∨ w > 8 ∨ ((beN n).length : Int) > w then ([], 1) else (jt n w.toNat, 0)
def ZB (p : List UInt8 × Int) : Value := .tuple #[.string (bs p.1), .int .i64 p.2]
theorem Juh {n i k : Nat} (h : i < k) : ((jt n i ++ List.replicate (k - i) 0).map bV).set i (bV (UInt8.ofNat (n / 2 ^ (8 * i) % 256))) = (jt n (i + 1) ++ List.replicate (k - (i + 1)) 0).map bV := by
 rw [← List.map_set, List.set_append_right _ _ (by rw [Vr]; exact Nat.le_refl _), Vr, Nat.sub_self, show k - i = (k - (i + 1)) + 1 from by omega, List.replicate_succ, List.set_cons_zero, Jcf, List.append_assoc]; rw [show (256 : Nat) ^ i = 2 ^ (8 * i) from by rw [show (256 : Nat) = 2 ^ 8 from rfl, ← Nat.pow_mul]]
 rfl
theorem jG {n : Nat} (hn : n < 18446744073709551616) (k : Int) : Pure Tryz.prog 88 [uV n, .int .i64 k].toArray (ZB (yI n k)) := by
  refine Jl Tryz.func88 rfl rfl fun w => ?_; refine JD ?_; refine Jq 12 rfl ?_
  refine J6 10 rfl (fun gb => ?_) (fun gb => ?_) <;> (try simp only [ZZ] at gb) <;> first | (refine Q1 rfl ?_) | (refine LK rfl ?_)
  all_goals refine LW 3 [] rfl rfl ?_
  all_goals first | refine LK rfl ?_ | (refine J6 14 rfl (fun gb => ?_) (fun gb => ?_) <;> (try simp only [ZZ] at gb) <;> first | (refine Q1 rfl ?_) | (refine LK rfl ?_))
  all_goals first | (refine Jn rfl rfl rfl (enters_of Tryz.func138 (by kernel_rfl) rfl) (Jpb hn) ?_) | refine LK rfl ?_
  all_goals first | refine LR rfl (KK rfl rfl) ?_ | refine LK rfl ?_
  all_goals (
   refine LW 3 [] rfl rfl (Jx 1 rfl (XN 1 rfl ?_)); refine J0 rfl (fun g => ?_) (fun g => ?_)
   try simp only [ZZ] at g
   refine Kh 8 rfl ?_; refine Jg rfl rfl (.cons (Jj rfl) (.cons (Jj rfl) .nil)) (fun w1 hs1 => ?_); refine ⟨?_, hs1.keep⟩; rw [show yI n k = ([], 1) from by unfold yI; rw [if_pos (by omega)]]; rfl
   · try exact Bool.noConfusion g
     all_goals try simp only [ZZ] at g
     all_goals (
      refine JK 3 rfl ?_
      have hk1 : 1 ≤ k ∧ k ≤ 8 ∧ ((beN n).length : Int) ≤ k := by omega
      have hlr : yI n k = (jt n k.toNat, 0) := by unfold yI; rw [if_neg (by omega)]
      obtain ⟨k, rfl⟩ : ∃ j : Nat, k = j := ⟨k.toNat, by omega⟩
      rw [Int.toNat_natCast] at hlr; refine Jq 2 rfl ?_; refine VA (n := k) (b := 1) rfl rfl rfl rfl rfl rfl rfl rfl rfl (by omega) (by omega) fun r2 => ?_; refine JJ 7 rfl ?_; refine LR rfl (Ka rfl rfl) ?_; refine JI 4 rfl ?_; refine Jy (σ := Nat) (fun i => i ≤ k) (fun i => [(0, uV n), (6, .slice (some ⟨r2, 0, none⟩) k k), (24, .int .i64 (k : Int)), (25, .int .i64 (i : Int))]) (fun i => [(r2, .cells ((jt n i ++ List.replicate (k - i) 0).map bV).toArray 5 (0, 0))]) (fun _ _ _ => True) (fun i => k - i) 0 (Nat.zero_le _) (lK rfl) (by simp [jt, bV]) (fun _ _ h => h) ?_; intro i hi; refine JK 6 rfl ?_; refine cD (fun g => ?_) fun g => ?_
      refine Jq 16 rfl ?_; refine J3 (show _ = Value.int .i64 ((8 * i : Nat) : Int) from congrArg (Value.int .i64) (by rw [wrap_i64 (by omega) (by omega)]; omega)) ?_; refine LR rfl (qE (n := 8 * i) rfl rfl (by omega) (show _ ≤ 64 from by omega) (by omega) (jq _ _)) ?_; refine VQ rfl (J3 (show _ = bV (UInt8.ofNat (n / 2 ^ (8 * i) % 256)) from vY _) (LR rfl (JF (j := i) (m := 1) (off' := i) rfl rfl rfl rfl (by omega) (by omega) (by omega)) ?_)); refine Qn (k := 0) (off := i) (xs := (jt n i ++ List.replicate (k - i) 0).map bV) (ys := (jt n (i + 1) ++ List.replicate (k - (i + 1)) 0).map bV) rfl rfl rfl rfl rfl rfl (by simp [Vr]; omega) (Juh (by omega)) rfl ?_; refine JJ 5 rfl ?_; refine Jc (by omega) (by omega) ?_; refine Jx 2 rfl ?_; refine Jv ?_; exact Jo (i + 1) (by omega) (by omega) (lK rfl) (List.Sublist.refl _) (fun _ _ h => h)
      refine JK 6 rfl ?_
      have hik : k = i := by omega
      subst hik; refine Jq 2 rfl ?_; refine LR rfl (KS (b := jt n k) (row := some (r2, k, [])) (e := 5) (show _ = some (J8 (jt n k).length (some (r2, k, []))) from by rw [Vr]; rfl) ⟨by simp [Vr], by simp [Vr]⟩ (fun p hp => .inl (by rw [List.mem_singleton.1 hp]; simp)) rfl rfl rfl) ?_; refine Jx 5 rfl ?_; refine Jg rfl rfl (.cons (Jj rfl) (.cons (Jj rfl) .nil)) (fun w1 hs1 => ?_); refine ⟨?_, hs1.keep⟩; rw [hlr]; rfl
      skip)
   skip)
mutual
def YF : Vl → Nat
 | .mk _ _ _ _ bits _ items _ _ => 1 + bits.length / 8 + wL items
def wL : List Vl → Nat
 | [] => 0
 | x :: xs => YF x + wL xs
end
def ZC (head : Nat) : List (Ty × List UInt8) → List UInt8 → List UInt8 → List UInt8
 | [], f, th => f ++ th
 | (x, s) :: l, f, th => if V4 x then ZC head l (f ++ s) th else ZC head l (f ++ (yI (head + th.length) 4).1) (th ++ s)
def yJ (x : Ty) : Int := if V4 x then KW x else 4
def Vm : List Ty → Int
 | [] => 0
 | x :: l => yJ x + Vm l
mutual
def Vu : Vl → Ty → List UInt8
 | .mk a b c d bits _ items _ pick, t =>
  if t.k = 1 then leW [a, b, c, d] t.n.toNat else if t.k = 2 then leW [a, b, c, d] 1 else if t.k = 5 then WI bits else if t.k = 6 then WI (bits ++ [true])
  else if t.k = 8 then UInt8.ofNat pick.toNat :: ((Ql items t.k pick t.ins 0).headD (default, [])).2
  else ZC (Vm ((Ql items t.k pick t.ins 0).map Prod.fst)).toNat (Ql items t.k pick t.ins 0) [] []
def Ql : List Vl → Int → Int → List Ty → Nat → List (Ty × List UInt8)
 | [], _, _, _, _ => []
 | x :: xs, k, pick, ins, i => (JX k pick ins i, Vu x (JX k pick ins i)) :: Ql xs k pick ins (i + 1)
end
theorem Jds (n : Nat) : (yI n 4).1.length ≤ 4 := by
 unfold yI
 split
 ·exact Nat.zero_le _
 ·rw [Vr]; decide
theorem wz (head : Nat) : ∀ (l : List (Ty × List UInt8)) (f th : List UInt8), (ZC head l f th).length ≤ f.length + th.length + (l.map fun p => p.2.length + 4).sum
 | [], f, th => by rw [ZC, List.length_append]; simp
 | (x, s) :: l, f, th => by
  rw [ZC, List.map_cons, List.sum_cons]
  have h4 := Jds (head + th.length)
  split
  ·have := wz head l (f ++ s) th
   rw [List.length_append] at this
   simp only
   omega
  ·have := wz head l (f ++ (yI (head + th.length) 4).1) (th ++ s)
   rw [List.length_append, List.length_append] at this
   simp only
   omega
theorem wB (v : Vl) : ∀ t : Ty, (Vu v t).length + 4 ≤ 40 * YF v := by
 induction v using Vl.ind with
 | h a b c d bits pb items pi pick ih =>
  intro t
  have key : ∀ (l : List Vl) (i : Nat), (∀ x ∈ l, x ∈ items) → ((Ql l t.k pick t.ins i).map fun p => p.2.length + 4).sum ≤ 40 * wL l := by
   intro l
   induction l with
   | nil => intro i _; rw [Ql, wL]; exact Nat.zero_le _
   | cons x xs ihl =>
    intro i hs; rw [Ql, wL, List.map_cons, List.sum_cons]
    have h1 := ih x (hs x List.mem_cons_self) (JX t.k pick t.ins i)
    have h2 := ihl (i + 1) fun y hy => hs y (List.mem_cons_of_mem _ hy)
    simp only at h1 ⊢; omega
  have hk := key items 0 fun _ h => h
  have hle : ∀ n, (leW [a, b, c, d] n).length ≤ 32 := fun n => by unfold leW; rw [List.length_take, List.length_reverse, Vq]; omega
  rw [Vu, YF]
  split
  ·have := hle t.n.toNat; omega
  ·split
   ·have := hle 1; omega
   ·split
    ·rw [Zk]; omega
    ·split
     ·rw [Zk, List.length_append]; simp only [List.length_cons, List.length_nil]; omega
     ·split
      ·rw [List.length_cons]
       cases items with
       | nil => rw [Ql]; simp only [List.headD_nil, List.length_nil]; omega
       | cons x xs =>
        rw [Ql, List.headD_cons]
        have h1 := ih x List.mem_cons_self (JX t.k pick t.ins 0)
        rw [wL]
        simp only
        omega
      ·have h1 := wz (Vm ((Ql items t.k pick t.ins 0).map Prod.fst)).toNat (Ql items t.k pick t.ins 0) [] []
       simp only [List.length_nil] at h1; omega
def Jui (t : Ty) (v : Vl) : List UInt8 × Int := if V8 t v ≠ 0 then ([], V8 t v) else if (Vu v t).length > 65536 then ([], 5) else (Vu v t, 0)
theorem Juj {n : Nat} (hn : n < 18446744073709551616) : (beN n).length ≤ 8 := (Jis hn (Nat.le_refl 8)).2 hn
theorem Jwy {n k : Nat} (hn : n < 18446744073709551616) (hk : k < 9223372036854775808) : Pure Tryz.prog 238 [uV n, .int .i64 (k : Int)].toArray (uV (Jcn n k)) := by
 refine Jl Tryz.func238 rfl rfl fun w => ?_; refine JD ?_
 have hk6 : k % 64 < 64 := Nat.mod_lt _ (by decide)
 refine Jq 9 rfl ?_; refine J3 (show _ = uV k from congrArg (Value.int .u64) (wrap_u64 (by omega) (by omega))) ?_; refine LR rfl (VT (op := .and) (b := ((k % 64 : Nat) : Int)) rfl rfl rfl (by omega) (by decide) (congrArg (fun z : Nat => (z : Int)) (Nat.and_two_pow_sub_one_eq_mod k 6))) ?_; refine JJ 7 rfl ?_; refine LR rfl (Jhd (n := k % 64) (b := ((n * 2 ^ (k % 64) % 18446744073709551616 : Nat) : Int)) rfl rfl rfl (show _ ≤ 64 from by omega) (Jz0 _)) ?_; refine LS 3 [] rfl rfl ?_; refine J3 (show _ = uV (64 - k % 64) from congrArg (Value.int .u64) (by rw [wrap_u64 (by omega) (by omega)]; omega)) ?_; refine LR rfl (qE (n := 64 - k % 64) rfl rfl rfl (show _ ≤ 64 from by omega) (by omega) (jq _ _)) ?_; refine LR rfl (VT (op := .or) (b := ((Jcn n k : Nat) : Int)) rfl rfl rfl (Nat.mod_lt _ (by decide)) (Nat.lt_of_le_of_lt (Nat.div_le_self _ _) hn) rfl) ?_; refine Jx 4 rfl ?_; refine pT rfl rfl rfl fun w1 hs1 => ?_; exact ⟨rfl, hs1.keep⟩
theorem Jao : Pure Tryz.prog 237 [].toArray (.func (.func 313) #[] #[]) := by
 refine Jl Tryz.func237 rfl rfl fun w => ?_; refine JD ?_; refine Kh 11 rfl ?_; refine pT rfl rfl rfl fun w1 hs1 => ?_; exact ⟨rfl, hs1.keep⟩
def Jpc (i : Nat) : List Value := [.int .i64 (i : Int), .agg [.int .i64 ((i % 5 : Nat) : Int), .int .i64 ((i / 5 : Nat) : Int)].toArray]
theorem Jap : jk Tryz.prog 313 [] [] 0 (nxN Jpc 25) (yE 25) := by
  refine Vf Tryz.func313 rfl rfl fun q xids w2 XI XF hY => ?_; refine JD ?_; refine JK 6 rfl ?_; refine Jy (σ := Nat) (fun i => i ≤ 25) (fun i => [(0, .func (.yield q) #[] #[]), (3, .int .i64 (i : Int))]) (fun _ => []) (fun i => XI i) (fun i => 25 - i) 0 (Nat.zero_le _) (lK rfl) (List.nil_sublist _) (fun _ _ h => h) ?_; intro i hi; refine JK 6 rfl ?_; refine cD (fun g => ?_) fun g => ?_
  · refine Jq 16 rfl ?_; refine J3 (show _ = Value.int .i64 ((i % 5 : Nat) : Int) from congrArg (Value.int .i64) (Wm _ 5)) ?_; refine LS 2 [] rfl rfl ?_; refine J3 (show _ = Value.int .i64 ((i / 5 : Nat) : Int) from congrArg (Value.int .i64) (by rw [Va (by omega) (by omega) (by omega)]; omega)) ?_; refine LR rfl (Jt (r := [_, _]) rfl rfl) ?_; refine V2 (XT := XI (i + 1)) (XF := XF) rfl rfl rfl rfl (hY i (Jpc i) (i + 1) ⟨by omega, rfl, rfl⟩) ?_ ?_
    all_goals (
     refine Jx 2 rfl (XN 1 rfl ?_); refine J0 rfl (fun g => ?_) (fun g => ?_)
     · try exact Bool.noConfusion g
       all_goals try simp only [ZZ] at g
       all_goals (
        refine Kh 5 rfl ?_; refine Jg rfl rfl .nil (fun w1 hs1 => ?_)
        obtain ⟨xs1, hx1⟩ := hs1.now
        exact ⟨⟨_, rfl⟩, hs1.keep, .inr ⟨_, hx1⟩⟩
        skip)
     · try exact Bool.noConfusion g
       all_goals try simp only [ZZ] at g
       all_goals (
        refine Jq 5 rfl ?_; refine Jc (by omega) (by omega) ?_; refine Jx 2 rfl ?_; refine Jv ?_; exact Jo (i + 1) (by omega) (by omega) (lK rfl) (List.nil_sublist _) (fun _ _ h => h)
        skip)
     skip)
  · refine Kh 4 rfl ?_; refine Kv rfl rfl .nil (fun w1 hs1 => ?_)
    obtain ⟨xs1, hx1⟩ := hs1.now
    exact ⟨⟨_, rfl⟩, hs1.keep, .inl ⟨i, _, (by show i = 25; omega), hx1⟩⟩
def kO (a : List Nat) : Obj := .cells (a.map uV).toArray 148 (0, 0)
def cO (c : List Nat) : Obj := .cells (c.map uV).toArray 285 (0, 0)
theorem Jlb {a : List Nat} (ha : SOk 25 a) (r : Nat) : PureM Tryz.prog 236 [.pointer (some ⟨r, 0, none⟩)].toArray (.tuple #[]) r (kO a) (kO (Jkv a)) := by
 refine qG Tryz.func236 rfl rfl fun w => ?_; refine JD ?_
 have hal := ha.1
 obtain ⟨cc, hcc⟩ : ∃ c, c = cS a 25 := ⟨_, rfl⟩
 have hc : SOk 5 cc := by rw [hcc]; exact Jcp ha 25
 have hmx : Jkv a = mS cc a 25 := by rw [hcc]; rfl
 refine Jq 2 rfl ?_; refine LN rfl fun r1 => ?_; refine JJ 4 rfl ?_; refine Qu (cs := ((cS a 0).map uV).toArray) rfl rfl rfl rfl fun r2 => ?_; refine JJ 5 rfl ?_; refine Jn rfl rfl rfl Jif Jao ?_; refine JI 3 rfl ?_; refine Xd (τ := Unit) (fun i (s : List Nat) => s = cS a i ∧ i ≤ 25) (fun s => [(r2, cO s)]) (fun _ _ => False) (fun _ => []) [(r1, _), (r, kO a)] (cS a 0) rfl rfl Jil Jap (by rintro _ _ _ ⟨_, rfl, _⟩; rfl) rfl (by simp) rfl ⟨rfl, by decide⟩ ?_ ?_ ?_
 rintro q Xr Xb w3 i _ _ s ⟨hi, rfl, rfl⟩ ⟨hs, -⟩ Kr hKr; refine inR ?_
 have hsk : SOk 5 s := by rw [hs]; exact Jcp ha i
 have hsl := hsk.1
 refine Jq 6 rfl ?_; refine LN rfl fun r2 => ?_
 refine LT 0 rfl rfl ?_; refine Jx 1 rfl ?_; refine hKr _ _ ?_; refine JD ?_; clear hKr; refine JK 1 rfl ?_; refine JE 11 (by kernel_rfl) (by kernel_rfl) ?_
 refine Ja rfl rfl rfl (JP (j := 0) rfl rfl rfl rfl rfl (by first | decide | omega) (by first | (simp only [Nat.zero_add, Nat.reduceAdd, Nat.reduceMul, Nat.zero_mul, Nat.mul_one, Nat.add_zero]; exact rfl) | exact rfl)) ?_; refine Ja rfl rfl rfl (Je rfl (kn 0 rfl) rfl rfl) ?_; refine Ja rfl rfl rfl (JP (j := i % 5) (m := 1) (off' := i % 5) rfl rfl rfl rfl (by omega) (by omega) (by omega)) ?_; refine Ja rfl rfl rfl (KH rfl (kn 1 rfl) rfl (Qj (by rw [hsl]; omega))) ?_; refine Ja rfl rfl rfl (Je rfl (J5 (k := 0) rfl) rfl rfl) ?_; refine Ja rfl rfl rfl (Jf rfl) ?_; refine Ja rfl rfl rfl (J2 rfl rfl rfl) ?_; refine Ja rfl rfl rfl (JP (j := i) (m := 1) (off' := i) rfl rfl rfl rfl (by omega) (by omega) (by omega)) ?_; refine Ja rfl rfl rfl (KH rfl (J5 (k := 1) rfl) rfl (Qj (by rw [hal]; omega))) ?_; refine Ja rfl rfl rfl (VT (op := .xor) (b := ((s.getD (i % 5) 0 ^^^ a.getD i 0 : Nat) : Int)) rfl rfl rfl (hsk.get _) (ha.get _) rfl) ?_; refine Ja rfl rfl rfl (JP (j := i % 5) (m := 1) (off' := i % 5) rfl rfl rfl rfl (by omega) (by omega) (by omega)) ?_; refine JS ?_; refine Qn (k := 1) (off := i % 5) (xs := s.map uV) (ys := (cS a (i + 1)).map uV) rfl rfl rfl rfl rfl rfl (by rw [List.length_map, hsl]; omega) (Xg (by rw [hs]; rfl)) rfl ?_; refine Jx 2 rfl ?_; refine Qi [1] (L' := [_]) (by decide) rfl ?_; exact KD (cS a (i + 1)) ⟨rfl, by omega⟩ rfl
 rintro D i s hfi ⟨hs, -⟩
 have hi25 : i = 25 := hfi
 subst hi25; rw [← hcc] at hs
 have hs := hs.symm
 subst hs; refine gqo 4 rfl ?_; refine Jn rfl rfl rfl Jif Jao ?_; refine JI 3 rfl ?_; refine QX [3, 0, 1, 2] (by decide) rfl ?_; refine Xd (τ := Unit) (fun i (s : List Nat) => s = mS cc a i ∧ i ≤ 25) (fun s => [(r, kO s)]) (fun _ _ => False) (fun _ => []) [(D, _), (r2, cO cc), (r1, _)] (a) rfl rfl Jil Jap (by rintro _ _ _ ⟨_, rfl, _⟩; rfl) rfl (by simp) rfl ⟨rfl, by decide⟩ ?_ ?_ ?_
 rintro q Xr Xb w3 i _ _ s ⟨hi, rfl, rfl⟩ ⟨hs, -⟩ Kr hKr; refine inR ?_
 have hsk : SOk 25 s := by rw [hs]; exact Jho hc ha i
 have hsl := hsk.1
 refine Jq 6 rfl ?_; refine LN rfl fun r3 => ?_
 refine LT 0 rfl rfl ?_; refine Jx 1 rfl ?_; refine hKr _ _ ?_; refine JD ?_; clear hKr; refine Jq 3 rfl ?_
 refine LR rfl (JP (j := 0) rfl rfl rfl rfl rfl (by first | decide | omega) (by first | (simp only [Nat.zero_add, Nat.reduceAdd, Nat.reduceMul, Nat.zero_mul, Nat.mul_one, Nat.add_zero]; exact rfl) | exact rfl)) ?_; refine Goc 4 [0] rfl rfl ?_; refine JE 21 (by kernel_rfl) (by kernel_rfl) ?_; refine Ja rfl rfl rfl (Je rfl (J5 (k := 2) rfl) rfl rfl) ?_; refine Ja rfl rfl rfl (Jf rfl) ?_; refine Ja rfl rfl rfl (J2 rfl rfl rfl) ?_; refine Ja rfl rfl rfl (JP (j := i) (m := 1) (off' := i) rfl rfl rfl rfl (by omega) (by omega) (by omega)) ?_; refine Ja rfl rfl rfl (KH rfl (kn 1 rfl) rfl (Qj (by rw [hsl]; omega))) ?_; refine Ja rfl rfl rfl (Jf rfl) ?_; refine Ja rfl rfl rfl (J2 rfl rfl rfl) ?_; refine KR (show _ = Value.int .i64 ((i % 5 + 5 : Nat) : Int) from congrArg (Value.int .i64) (by rw [wrap_i64 (by omega) (by omega)]; omega)) ?_; refine Ja rfl rfl rfl (J2 rfl rfl rfl) ?_; refine KR (show _ = Value.int .i64 ((i % 5 + 5 - 1 : Nat) : Int) from congrArg (Value.int .i64) (by rw [wrap_i64 (by omega) (by omega)]; omega)) ?_; refine Ja rfl rfl rfl (J2 rfl rfl rfl) ?_; refine KR (show _ = Value.int .i64 (((i % 5 + 5 - 1) % 5 : Nat) : Int) from congrArg (Value.int .i64) (by rw [Int.tmod_eq_emod_of_nonneg (by omega)]; omega)) ?_; refine Ja rfl rfl rfl (JP (j := (i % 5 + 5 - 1) % 5) (m := 1) (off' := (i % 5 + 5 - 1) % 5) rfl rfl rfl rfl (by omega) (by omega) (by omega)) ?_; refine Ja rfl rfl rfl (KH rfl (J5 (k := 1) rfl) rfl (Qj (by rw [hc.1]; omega))) ?_; refine Ja rfl rfl rfl (Jf rfl) ?_; refine Ja rfl rfl rfl (J2 rfl rfl rfl) ?_; refine KR (show _ = Value.int .i64 ((i % 5 + 1 : Nat) : Int) from congrArg (Value.int .i64) (by rw [wrap_i64 (by omega) (by omega)]; omega)) ?_; refine Ja rfl rfl rfl (J2 rfl rfl rfl) ?_; refine KR (show _ = Value.int .i64 (((i % 5 + 1) % 5 : Nat) : Int) from congrArg (Value.int .i64) (by rw [Int.tmod_eq_emod_of_nonneg (by omega)]; omega)) ?_; refine Ja rfl rfl rfl (JP (j := (i % 5 + 1) % 5) (m := 1) (off' := (i % 5 + 1) % 5) rfl rfl rfl rfl (by omega) (by omega) (by omega)) ?_; refine Ja rfl rfl rfl (KH rfl (J5 (k := 1) rfl) rfl (Qj (by rw [hc.1]; omega))) ?_; refine Ky rfl rfl rfl (enters_of Tryz.func238 (by kernel_rfl) rfl) (Jwy (k := 1) (hc.get _) (by decide)) ?_; refine Ja rfl rfl rfl (VT (op := .xor) (b := ((cc.getD ((i % 5 + 5 - 1) % 5) 0 ^^^ Jcn (cc.getD ((i % 5 + 1) % 5) 0) 1 : Nat) : Int)) rfl rfl rfl (hc.get _) (vw (hc.get _) 1) rfl) ?_; refine Ja rfl rfl rfl (VT (op := .xor) (b := ((s.getD i 0 ^^^ (cc.getD ((i % 5 + 5 - 1) % 5) 0 ^^^ Jcn (cc.getD ((i % 5 + 1) % 5) 0) 1) : Nat) : Int)) rfl rfl rfl (hsk.get _) (Wy (hc.get _) (vw (hc.get _) 1)) rfl) ?_; refine Ja rfl rfl rfl (J2 rfl rfl rfl) ?_; refine Ja rfl rfl rfl (JP (j := i) (m := 1) (off' := i) rfl rfl rfl rfl (by omega) (by omega) (by omega)) ?_; refine JS ?_; refine Qn (k := 1) (off := i) (xs := s.map uV) (ys := (mS cc a (i + 1)).map uV) rfl rfl rfl rfl rfl rfl (by rw [List.length_map, hsl]; omega) (Xg (by rw [hs]; rfl)) rfl ?_; refine Jx 2 rfl ?_; refine Qi [1] (L' := [_]) (by decide) rfl ?_; exact KD (mS cc a (i + 1)) ⟨rfl, by omega⟩ rfl
 rintro D2 i s hfi ⟨hs, -⟩
 have hi25 : i = 25 := hfi
 subst hi25; refine ZT 1 rfl ?_; refine KX (k := 0) rfl rfl ?_; refine KX (k := 2) rfl rfl ?_; refine Jg rfl rfl .nil (fun w1 hs1 => ?_); exact ⟨rfl, _, List.mem_cons_of_mem _ (by rw [hmx, ← hs]; exact List.mem_cons_self), hs1⟩
 exact fun _ _ _ h => h.elim
 ·exact fun _ _ _ h => h.elim
theorem Juk {a : List Nat} (ha : SOk 25 a) {n : Nat} (hn : n < 18446744073709551616) {by_ : List Nat} (hbl : by_.length = 25) (hby : ∀ i, by_.getD i 0 < 9223372036854775808) (r : Nat) :
  PureM Tryz.prog 178 [.pointer (some ⟨r, 0, none⟩), uV n, .agg (by_.map iV).toArray].toArray (.tuple #[]) r (kO a) (kO (we by_ a n)) := by
 refine qG Tryz.func178 rfl rfl fun w => ?_; refine JD ?_
 obtain ⟨m, hm⟩ : ∃ m, m = Jkv a := ⟨_, rfl⟩
 have hmk : SOk 25 m := by rw [hm]; exact xP ha
 have hml := hmk.1
 have hbk := Jcq by_ hmk 25
 obtain ⟨b, hb⟩ : ∃ b, b = rS m by_ 25 := ⟨_, rfl⟩
 have hbk : SOk 25 b := by rw [hb]; exact Jcq by_ hmk 25
 have hbln := hbk.1
 have hra : we by_ a n = Jhq (xS b m 25) n := by rw [hb, hm]; rfl
 refine Jq 2 rfl ?_; refine LN rfl fun r1 => ?_; refine JR (cs := (by_.map iV).toArray) rfl rfl rfl rfl fun r2 => ?_; refine JJ 4 rfl ?_; refine LR rfl (Je rfl (kn 1 rfl) rfl rfl) ?_; refine Jcg (k := 2) rfl rfl rfl (enters_of Tryz.func236 (by kernel_rfl) rfl) rfl (Jlb ha r) rfl ?_; rw [← hm]; refine JJ 4 rfl ?_; refine Qu (cs := (z25.map uV).toArray) rfl rfl rfl rfl fun r3 => ?_; refine JJ 5 rfl ?_; refine Jn rfl rfl rfl Jif Jao ?_; refine JI 3 rfl ?_; refine Xd (τ := Unit) (fun i (s : List Nat) => s = rS m by_ i ∧ i ≤ 25) (fun s => [(r3, kO s)]) (fun _ _ => False) (fun _ => []) [(r2, _), (r1, _), (r, kO m)] (z25) rfl rfl Jil Jap (by rintro _ _ _ ⟨_, rfl, _⟩; rfl) rfl (by simp) rfl ⟨rfl, by decide⟩ ?_ ?_ ?_
 rintro q Xr Xb w3 i _ _ s ⟨hi, rfl, rfl⟩ ⟨hs, -⟩ Kr hKr; refine inR ?_
 have hsk : SOk 25 s := by rw [hs]; exact Jcq by_ hmk i
 have hsl := hsk.1
 refine Jq 6 rfl ?_; refine LN rfl fun r2 => ?_
 refine LT 0 rfl rfl ?_; refine Jx 1 rfl ?_; refine hKr _ _ ?_; refine JD ?_; clear hKr; refine JK 2 rfl ?_; refine JE 6 (by kernel_rfl) (by kernel_rfl) ?_
 refine Ja rfl rfl rfl (JP (j := 0) rfl rfl rfl rfl rfl (by first | decide | omega) (by first | (simp only [Nat.zero_add, Nat.reduceAdd, Nat.reduceMul, Nat.zero_mul, Nat.mul_one, Nat.add_zero]; exact rfl) | exact rfl)) ?_; refine Ja rfl rfl rfl (Je rfl (kn 0 rfl) rfl rfl) ?_
 refine Ja rfl rfl rfl (JP (j := 1) rfl rfl rfl rfl rfl (by first | decide | omega) (by first | (simp only [Nat.zero_add, Nat.reduceAdd, Nat.reduceMul, Nat.zero_mul, Nat.mul_one, Nat.add_zero]; exact rfl) | exact rfl)) ?_; refine Ja rfl rfl rfl (Je rfl (kn 0 rfl) rfl rfl) ?_; refine Ja rfl rfl rfl (JC rfl) ?_; refine Ja rfl rfl rfl (JC rfl) ?_; refine JS ?_; refine JI 2 rfl ?_; refine JE 19 (by kernel_rfl) (by kernel_rfl) ?_; refine Ja rfl rfl rfl (Jf rfl) ?_; refine Ja rfl rfl rfl (Jf rfl) ?_; refine Ja rfl rfl rfl (J2 rfl rfl rfl) ?_; refine KR (show _ = Value.int .i64 ((2 * (i % 5) : Nat) : Int) from congrArg (Value.int .i64) (by rw [wrap_i64 (by omega) (by omega)]; omega)) ?_; refine Ja rfl rfl rfl (Jf rfl) ?_; refine Ja rfl rfl rfl (J2 rfl rfl rfl) ?_; refine KR (show _ = Value.int .i64 ((3 * (i / 5) : Nat) : Int) from congrArg (Value.int .i64) (by rw [wrap_i64 (by omega) (by omega)]; omega)) ?_; refine Ja rfl rfl rfl (J2 rfl rfl rfl) ?_; refine KR (show _ = Value.int .i64 ((2 * (i % 5) + 3 * (i / 5) : Nat) : Int) from congrArg (Value.int .i64) (by rw [wrap_i64 (by omega) (by omega)]; omega)) ?_; refine Ja rfl rfl rfl (J2 rfl rfl rfl) ?_; refine KR (show _ = Value.int .i64 (((2 * (i % 5) + 3 * (i / 5)) % 5 : Nat) : Int) from congrArg (Value.int .i64) (by rw [Int.tmod_eq_emod_of_nonneg (by omega)]; omega)) ?_; refine Ja rfl rfl rfl (J2 rfl rfl rfl) ?_; refine KR (show _ = Value.int .i64 ((5 * ((2 * (i % 5) + 3 * (i / 5)) % 5) : Nat) : Int) from congrArg (Value.int .i64) (by rw [wrap_i64 (by omega) (by omega)]; omega)) ?_; refine Ja rfl rfl rfl (J2 rfl rfl rfl) ?_; refine KR (show _ = Value.int .i64 ((i / 5 + 5 * ((2 * (i % 5) + 3 * (i / 5)) % 5) : Nat) : Int) from congrArg (Value.int .i64) (by rw [wrap_i64 (by omega) (by omega)]; omega)) ?_; refine Ja rfl rfl rfl (Je rfl (J5 (k := 1) rfl) rfl rfl) ?_; refine Ja rfl rfl rfl (Jf rfl) ?_; refine Ja rfl rfl rfl (J2 rfl rfl rfl) ?_; refine Ja rfl rfl rfl (JP (j := i) (m := 1) (off' := i) rfl rfl rfl rfl (by omega) (by omega) (by omega)) ?_; refine Ja rfl rfl rfl (KH rfl (J5 (k := 2) rfl) rfl (Qj (by rw [hml]; omega))) ?_; refine Ja rfl rfl rfl (Jf rfl) ?_; refine Ja rfl rfl rfl (JP (j := i) (m := 1) (off' := i) rfl rfl rfl rfl (by omega) (by omega) (by omega)) ?_; refine Ja rfl rfl rfl (KH rfl (J5 (k := 0) rfl) rfl (Jne (by rw [hbl]; omega))) ?_; refine Ky rfl rfl rfl (enters_of Tryz.func238 (by kernel_rfl) rfl) (Jwy (k := by_.getD i 0) (hmk.get _) (hby i)) ?_; refine Ja rfl rfl rfl (JP (j := (i / 5 + 5 * ((2 * (i % 5) + 3 * (i / 5)) % 5))) (m := 1) (off' := (i / 5 + 5 * ((2 * (i % 5) + 3 * (i / 5)) % 5))) rfl rfl rfl rfl (by omega) (by omega) (by omega)) ?_; refine JS ?_; refine Qn (k := 1) (off := i / 5 + 5 * ((2 * (i % 5) + 3 * (i / 5)) % 5)) (xs := s.map uV) (ys := (rS m by_ (i + 1)).map uV) rfl rfl rfl rfl rfl rfl (by rw [List.length_map, hsl]; omega) (Xg (by rw [hs]; rfl)) rfl ?_; refine Jx 2 rfl ?_; refine Qi [1] (L' := [_]) (by decide) rfl ?_; exact KD (rS m by_ (i + 1)) ⟨rfl, by omega⟩ rfl
 rintro D i s hfi ⟨hs, -⟩
 have hi25 : i = 25 := hfi
 subst hi25; rw [← hb] at hs
 have hs := hs.symm
 subst hs; refine gqo 5 rfl ?_; refine Jn rfl rfl rfl Jif Jao ?_; refine JI 3 rfl ?_; refine QX [4, 0, 1, 2, 3] (by decide) rfl ?_; refine Xd (τ := Unit) (fun i (s : List Nat) => s = xS b m i ∧ i ≤ 25) (fun s => [(r, kO s)]) (fun _ _ => False) (fun _ => []) [(D, _), (r3, kO b), (r2, _), (r1, _)] (m) rfl rfl Jil Jap (by rintro _ _ _ ⟨_, rfl, _⟩; rfl) rfl (by simp) rfl ⟨rfl, by decide⟩ ?_ ?_ ?_
 rintro q Xr Xb w3 i _ _ s ⟨hi, rfl, rfl⟩ ⟨hs, -⟩ Kr hKr; refine inR ?_
 have hsk : SOk 25 s := by rw [hs]; exact Jhp hbk hmk i
 have hsl := hsk.1
 refine Jq 6 rfl ?_; refine LN rfl fun r3 => ?_
 refine LT 0 rfl rfl ?_; refine Jx 1 rfl ?_; refine hKr _ _ ?_; refine JD ?_; clear hKr; refine JK 2 rfl ?_; refine JE 8 (by kernel_rfl) (by kernel_rfl) ?_
 refine Ja rfl rfl rfl (JP (j := 0) rfl rfl rfl rfl rfl (by first | decide | omega) (by first | (simp only [Nat.zero_add, Nat.reduceAdd, Nat.reduceMul, Nat.zero_mul, Nat.mul_one, Nat.add_zero]; exact rfl) | exact rfl)) ?_; refine Ja rfl rfl rfl (Je rfl (kn 0 rfl) rfl rfl) ?_; refine Ja rfl rfl rfl (Jf rfl) ?_
 refine Ja rfl rfl rfl (JP (j := 0) rfl rfl rfl rfl rfl (by first | decide | omega) (by first | (simp only [Nat.zero_add, Nat.reduceAdd, Nat.reduceMul, Nat.zero_mul, Nat.mul_one, Nat.add_zero]; exact rfl) | exact rfl)) ?_; refine Ja rfl rfl rfl (Je rfl (kn 0 rfl) rfl rfl) ?_; refine Ja rfl rfl rfl (J2 rfl rfl rfl) ?_; refine KR (show _ = Value.int .i64 ((i - i % 5 : Nat) : Int) from congrArg (Value.int .i64) (by rw [wrap_i64 (by omega) (by omega)]; omega)) ?_; refine Ja rfl rfl rfl (JC rfl) ?_; refine Ja rfl rfl rfl (JC rfl) ?_; refine JS ?_; refine JI 2 rfl ?_; refine JE 24 (by kernel_rfl) (by kernel_rfl) ?_; refine Ja rfl rfl rfl (Je rfl (J5 (k := 3) rfl) rfl rfl) ?_; refine Ja rfl rfl rfl (Jf rfl) ?_; refine Ja rfl rfl rfl (Jf rfl) ?_; refine Ja rfl rfl rfl (JP (j := i) (m := 1) (off' := i) rfl rfl rfl rfl (by omega) (by omega) (by omega)) ?_; refine Ja rfl rfl rfl (KH rfl (J5 (k := 1) rfl) rfl (Qj (by rw [hbln]; omega))) ?_; refine Ja rfl rfl rfl (Jf rfl) ?_; refine Ja rfl rfl rfl (Jf rfl) ?_; refine Ja rfl rfl rfl (J2 rfl rfl rfl) ?_; refine KR (show _ = Value.int .i64 ((i % 5 + 1 : Nat) : Int) from congrArg (Value.int .i64) (by rw [wrap_i64 (by omega) (by omega)]; omega)) ?_; refine Ja rfl rfl rfl (J2 rfl rfl rfl) ?_; refine KR (show _ = Value.int .i64 (((i % 5 + 1) % 5 : Nat) : Int) from congrArg (Value.int .i64) (by rw [Int.tmod_eq_emod_of_nonneg (by omega)]; omega)) ?_; refine Ja rfl rfl rfl (J2 rfl rfl rfl) ?_; refine KR (show _ = Value.int .i64 ((i - i % 5 + (i % 5 + 1) % 5 : Nat) : Int) from congrArg (Value.int .i64) (by rw [wrap_i64 (by omega) (by omega)]; omega)) ?_; refine Ja rfl rfl rfl (JP (j := (i - i % 5 + (i % 5 + 1) % 5)) (m := 1) (off' := (i - i % 5 + (i % 5 + 1) % 5)) rfl rfl rfl rfl (by omega) (by omega) (by omega)) ?_; refine Ja rfl rfl rfl (KH rfl (J5 (k := 1) rfl) rfl (Qj (by rw [hbln]; omega))) ?_; refine Ja rfl rfl rfl (Jtc rfl (hbk.get _)) ?_; refine Ja rfl rfl rfl (Jf rfl) ?_; refine Ja rfl rfl rfl (Jf rfl) ?_; refine Ja rfl rfl rfl (J2 rfl rfl rfl) ?_; refine KR (show _ = Value.int .i64 ((i % 5 + 2 : Nat) : Int) from congrArg (Value.int .i64) (by rw [wrap_i64 (by omega) (by omega)]; omega)) ?_; refine Ja rfl rfl rfl (J2 rfl rfl rfl) ?_; refine KR (show _ = Value.int .i64 (((i % 5 + 2) % 5 : Nat) : Int) from congrArg (Value.int .i64) (by rw [Int.tmod_eq_emod_of_nonneg (by omega)]; omega)) ?_; refine Ja rfl rfl rfl (J2 rfl rfl rfl) ?_; refine KR (show _ = Value.int .i64 ((i - i % 5 + (i % 5 + 2) % 5 : Nat) : Int) from congrArg (Value.int .i64) (by rw [wrap_i64 (by omega) (by omega)]; omega)) ?_; refine Ja rfl rfl rfl (JP (j := (i - i % 5 + (i % 5 + 2) % 5)) (m := 1) (off' := (i - i % 5 + (i % 5 + 2) % 5)) rfl rfl rfl rfl (by omega) (by omega) (by omega)) ?_; refine Ja rfl rfl rfl (KH rfl (J5 (k := 1) rfl) rfl (Qj (by rw [hbln]; omega))) ?_; refine Ja rfl rfl rfl (VT (op := .and) (b := (((18446744073709551615 ^^^ b.getD (i - i % 5 + (i % 5 + 1) % 5) 0) &&& b.getD (i - i % 5 + (i % 5 + 2) % 5) 0 : Nat) : Int)) rfl rfl rfl (Wy (by decide) (hbk.get _)) (hbk.get _) rfl) ?_; refine Ja rfl rfl rfl (VT (op := .xor) (b := ((Jxo b i : Nat) : Int)) rfl rfl rfl (hbk.get _) (Jco (hbk.get _)) rfl) ?_; refine Ja rfl rfl rfl (J2 rfl rfl rfl) ?_; refine Ja rfl rfl rfl (JP (j := i) (m := 1) (off' := i) rfl rfl rfl rfl (by omega) (by omega) (by omega)) ?_; refine JS ?_; refine Qn (k := 1) (off := i) (xs := s.map uV) (ys := (xS b m (i + 1)).map uV) rfl rfl rfl rfl rfl rfl (by rw [List.length_map, hsl]; omega) (Xg (by rw [hs]; rfl)) rfl ?_; refine Jx 2 rfl ?_; refine Qi [1] (L' := [_]) (by decide) rfl ?_; exact KD (xS b m (i + 1)) ⟨rfl, by omega⟩ rfl
 rintro D2 i s hfi ⟨hs, -⟩
 have hi25 : i = 25 := hfi
 subst hi25
 have hsk : SOk 25 s := by rw [hs]; exact Jhp hbk hmk 25
 have hsl := hsk.1
 refine XN 2 rfl ?_; refine JE 8 (by kernel_rfl) (by kernel_rfl) ?_; refine Ja rfl rfl rfl (Je rfl (kn 5 rfl) rfl rfl) ?_; refine Ja rfl rfl rfl (J2 rfl rfl rfl) ?_
 refine Ja rfl rfl rfl (JP (j := 0) rfl rfl rfl rfl rfl (by first | decide | omega) (by first | (simp only [Nat.zero_add, Nat.reduceAdd, Nat.reduceMul, Nat.zero_mul, Nat.mul_one, Nat.add_zero]; exact rfl) | exact rfl)) ?_; refine Ja rfl rfl rfl (KH rfl (kn 1 rfl) rfl (Qj (by rw [hsl]; omega))) ?_; refine Ja rfl rfl rfl (Jf rfl) ?_; refine Ja rfl rfl rfl (VT (op := .xor) (b := ((s.getD 0 0 ^^^ n : Nat) : Int)) rfl rfl rfl (hsk.get _) (hn) rfl) ?_; refine Ja rfl rfl rfl (J2 rfl rfl rfl) ?_
 refine Ja rfl rfl rfl (JP (j := 0) rfl rfl rfl rfl rfl (by first | decide | omega) (by first | (simp only [Nat.zero_add, Nat.reduceAdd, Nat.reduceMul, Nat.zero_mul, Nat.mul_one, Nat.add_zero]; exact rfl) | exact rfl)) ?_; refine JS ?_; refine Qn (k := 1) (off := 0) (xs := s.map uV) (ys := (Jhq s n).map uV) rfl rfl rfl rfl rfl rfl (by rw [List.length_map, hsl]; omega) (Xg rfl) rfl ?_; refine Jx 1 rfl ?_; refine KX (k := 0) rfl rfl ?_; refine KX (k := 2) rfl rfl ?_; refine Jg rfl rfl .nil (fun w1 hs1 => ?_); exact ⟨rfl, _, List.mem_cons_of_mem _ (by rw [hra, ← hs]; exact List.mem_cons_self), hs1⟩
 exact fun _ _ _ h => h.elim
 ·exact fun _ _ _ h => h.elim
theorem Jul : Pure Tryz.prog 176 [].toArray (.agg (turnsL.map iV).toArray) := by
 refine Jl Tryz.func176 rfl rfl fun w => ?_; refine JD ?_; refine Jq 2 rfl ?_; refine LN rfl fun r1 => ?_; refine JJ 4 rfl ?_; refine LR rfl (Jt (r := turnsL.map iV) rfl (by kernel_rfl)) ?_; refine Jh (k := 0) (n := 25) (ys := turnsL.map iV) rfl rfl rfl rfl rfl rfl rfl rfl rfl ?_; refine Jx 3 rfl ?_; refine Jg rfl rfl (.cons (Jr (vs := turnsL.map iV) rfl (kn 0 rfl) rfl rfl) .nil) (fun w1 hs1 => ?_); exact ⟨rfl, hs1.keep⟩
theorem Jlc : Pure Tryz.prog 177 [].toArray (.agg (numsL.map uV).toArray) := by
 refine Jl Tryz.func177 rfl rfl fun w => ?_; refine JD ?_; refine Jq 2 rfl ?_; refine LN rfl fun r1 => ?_; refine JJ 4 rfl ?_; refine LR rfl (Jt (r := numsL.map uV) rfl (by kernel_rfl)) ?_; refine Jh (k := 0) (n := 24) (ys := numsL.map uV) rfl rfl rfl rfl rfl rfl rfl rfl rfl ?_; refine Jx 3 rfl ?_; refine Jg rfl rfl (.cons (Jr (vs := numsL.map uV) rfl (kn 0 rfl) rfl rfl) .nil) (fun w1 hs1 => ?_); exact ⟨rfl, hs1.keep⟩
theorem Jpd (i : Nat) : turnsL.getD i 0 < 9223372036854775808 := by
 by_cases h : i < 25
 ·have : turnsL.all (fun x => decide (x < 9223372036854775808)) = true := by decide
  have hm : turnsL.getD i 0 ∈ turnsL := by simp [List.getD_eq_getElem?_getD, show i < turnsL.length from h]
  exact of_decide_eq_true (List.all_eq_true.1 this _ hm)
 ·rw [List.getD_eq_getElem?_getD, List.getElem?_eq_none (by simpa [turnsL] using h)]; decide
theorem Jld {a : List Nat} (ha : SOk 25 a) : Pure Tryz.prog 109 [.agg (a.map uV).toArray].toArray (.agg ((zk a).map uV).toArray) := by
 refine Jl Tryz.func109 rfl rfl fun w => ?_; refine JD ?_
 have hal := ha.1
 obtain ⟨tu, htu⟩ : ∃ t, t = turnsL := ⟨_, rfl⟩
 have htul : tu.length = 25 := by rw [htu]; rfl
 have htub : ∀ i, tu.getD i 0 < 9223372036854775808 := by rw [htu]; exact Jpd
 obtain ⟨nu, hnu⟩ : ∃ t, t = numsL := ⟨_, rfl⟩
 have hnuk : SOk 24 nu := by rw [hnu]; exact numsL_ok
 have hnul := hnuk.1
 have hPt : Pure Tryz.prog 176 [].toArray (.agg (tu.map iV).toArray) := by rw [htu]; exact Jul
 have hPn : Pure Tryz.prog 177 [].toArray (.agg (nu.map uV).toArray) := by rw [hnu]; exact Jlc
 refine Jq 2 rfl ?_; refine JR (cs := (a.map uV).toArray) rfl rfl rfl rfl fun r1 => ?_; refine Qu (cs := (z25.map uV).toArray) rfl rfl rfl rfl fun r2 => ?_; refine JJ 4 rfl ?_; refine LR rfl (Jd (xs := a.map uV) (n := 25) rfl (kn 1 rfl) rfl rfl (by rw [List.length_map, hal])) ?_; refine Qu (cs := (z25.map uV).toArray) rfl rfl rfl rfl fun r3 => ?_; refine Jh (k := 0) (n := 25) (ys := a.map uV) rfl rfl rfl rfl rfl (by rw [List.length_map, hal]) rfl (YM _) rfl ?_; refine JJ 4 rfl ?_; refine Jn rfl rfl rfl (enters_of Tryz.func176 (by kernel_rfl) rfl) hPt ?_; refine Qu (cs := ((List.replicate 25 0).map iV).toArray) rfl rfl rfl rfl fun r4 => ?_; refine Jh (k := 0) (n := 25) (ys := tu.map iV) rfl rfl rfl rfl rfl (by rw [List.length_map, htul]) rfl (by simp [iV, Q3, List.all_map, List.all_eq_true]) rfl ?_; refine JJ 5 rfl ?_; refine Jn rfl rfl rfl (enters_of Tryz.func177 (by kernel_rfl) rfl) hPn ?_; refine JI 4 rfl ?_; refine Jy (σ := Nat) (fun i => i ≤ 24) (fun i => [(2, .pointer (some ⟨r2, 0, none⟩)), (3, .pointer (some ⟨r3, 0, none⟩)), (4, .pointer (some ⟨r4, 0, none⟩)), (9, .agg (nu.map uV).toArray), (10, .int .i64 (i : Int))]) (fun i => [(r4, .cells (tu.map iV).toArray 208 (0, 0)), (r3, kO (jz a i)), (r2, .cells (z25.map uV).toArray 147 (0, 0)), (r1, .cells (a.map uV).toArray 147 (0, 0))]) (fun _ _ _ => True) (fun i => 24 - i) 0 (Nat.zero_le _) (lK rfl) (List.Sublist.refl _) (fun _ _ h => h) ?_; intro i hi; refine JK 6 rfl ?_; refine cD (fun g => ?_) fun g => ?_
 refine Jq 6 rfl ?_; refine LR rfl (vO (j := i) rfl rfl rfl rfl rfl rfl (by omega) (Jm2 (Qj (by rw [hnul]; omega)))) ?_; refine JJ 5 rfl ?_; refine LR rfl (Jd (xs := tu.map iV) (n := 25) rfl (kn 0 rfl) rfl rfl (by rw [List.length_map, htul])) ?_; refine Jcg (k := 1) rfl rfl rfl (enters_of Tryz.func178 (by kernel_rfl) rfl) rfl (Juk (Yb ha i) (n := nu.getD i 0) (hnuk.get i) htul htub r3) rfl ?_; refine JJ 5 rfl ?_; refine Jc (by omega) (by omega) ?_; refine Jx 2 rfl ?_; refine Jv ?_; exact Jo (i + 1) (by omega) (by omega) (lK rfl) (by rw [show jz a (i + 1) = we tu (jz a i) (nu.getD i 0) from by rw [htu, hnu]; rfl]; exact List.Sublist.refl _) (fun _ _ h => h)
 ·refine JK 6 rfl ?_
  have hi24 : 24 = i := by omega
  subst hi24; refine Jq 1 rfl ?_; refine LR rfl (Jd (xs := (jz a 24).map uV) (n := 25) rfl (kn 1 rfl) rfl rfl (by rw [List.length_map, (Yb ha 24).1])) ?_; refine Jh (k := 2) (n := 25) (ys := (jz a 24).map uV) rfl rfl rfl rfl rfl (by rw [List.length_map, (Yb ha 24).1]) rfl (YM _) rfl ?_; refine Jx 3 rfl ?_; refine Jg rfl rfl (.cons (Jr (vs := (jz a 24).map uV) rfl (kn 2 rfl) rfl (by rw [List.length_map, (Yb ha 24).1]; rfl)) .nil) (fun w1 hs1 => ?_); exact ⟨rfl, hs1.keep⟩
theorem Jdt {l : List UInt8} {j : Nat} (h : j < l.length) : (l.map bV)[j]? = some (.int .u8 ((l.getD j 0).toNat : Nat)) := by
 simp [h, bV, List.getD_eq_getElem?_getD]
theorem J0e {n : Nat} (hn : n ≤ 1099511627776) : Pure Tryz.prog 107 [.int .i64 (n : Int)].toArray (.tuple #[.string (bs (vh n)), .int .i64 0]) := by
 refine Jl Tryz.func107 rfl rfl fun w => ?_; refine JD ?_
 obtain ⟨k, hk⟩ : ∃ k, k = 135 - n % 136 := ⟨_, rfl⟩
 have hn1 : n % 136 < 136 := Nat.mod_lt _ (by decide)
 obtain ⟨x, hx⟩ : ∃ x : UInt8, x = (1 :: List.replicate k 0 : List UInt8).getD k 0 := ⟨_, rfl⟩
 have hxl := x.toNat_lt
 have hpl : (1 :: List.replicate k 0 : List UInt8).set k (UInt8.ofNat (x.toNat ||| 128)) = vh n := by
  unfold vh
  cases k with
  | zero => rw [if_pos (by omega), hx]; rfl
  | succ k =>
   rw [if_neg (by omega), hx]
   have e1 : (1 :: List.replicate (k + 1) 0 : List UInt8).getD (k + 1) 0 = 0 := by simp [List.getD_eq_getElem?_getD]
   rw [e1, show 134 - n % 136 = k from by omega]; simp only [List.set_cons_succ]
   congr 1
   rw [List.replicate_succ', List.set_append_right _ _ (by simp), List.length_replicate, Nat.sub_self]; rfl
 refine JK 17 rfl ?_; refine cD (fun g => ?_) fun g => ?_
 refine Kh 8 rfl ?_; refine Jg rfl rfl (.cons (Jj rfl) (.cons (Jj rfl) .nil)) (fun w1 hs1 => ?_)
 first | (exact ⟨rfl, hs1.keep⟩) | (exfalso; omega)
 ·refine Jq 6 rfl ?_; refine J3 (show _ = Value.int .i64 ((n % 136 : Nat) : Int) from congrArg (Value.int .i64) (by rw [Int.tmod_eq_emod_of_nonneg (by omega)]; omega)) ?_; refine VQ rfl ?_; refine J3 (show _ = Value.int .i64 ((k + 1 : Nat) : Int) from congrArg (Value.int .i64) (by rw [wrap_i64 (by omega) (by omega)]; omega)) ?_; refine VA (n := k + 1) (b := 1) rfl rfl rfl rfl rfl rfl rfl rfl rfl (by omega) (by omega) fun r2 => ?_; refine JJ 6 rfl ?_; refine LR rfl (JF (j := 0) (m := 1) (off' := 0) rfl rfl rfl rfl rfl (by omega) rfl) ?_; refine Qn (k := 0) (off := 0) (xs := List.replicate (k + 1) (.int .u8 0)) (ys := (1 :: List.replicate k 0 : List UInt8).map bV) rfl rfl rfl rfl rfl rfl (by simp) (by rw [List.replicate_succ]; simp [bV]) rfl ?_; refine JJ 6 rfl ?_; refine LR rfl (Ka rfl rfl) ?_; refine VQ rfl ?_; refine J3 (show _ = Value.int .i64 ((k : Nat) : Int) from congrArg (Value.int .i64) (by rw [wrap_i64 (by omega) (by omega)]; omega)) ?_; refine LR rfl (JF (j := k) (m := 1) (off' := k) rfl rfl rfl rfl rfl (by omega) (by omega)) ?_; refine LR rfl (KH rfl (kn 0 rfl) rfl (Jdt (by simp))) ?_; rw [← hx]
  refine LR rfl (xI (op := .or) (b := ((x.toNat ||| 128 : Nat) : Int)) rfl rfl rfl hxl (by decide) rfl) ?_; refine J3 (show _ = bV (UInt8.ofNat (x.toNat ||| 128)) from Jb8 (Nat.or_lt_two_pow (n := 8) hxl (by decide))) ?_; refine LR rfl (JF (j := k) (m := 1) (off' := k) rfl rfl rfl rfl rfl (by omega) (by omega)) ?_; refine Qn (k := 0) (off := k) (xs := (1 :: List.replicate k 0 : List UInt8).map bV) (ys := (vh n).map bV) rfl rfl rfl rfl rfl rfl (by simp) (by rw [← hpl, List.map_set]) rfl ?_; refine JJ 5 rfl ?_; refine LR rfl (KS (b := vh n) (row := some (r2, k + 1, [])) (e := 5) (show _ = some (J8 (vh n).length (some (r2, k + 1, []))) from by rw [j0, show 136 - n % 136 = k + 1 from by omega]; rfl) ⟨by simp, by simp [j0]; omega⟩ (fun p hp => .inl (by rw [List.mem_singleton.1 hp]; simp)) rfl rfl rfl) ?_; refine Jx 5 rfl ?_; refine Jg rfl rfl (.cons (Jj rfl) (.cons (Jj rfl) .nil)) (fun w1 hs1 => ?_)
  first | (exact ⟨rfl, hs1.keep⟩) | (exfalso; omega)
def chL (rb n cap : Nat) (p : Nat × Nat) : Jm := [(p.2, .cells #[.int .i64 136] 3 (0, 0)), (p.1, .cells #[.slice (some ⟨rb, 0, none⟩) n cap] 66 (0, 0))]
theorem Jum (rb n cap : Nat) : PureE (α := Nat × Nat) Tryz.prog 108 [.slice (some ⟨rb, 0, none⟩) n cap, .int .i64 136].toArray (fun p => .func (.func 175) #[] #[.pointer (some ⟨p.1, 0, none⟩), .pointer (some ⟨p.2, 0, none⟩)]) (chL rb n cap) := by
 refine Kf Tryz.func108 rfl rfl fun w => ?_; refine JD ?_; refine Jq 2 rfl ?_; refine LN rfl fun r1 => ?_; refine LN rfl fun r2 => ?_; refine Goc 10 [0] rfl rfl ?_; refine J0 rfl (fun h4 => ?_) (fun h4 => ?_)
 exact absurd h4 (by decide)
 ·try simp only [ZZ] at h4
  refine Jq 4 rfl ?_; refine LR rfl (JN rfl rfl) ?_; refine Jx 4 rfl ?_; refine pT rfl rfl rfl fun w1 hs1 => ?_; exact ⟨(r1, r2), rfl, hs1⟩
def Jit (rb j : Nat) : List Value := [.slice (some ⟨rb, 136 * j, none⟩) 136 136]
theorem Jun {rb n cap N : Nat} (hn : n = 136 * N) (hcap : n ≤ cap) (hlim : n ≤ 2199023255552) (p1 p2 : Nat) : jk Tryz.prog 175 [.pointer (some ⟨p1, 0, none⟩), .pointer (some ⟨p2, 0, none⟩)] (chL rb n cap (p1, p2)) 0 (nxN (Jit rb) N) (yE N) := by
  refine Vf Tryz.func175 rfl rfl fun q xids w2 XI XF hY => ?_; refine JD ?_; refine JK 6 rfl ?_; refine Jy (σ := Nat) (fun i => i ≤ N) (fun i => [(0, .func (.yield q) #[] #[]), (1, .pointer (some ⟨p1, 0, none⟩)), (2, .pointer (some ⟨p2, 0, none⟩)), (4, .int .i64 ((136 * i : Nat) : Int))]) (fun _ => []) (fun i => XI i) (fun i => N - i) 0 (Nat.zero_le _) (lK rfl) (List.nil_sublist _) (fun _ _ h => h) ?_; intro i hi; refine Jq 4 rfl ?_; refine LR rfl (Je rfl (J5 (k := 1) rfl) rfl rfl) ?_; refine LR rfl (Ka rfl rfl) ?_; refine JI 3 rfl ?_; refine cD (fun g => ?_) fun g => ?_
  · refine JK 5 rfl ?_; refine JE 7 (by kernel_rfl) (by kernel_rfl) ?_; refine Ja rfl rfl rfl (Je rfl (J5 (k := 0) rfl) rfl rfl) ?_; refine Ja rfl rfl rfl (Je rfl (J5 (k := 1) rfl) rfl rfl) ?_; refine Ja rfl rfl rfl (Jf rfl) ?_; refine Ja rfl rfl rfl (JU (kl := some (136 * i)) (kh := none) (km := none) (sz := 1) (m := 136 * i) (q := n) (z := cap) rfl rfl rfl ⟨_, rfl⟩ trivial trivial rfl rfl rfl (by omega) hcap (Nat.le_refl _) (fun _ => rfl) rfl) ?_; refine Ja rfl rfl rfl (Ka rfl rfl) ?_; refine Ja rfl rfl rfl (Jnm (r := 136) rfl rfl (by rw [if_neg (by omega)])) ?_; refine Ja rfl rfl rfl (JC rfl) ?_; refine JS ?_; refine JJ 5 rfl ?_; refine LR rfl (Je rfl (J5 (k := 1) rfl) rfl rfl) ?_; refine LS 4 [] rfl rfl ?_; refine J3 (show _ = Value.int .i64 ((136 * i + 136 : Nat) : Int) from congrArg (Value.int .i64) (by rw [wrap_i64 (by omega) (by omega)]; omega)) ?_; refine LS 3 [] rfl rfl ?_; refine J3 (show _ = Value.int .i64 ((136 * i + 136 : Nat) : Int) from congrArg (Value.int .i64) (by rw [wrap_i64 (by omega) (by omega)]; omega)) ?_
    refine LR rfl (JU (kl := some (136 * i)) (kh := some (136 * i + 136)) (km := some (136 * i + 136)) (sz := 1) (m := 136 * i) (q := 136 * i + 136) (z := 136 * i + 136) (off' := 136 * i) rfl rfl rfl ⟨_, rfl⟩ ⟨_, rfl⟩ ⟨_, rfl⟩ rfl rfl rfl (by omega) (Nat.le_refl _) (by omega) (fun h => by cases h) (by rw [if_neg (by omega)]; omega)) ?_; refine J3 (show _ = Value.slice (some ⟨rb, 136 * i, none⟩) 136 136 from by congr 1 <;> omega) ?_; refine V2 (XT := XI (i + 1)) (XF := XF) rfl rfl rfl rfl (hY i (Jit rb i) (i + 1) ⟨by omega, rfl, rfl⟩) ?_ ?_
    all_goals (
     refine Jx 2 rfl (XN 1 rfl ?_); refine J0 rfl (fun g => ?_) (fun g => ?_)
     · try exact Bool.noConfusion g
       all_goals try simp only [ZZ] at g
       all_goals (
        refine Kh 5 rfl ?_; refine Jg rfl rfl .nil (fun w1 hs1 => ?_)
        obtain ⟨xs1, hx1⟩ := hs1.now
        exact ⟨⟨_, rfl⟩, hs1.keep, .inr ⟨_, hx1⟩⟩
        skip)
     · try exact Bool.noConfusion g
       all_goals try simp only [ZZ] at g
       all_goals (
        refine Jq 5 rfl ?_; refine LR rfl (Je rfl (J5 (k := 0) rfl) rfl rfl) ?_; refine VQ rfl ?_; refine J3 (show _ = Value.int .i64 ((136 * (i + 1) : Nat) : Int) from congrArg (Value.int .i64) (by rw [wrap_i64 (by omega) (by omega)]; omega)) ?_; refine Jx 2 rfl ?_; refine Jv ?_; exact Jo (i + 1) (by omega) (by omega) (lK rfl) (List.nil_sublist _) (fun _ _ h => h)
        skip)
     skip)
  · refine Kh 4 rfl ?_; refine Kv rfl rfl .nil (fun w1 hs1 => ?_)
    obtain ⟨xs1, hx1⟩ := hs1.now
    exact ⟨⟨_, rfl⟩, hs1.keep, .inl ⟨i, _, (by show i = N; omega), hx1⟩⟩
theorem Jpe {a : List Nat} {i : Nat} (h : i < 32) : ((j3 a i ++ List.replicate (32 - i) 0).map bV).set i (bV (UInt8.ofNat (a.getD (i / 8) 0 / 2 ^ (i % 8 * 8) % 256))) = (j3 a (i + 1) ++ List.replicate (32 - (i + 1)) 0).map bV := by
 rw [← List.map_set, List.set_append_right _ _ (by rw [Wz]; exact Nat.le_refl _), Wz, Nat.sub_self, show 32 - i = (32 - (i + 1)) + 1 from by omega, List.replicate_succ, List.set_cons_zero, j3, List.append_assoc]
 rfl
theorem Juo {t : List UInt8} {k j i : Nat} (h : 136 * j + i < t.length) : (t.map bV ++ List.replicate k (Value.int .u8 0))[136 * j + i]? = some (.int .u8 (((t.drop (136 * j)).getD i 0).toNat : Nat)) := by
 rw [List.getElem?_append_left (by rw [List.length_map]; exact h), Jdt h]
 simp [List.getD_eq_getElem?_getD]
theorem wC {s : List UInt8} (hs : s.length ≤ 1099511627776) : Pure Tryz.prog 50 [.string (bs s)].toArray (.string (bs (W8 s))) := by
 refine Jl Tryz.func50 rfl rfl fun w => ?_; refine JD ?_
 have hpl := j0 s.length
 obtain ⟨t, ht⟩ : ∃ t, t = s ++ vh s.length := ⟨_, rfl⟩
 obtain ⟨N, hN⟩ : ∃ N, N = t.length / 136 := ⟨_, rfl⟩
 have htl : t.length = 136 * N := by have := Jfm s; rw [← ht] at this; omega
 have hlim : t.length ≤ 2199023255552 := by rw [ht, List.length_append]; omega
 have hkec : W8 s = j3 (Jcs t N) 32 := by unfold W8; rw [← ht, ← hN]
 refine Jq 8 rfl ?_; refine LR rfl (KK rfl rfl) ?_; refine Jn rfl rfl rfl (enters_of Tryz.func107 (by kernel_rfl) rfl) (J0e hs) ?_; refine JJ 9 rfl ?_; refine Qu (cs := (z25.map uV).toArray) rfl rfl rfl rfl fun r1 => ?_; refine JJ 7 rfl ?_; refine LR rfl (QK rfl rfl (by omega)) ?_; rw [← ht]; refine XA rfl rfl rfl rfl rfl rfl fun rb kb => ?_; refine JZ rfl rfl rfl (enters_of Tryz.func108 (by kernel_rfl) rfl) (Jum rb t.length (t.length + kb)) fun pp => ?_
 obtain ⟨p1, p2⟩ := pp
 change HL _ _ _ [(p2, _), (p1, _), (rb, _), (r1, _)] _ _ _ _; refine JI 3 rfl ?_; refine QX [3, 0, 1, 2] (by decide) rfl ?_; refine Xd (τ := Unit) (fun j (s : List Nat) => s = Jcs t j ∧ j ≤ N) (fun s => [(r1, kO s)]) (fun _ _ => False) (fun _ => []) [(p2, _), (p1, _), (rb, _)] z25 rfl rfl (enters_of Tryz.func175 (by kernel_rfl) rfl) (Jun (rb := rb) (cap := t.length + kb) htl (by omega) hlim p1 p2) (by rintro _ _ _ ⟨_, rfl, _⟩; rfl) rfl (by simp [chL]) rfl ⟨rfl, Nat.zero_le _⟩ ?_ ?_ ?_
 rintro q Xr Xb w3 jj _ _ a ⟨hi, rfl, rfl⟩ ⟨hsa, -⟩ Kr hKr; refine inR ?_
 have hak : SOk 25 a := by rw [hsa]; exact xR t jj
 obtain ⟨u, hu⟩ : ∃ u, u = t.drop (136 * jj) := ⟨_, rfl⟩
 have habk := xQ u hak
 refine Kh 3 rfl ?_; refine hKr _ _ ?_; refine JD ?_; clear hKr; refine Jq 5 rfl ?_; refine LR rfl (Ka rfl rfl) ?_; refine JI 4 rfl ?_; refine Jy (σ := Nat) (fun i => i ≤ 136) (fun i => [(5, .pointer (some ⟨r1, 0, none⟩)), (23, .slice (some ⟨rb, 136 * jj, none⟩) 136 136), (24, .int .i64 136), (25, .int .i64 (i : Int))]) (fun i => [(r1, kO (abS a u i))]) (fun _ => Xb) (fun i => 136 - i) 0 (Nat.zero_le _) (lK rfl) (List.Sublist.refl _) (fun _ _ h => h) ?_; intro i hi; refine JK 6 rfl ?_; refine cD (fun g => ?_) fun g => ?_
 refine Jq 7 rfl ?_; refine LR rfl (JF (j := i) (m := 1) (off' := 136 * jj + i) rfl rfl rfl rfl rfl (by omega) (by omega)) ?_; refine LR rfl (KH rfl (J5 (k := 2) rfl) rfl (Juo (by omega))) ?_; rw [← hu]; refine JI 4 rfl ?_; refine JE 12 (by kernel_rfl) (by kernel_rfl) ?_; refine Ja rfl rfl rfl (Jf rfl) ?_; refine Ja rfl rfl rfl (J2 rfl rfl rfl) ?_; refine KR (show _ = Value.int .i64 ((i / 8 : Nat) : Int) from congrArg (Value.int .i64) (by rw [Va (by omega) (by omega) (by omega)]; omega)) ?_; refine Ja rfl rfl rfl (JP (j := i / 8) (m := 1) (off' := i / 8) rfl rfl rfl rfl (by omega) (by omega) (by omega)) ?_; refine Ja rfl rfl rfl (KH rfl (kn 0 rfl) rfl (Qj (by rw [(habk i).1]; omega))) ?_; refine Ja rfl rfl rfl (Jf rfl) ?_; refine Ja rfl rfl rfl (J2 rfl rfl rfl) ?_; refine KR (show _ = uV (u.getD i 0).toNat from congrArg (Value.int .u64) (wrap_u64 (z := ((u.getD i 0).toNat : Int)) (by omega) (by have := YL (u.getD i 0); omega))) ?_; refine Ja rfl rfl rfl (Jf rfl) ?_; refine Ja rfl rfl rfl (J2 rfl rfl rfl) ?_; refine KR (show _ = Value.int .i64 ((i % 8 : Nat) : Int) from congrArg (Value.int .i64) (by rw [Int.tmod_eq_emod_of_nonneg (by omega)]; omega)) ?_; refine Ja rfl rfl rfl (J2 rfl rfl rfl) ?_; refine KR (show _ = Value.int .i64 ((i % 8 * 8 : Nat) : Int) from congrArg (Value.int .i64) (by rw [wrap_i64 (by omega) (by omega)]; omega)) ?_; refine Ja rfl rfl rfl (Jhd (n := i % 8 * 8) rfl rfl rfl (show _ ≤ 64 from by omega) (Js8 (Jnd (YL _) (by omega)))) ?_; refine Ja rfl rfl rfl (VT (op := .xor) (b := (((abS a u i).getD (i / 8) 0 ^^^ (u.getD i 0).toNat * 2 ^ (i % 8 * 8) : Nat) : Int)) rfl rfl rfl ((habk i).get _) (Jnd (YL _) (by omega)) rfl) ?_; refine Ja rfl rfl rfl (JP (j := i / 8) (m := 1) (off' := i / 8) rfl rfl rfl rfl (by omega) (by omega) (by omega)) ?_; refine JS ?_; refine Qn (k := 0) (off := i / 8) (xs := (abS a u i).map uV) (ys := (abS a u (i + 1)).map uV) rfl rfl rfl rfl rfl rfl (by rw [List.length_map, (habk i).1]; omega) (Xg rfl) rfl ?_; refine JJ 5 rfl ?_; refine Jc (by omega) (by omega) ?_; refine Jx 2 rfl ?_; refine Jv ?_; exact Jo (i + 1) (by omega) (by omega) (lK rfl) (List.Sublist.refl _) (fun _ _ h => h)
 refine JK 5 rfl ?_
 have hi136 : 136 = i := by omega
 subst hi136; refine Jq 1 rfl ?_; refine LR rfl (Jd (xs := (abS a u 136).map uV) (n := 25) rfl (kn 0 rfl) rfl rfl (by rw [List.length_map, (habk 136).1])) ?_; refine Jn rfl rfl rfl (enters_of Tryz.func109 (by kernel_rfl) rfl) (Jld (habk 136)) ?_; refine Jh (k := 0) (n := 25) (ys := (zk (abS a u 136)).map uV) rfl rfl rfl rfl rfl (by rw [List.length_map, (Jcr (habk 136)).1]) (by rw [List.size_toArray, List.length_map, (habk 136).1]) (YM _) rfl ?_; refine Jx 2 rfl ?_; refine KD (Jcs t (jj + 1)) ⟨rfl, by omega⟩ ?_; rw [show Jcs t (jj + 1) = zk (abS a u 136) from by rw [hu, hsa]; rfl]; rfl
 rintro D jj a hfi ⟨hsa, -⟩
 have hjN : jj = N := hfi
 have hak : SOk 25 a := by rw [hsa]; exact xR t jj
 have hkec2 : W8 s = j3 a 32 := by rw [hkec, hsa, hjN]
 refine gqo 4 rfl ?_; refine VA (n := 32) (b := 1) rfl rfl rfl rfl rfl rfl rfl rfl rfl (by decide) (by decide) fun r2 => ?_; refine JJ 7 rfl ?_; refine LR rfl (Ka rfl rfl) ?_; refine JI 4 rfl ?_; refine Jy (σ := Nat) (fun i => i ≤ 32) (fun i => [(5, .pointer (some ⟨r1, 0, none⟩)), (9, .slice (some ⟨r2, 0, none⟩) 32 32), (47, .int .i64 32), (48, .int .i64 (i : Int))]) (fun i => [(r2, .cells ((j3 a i ++ List.replicate (32 - i) 0).map bV).toArray 5 (0, 0)), (D, .deferred (some [])), (r1, kO a)]) (fun _ _ _ => True) (fun i => 32 - i) 0 (Nat.zero_le _) (lK rfl) (.cons_cons _ (.cons_cons _ (.cons_cons _ (List.nil_sublist _)))) (fun _ _ h => h) ?_; intro i hi; refine JK 6 rfl ?_; refine cD (fun g => ?_) fun g => ?_
 refine Jq 15 rfl ?_; refine J3 (show _ = Value.int .i64 ((i / 8 : Nat) : Int) from congrArg (Value.int .i64) (by rw [Va (by omega) (by omega) (by omega)]; omega)) ?_; refine LR rfl (JP (j := i / 8) (m := 1) (off' := i / 8) rfl rfl rfl rfl (by omega) (by omega) (by omega)) ?_; refine LR rfl (KH rfl (kn 2 rfl) rfl (Qj (by rw [hak.1]; omega))) ?_; refine LS 2 [] rfl rfl ?_; refine J3 (show _ = Value.int .i64 ((i % 8 : Nat) : Int) from congrArg (Value.int .i64) (by rw [Int.tmod_eq_emod_of_nonneg (by omega)]; omega)) ?_; refine VQ rfl ?_; refine J3 (show _ = Value.int .i64 ((i % 8 * 8 : Nat) : Int) from congrArg (Value.int .i64) (by rw [wrap_i64 (by omega) (by omega)]; omega)) ?_; refine LR rfl (qE (n := i % 8 * 8) rfl rfl rfl (show _ ≤ 64 from by omega) (by omega) (jq _ _)) ?_; refine VQ rfl (J3 (show _ = bV (UInt8.ofNat (a.getD (i / 8) 0 / 2 ^ (i % 8 * 8) % 256)) from vY _) (LR rfl (JF (j := i) (m := 1) (off' := i) rfl rfl rfl rfl rfl (by omega) (by omega)) ?_)); refine Qn (k := 0) (off := i) (xs := (j3 a i ++ List.replicate (32 - i) 0).map bV) (ys := (j3 a (i + 1) ++ List.replicate (32 - (i + 1)) 0).map bV) rfl rfl rfl rfl rfl rfl (by simp [Wz]; omega) (Jpe (by omega)) rfl ?_; refine JJ 5 rfl ?_; refine Jc (by omega) (by omega) ?_; refine Jx 2 rfl ?_; refine Jv ?_; exact Jo (i + 1) (by omega) (by omega) (lK rfl) (List.Sublist.refl _) (fun _ _ h => h)
 refine JK 6 rfl ?_
 have hi32 : 32 = i := by omega
 subst hi32; refine Jq 2 rfl ?_; refine LR rfl (KS (b := j3 a 32) (row := some (r2, 32, [])) (e := 5) (show _ = some (J8 (j3 a 32).length (some (r2, 32, []))) from by rw [Wz]; rfl) ⟨by simp [Wz], by simp [Wz]⟩ (fun p hp => .inl (by rw [List.mem_singleton.1 hp]; simp)) rfl rfl rfl) ?_; refine Jx 4 rfl ?_; refine KX (k := 1) rfl rfl ?_; refine pT rfl rfl rfl fun w1 hs1 => ?_; exact ⟨by rw [hkec2]; rfl, hs1.keep⟩
 ·exact fun _ _ _ h => h.elim
def tXY : Nat → Nat × Nat
 | 0 => (1, 0)
 | t + 1 => ((tXY t).2, (2 * (tXY t).1 + 3 * (tXY t).2) % 5)
def tX (t : Nat) : Nat := (tXY t).1
def tY (t : Nat) : Nat := (tXY t).2
def tS (a : List Nat) : Nat → List Nat
 | 0 => a
 | t + 1 => (tS a t).set (tX t + 5 * tY t) (Jcn ((tS a t).getD (tX t + 5 * tY t) 0) ((t + 1) * (t + 2) / 2))
abbrev XS (r : Nat) : Value := .pointer (some ⟨r, 0, none⟩)
def Wq (l : List BS) : List Value := l.map J1
theorem Jup (l : List BS) : (Wq l).length = l.length := by unfold Wq; rw [List.length_map]
theorem Jaq {l : List BS} {i : Nat} {s : BS} (h : l[i]? = some s) : (Wq l)[i]? = some (J1 s) := by unfold Wq; rw [List.getElem?_map, h]; rfl
theorem Juq (l : List BS) : (Wq l).all Q3 = true := by
 rw [List.all_eq_true]; intro x hx
 obtain ⟨b, _, rfl⟩ := List.mem_map.1 hx
 rfl
theorem Jgb (n : Nat) (row : QD) : (J8 n row).cells = #[J8 n row] := by cases row <;> rfl
theorem Jle (n : Nat) (row : QD) : Q3 (J8 n row) = true := by cases row <;> rfl
theorem Jgc {s : BS} (h : s.length ≤ 32) : Pure Tryz.prog 222 [J1 s].toArray (J1 (yH s)) := by
 unfold yH
 refine Jl Tryz.func222 rfl rfl fun w => ?_; refine JD ?_; refine Jq 9 rfl ?_; refine LR rfl (KK rfl rfl) ?_
 refine VQ rfl ?_; refine J3 (show _ = Value.int .i64 ((32 - s.length : Nat) : Int) from by rw [wrap_i64 (by omega) (by omega)]; congr 1 <;> omega) ?_; refine Jn rfl rfl rfl (enters_of Tryz.func189 (by kernel_rfl) rfl) (zw (n := 32 - s.length) (by omega)) ?_; rw [wy]; refine LR rfl (QK (a := s) (b := List.replicate (32 - s.length) 0) rfl rfl (by rw [List.length_replicate]; omega)) ?_; refine Jx 4 rfl ?_; refine pT rfl rfl rfl fun w1 hs1 => ?_; exact ⟨rfl, hs1.keep⟩
theorem Jpf {R : Jm} {l : List BS} {p : Pl} (hl : l.length ≤ 100000) (hs : Seg R l.length (Wq l) p) :
  PureT (α := { row : QD // rowOk 1 l.length (Wq l) row }) Tryz.prog 223 [KB l.length p].toArray (fun x => J8 l.length x.1) [] (fun x => JH 9 (Wq l) x.1) R := by
 cases p with
 | none =>
  have h0 : l = [] := List.length_eq_zero_iff.1 hs
  subst h0; refine Jw Tryz.func223 rfl rfl fun w => ?_; refine JD ?_; refine JK 12 rfl ?_; refine cD (fun g => ?_) fun g => ?_
  refine Kh 7 rfl ?_; refine pT rfl rfl rfl fun w1 hs1 => ?_; exact ⟨⟨none, rfl, rfl⟩, rfl, hs1⟩
  try exact Bool.noConfusion g
 | some q =>
  refine Jw Tryz.func223 rfl rfl fun w => ?_; refine JD ?_; refine JK 12 rfl ?_; refine J0 rfl (fun g => ?_) (fun g => ?_)
  try exact Bool.noConfusion g
  ·refine Jq 4 rfl ?_; refine Xn rfl rfl rfl rfl fun r1 => ?_; refine Q1 rfl (wm (k := 0) (b := 16) (sz := 1) rfl rfl rfl rfl rfl rfl hs oR rfl rfl rfl rfl rfl (by decide) (by rw [Jup, Nat.mul_one]) (Juq l) (by omega) (by omega) fun row hrow => (Jx 4 rfl ?_)); refine pT rfl rfl rfl fun w1 hs1 => ?_; exact ⟨⟨row, hrow⟩, rfl, hs1.weakL (List.sublist_append_left _ _)⟩
theorem Jdu (n : Nat) (row : QD) : PureE (α := Nat) Tryz.prog 224 [J8 n row].toArray (fun r => .func (.func 306) #[] #[XS r]) (fun r => [(r, .cells #[J8 n row] 184 (0, 0))]) := by
 refine Kf Tryz.func224 rfl rfl fun w => ?_; refine JD ?_; refine Jq 2 rfl ?_; refine JR (cs := #[J8 n row]) rfl rfl rfl (Jgb n row) fun r1 => ?_; refine JJ 5 rfl ?_; refine LR rfl (JN rfl rfl) ?_; refine Jx 4 rfl ?_; refine pT rfl rfl rfl fun w1 hs1 => ?_; exact ⟨r1, rfl, hs1⟩
def Jwz (l : List BS) : Nat → List Value → Jm → Nat → Prop := fun i v B i' => 2 * i + 1 < l.length ∧ i' = i + 1 ∧ v = [J1 (l.getD (2 * i) []), J1 (l.getD (2 * i + 1) [])] ∧ B = []
theorem zz {l : List BS} : ∀ i v B i', Jwz l i v B i' → v.length = 2 := by rintro _ _ _ _ ⟨_, _, rfl, _⟩; rfl
theorem wD {l : List BS} {i : Nat} (h : i < l.length) : l[i]? = some (l.getD i []) := by rw [List.getD_eq_getElem?_getD, List.getElem?_eq_getElem h]; rfl
theorem Jdv {l : List BS} {row : QD} (hl : l.length ≤ 1000000) (hrow : rowOk 1 l.length (Wq l) row) (r : Nat) :
    Jha Tryz.prog 306 [XS r] ((r, .cells #[J8 l.length row] 184 (0, 0)) :: JH 9 (Wq l) row) 0 (Jwz l) (fun i => ¬ 2 * i + 1 < l.length) := by
  have hs : Seg ((r, .cells #[KB l.length (Qo row)] 184 (0, 0)) :: JH 9 (Wq l) row) l.length (Wq l) (Qo row) := (Km hrow (by decide)).mono fun q hq => List.mem_cons_of_mem _ hq
  rw [← QZ _ _ hrow.zero]; refine qN Tryz.func306 rfl rfl fun q xids w2 XI XF hY => ?_; refine JD ?_; refine JK 6 rfl ?_; refine Jy (σ := Nat) (fun i => 2 * i ≤ l.length + 1) (fun i => [(0, .func (.yield q) #[] #[]), (1, XS r), (3, .int .i64 ((2 * i : Nat) : Int))]) (fun _ => []) (fun i => XI i) (fun i => l.length + 1 - 2 * i) 0 (by omega) (lK rfl) (List.Sublist.refl _) (fun _ _ h => h) ?_; intro i hi1; refine Jq 5 rfl ?_; refine J3 (show _ = Value.int .i64 ((2 * i + 1 : Nat) : Int) from by rw [wrap_i64 (by omega) (by omega)]; congr 1 <;> omega) ?_; refine LR rfl (Je rfl (J5 (k := 0) rfl) rfl rfl) ?_; refine LR rfl (Jz rfl hs rfl) ?_; refine JI 3 rfl ?_; refine cD (fun g => ?_) fun g => ?_
  · refine JK 5 rfl ?_; refine JE 10 (by kernel_rfl) (by kernel_rfl) ?_; refine Ja rfl rfl rfl (Jf rfl) ?_; refine Ja rfl rfl rfl (Je rfl (J5 (k := 0) rfl) rfl rfl) ?_; refine Ja rfl rfl rfl (Jf rfl) ?_
    refine Ja rfl rfl rfl (Jk (j := (2 * i)) rfl hs rfl rfl rfl (by first | rfl | omega) (by omega)) ?_; refine Ja rfl rfl rfl (QL oR rfl hs (by omega) rfl (Jaq (wD (i := 2 * i) (by omega)))) ?_; refine Ja rfl rfl rfl (Je rfl (J5 (k := 0) rfl) rfl rfl) ?_; refine Ja rfl rfl rfl (Jf rfl) ?_
    refine Ja rfl rfl rfl (J2 rfl rfl rfl) ?_; refine KR (show _ = Value.int .i64 ((2 * i + 1 : Nat) : Int) from by rw [wrap_i64 (by omega) (by omega)]; congr 1 <;> omega) ?_
    refine Ja rfl rfl rfl (Jk (j := (2 * i + 1)) rfl hs rfl rfl rfl (by first | rfl | omega) (by omega)) ?_; refine Ja rfl rfl rfl (QL oR rfl hs (by omega) rfl (Jaq (wD (i := 2 * i + 1) (by omega)))) ?_; refine JS ?_; refine jU (B := []) (XT := XI (i + 1)) (XF := XF) rfl rfl rfl rfl (hY i [J1 (l.getD (2 * i) []), J1 (l.getD (2 * i + 1) [])] [] (i + 1) ⟨by omega, rfl, rfl, rfl⟩) oN ?_ ?_
    all_goals (
     refine Jx 2 rfl (XN 1 rfl ?_); refine J0 rfl (fun g => ?_) (fun g => ?_)
     · try exact Bool.noConfusion g
       all_goals try simp only [ZZ] at g
       all_goals (
        refine Kh 5 rfl ?_; refine Jg rfl rfl .nil (fun w1 hs1 => ?_)
        obtain ⟨xs1, hx1⟩ := hs1.now
        exact ⟨⟨_, rfl⟩, hs1.keep, .inr ⟨_, hx1⟩⟩
        skip)
     · try exact Bool.noConfusion g
       all_goals try simp only [ZZ] at g
       all_goals (
        refine Jq 6 rfl ?_; refine J3 (show _ = Value.int .i64 ((2 * (i + 1) : Nat) : Int) from by rw [wrap_i64 (by omega) (by omega)]; congr 1 <;> omega) ?_; refine Jx 2 rfl ?_; refine Jv ?_; exact Jo (i + 1) (by omega) (by omega) (lK rfl) (List.Sublist.refl _) (fun _ _ h => h)
        skip)
     skip)
  · refine Kh 4 rfl ?_; refine Kv rfl rfl .nil (fun w1 hs1 => ?_)
    obtain ⟨xs1, hx1⟩ := hs1.now
    exact ⟨⟨_, rfl⟩, hs1.keep, .inl ⟨i, _, by omega, hx1⟩⟩
theorem Jpg {k m : Nat} : 2 ^ k < m ↔ k < lg m := by
 constructor
 ·intro h
  rcases Nat.lt_or_ge k (lg m) with h1 | h1
  ·exact h1
  ·have h2 := Jh5 m
   have h3 : 2 ^ lg m ≤ 2 ^ k := Nat.pow_le_pow_right (by decide) h1
   omega
 ·exact Jwv
theorem zA (l : List BS) : ∀ {i : Nat}, 2 * i + 1 < l.length → (SL.pairUp l).take (i + 1) = (SL.pairUp l).take i ++ [W8 (l.getD (2 * i) [] ++ l.getD (2 * i + 1) [])] := by
 induction l using SL.pairUp.induct with
 | case1 a b l ih =>
  intro i hi
  cases i with
  | zero => rw [SL.pairUp]; rfl
  | succ i =>
   rw [SL.pairUp, List.take_succ_cons, List.take_succ_cons, ih (by simp only [List.length_cons] at hi; omega), show 2 * (i + 1) = 2 * i + 1 + 1 by omega, show 2 * i + 1 + 1 + 1 = 2 * i + 1 + 1 + 1 by rfl]
   rfl
 | case2 l h =>
  intro i hi
  match l, h with
  | [], _ => simp at hi
  | [a], _ => simp at hi
  | a :: b :: l, h => exact absurd rfl (h a b l)
theorem qU (l : List BS) (z : BS) : (Qp l z).length % 2 = 0 := by rw [Xp]; omega
theorem wE {l : List BS} {z : BS} (h : ∀ x ∈ l, x.length = 32) (hz : z.length = 32) : ∀ x ∈ Qp l z, x.length = 32 := by
 intro x hx
 unfold Qp at hx
 split at hx
 ·rcases List.mem_append.1 hx with hx | hx
  ·exact h x hx
  ·rw [List.mem_singleton.1 hx]; exact hz
 ·exact h x hx
theorem jH {l : List BS} (h : ∀ x ∈ l, x.length = 32) {i : Nat} (hi : i < l.length) : (l.getD i []).length = 32 := h _ (List.mem_of_getElem? (wD hi))
theorem Jdw {n : Nat} (h : n ≤ 65536) : IntKind.i64.wrap ((n : Int) * 2) = ((n * 2 : Nat) : Int) := by
 rw [wrap_i64 (by omega) (by omega)]; omega
structure TreeI (l0 : List BS) (m : Nat) (k : Nat) (ls : List BS) (row : QD) (z : BS) : Prop where
  le : k ≤ lg m
  ok : rowOk 1 ls.length (Wq ls) row
  eq : V7 (lg m - k) ls z = Vj l0 m
  len : ls.length ≤ 2 ^ (lg m - k)
  mem : ∀ x ∈ ls, x.length = 32
  zl : z.length = 32
set_option maxHeartbeats 1000000 in
theorem vG {R : Jm} {l : List BS} {p : Pl} {m : Nat} (hl : l.length ≤ m) (hm2 : m ≤ 65536) (hs : Seg R l.length (Wq l) p) (h32 : ∀ s ∈ l, s.length = 32) :
  PureR Tryz.prog 168 [KB l.length p, .int .i64 (m : Int)].toArray (J1 (Vj l m)) R := by
 have hlg : lg m ≤ 16 := Jz7 (by simpa using hm2)
 have h0 := jC hl
 refine Jb Tryz.func168 rfl rfl fun w => ?_; refine JD ?_; refine Jq 8 rfl ?_; refine Ke rfl rfl rfl (enters_of Tryz.func223 (by kernel_rfl) rfl) (Jpf (by omega) hs) oR fun x => ?_
 obtain ⟨row, hrow⟩ := x
 refine Kk (List.perm_append_comm (l₂ := [])) ?_; change HL _ _ ((11, J8 l.length row) :: _) (JH 9 (Wq l) row) _ _ _ _; refine JJ 5 rfl ?_; refine Jn rfl rfl rfl Jor (Jgc (s := []) (by decide)) ?_; refine J3 (show _ = J1 z32 from rfl) ?_; refine JI 10 rfl ?_; refine Jof (σ := Nat × List BS × QD × BS × List Nat) (fun q => q.2.2.2.2.map Wc ++ []) (fun q => TreeI l m q.1 q.2.1 q.2.2.1 q.2.2.2.1) (fun q => [(0, J8 q.2.1.length q.2.2.1), (1, .int .i64 (m : Int)), (5, J1 q.2.2.2.1), (6, .int .i64 ((2 ^ q.1 : Nat) : Int))]) (fun q => WB q.2.2.2.2 ++ JH 9 (Wq q.2.1) q.2.2.1) (fun _ _ _ => True) (fun q => lg m - q.1) (0, l, row, z32, []) rfl ⟨Nat.zero_le _, hrow, h0, Nat.le_trans hl (Jh5 m), h32, rfl⟩ (lK rfl) (List.Sublist.refl _) (fun _ _ h => h) ?_; rintro ⟨k, ls, row, z, Ds⟩ hi; refine inK ?_; simp only at hi; change HC _ (Ds.map Wc ++ []) [(0, J8 ls.length row), (1, _), (5, J1 z), (6, .int .i64 ((2 ^ k : Nat) : Int))] (WB Ds ++ JH _ (Wq ls) row) _ _ _; refine JK 8 rfl ?_; refine cD (fun g => ?_) fun g => ?_
 ·refine JK 6 rfl ?_
  have hk : k < lg m := Jpg.1 (by omega)
  obtain ⟨K, hK⟩ : ∃ K, lg m - k = K + 1 := ⟨lg m - k - 1, by omega⟩
  have heq := hi.eq
  have hlen := hi.len
  rw [hK, V7] at heq; rw [hK, Nat.pow_succ] at hlen
  have hK16 : 2 ^ K ≤ 65536 := by have := Nat.pow_le_pow_right (n := 2) (i := K) (j := 16) (by decide) (by omega); simpa using this
  have hzl := hi.zl
  have hk16 : 2 ^ k ≤ 65536 := by have := Nat.pow_le_pow_right (n := 2) (i := k) (j := 16) (by decide) (by omega); simpa using this
  refine Jq 2 rfl ?_; refine LR rfl (Wt rfl hi.ok.zero rfl) ?_; refine VQ rfl (J3 (show _ = Value.int .i64 ((ls.length % 2 : Nat) : Int) from congrArg (Value.int .i64) (Wm _ 2)) (JI 3 rfl ?_)); refine cD (fun g => ?_) fun g => ?_
  ·refine Jq 3 rfl ?_; refine J4 (vs := [_]) (zs := [_]) (r := [_]) rfl rfl rfl rfl rfl rfl rfl rfl rfl (by show (madeCells #[_] _).toList = _; rw [QJ]; exact rfl) rfl fun r1 => ?_; refine JM (L0 := _ :: WB Ds) (xs := Wq ls) (row := row) (n := ls.length) (sz := 1) (b := 16) (news := [_]) (List.perm_append_comm (l₁ := _ :: WB Ds)) rfl rfl rfl rfl (kn 0 rfl) rfl rfl rfl rfl rfl (by decide) rfl rfl rfl (by decide) hi.ok (by omega) (by omega) fun ra cap sp hra => ?_; refine JI 4 rfl ?_
   (have e : Qp ls z = ls ++ [z] := by unfold Qp; rw [if_pos (by omega)]
    refine vC (List.perm_append_comm (l₁ := [_])) ?_; refine vD (L' := WB Ds ++ JH 9 (Wq ls ++ [J1 z]) (some (ra, cap, sp))) (.cons _ (List.Sublist.refl _)) ?_; change HC _ _ ((0, J8 (ls.length + 1) (some (ra, cap, sp))) :: _) _ _ _ _
    generalize hn2 : ls.length + 1 = n2 at hra ⊢
    generalize hc2 : Wq ls ++ [J1 z] = xs2 at hra ⊢
    generalize (some (ra, cap, sp) : QD) = row2 at hra ⊢
    obtain rfl : n2 = (Qp ls z).length := by rw [e, ← hn2, List.length_append]; rfl
    obtain rfl : xs2 = Wq (Qp ls z) := by rw [e, ← hc2]; unfold Wq; rw [List.map_append]; rfl)
   have hm2e := wE hi.mem hi.zl
   have hev := qU ls z
   have hl2 := Xp ls z
   obtain ⟨ls2, hls2⟩ : ∃ x, x = Qp ls z := ⟨_, rfl⟩
   rw [← hls2] at hm2e hev hl2 hra heq ⊢
   have hl2b : ls2.length ≤ 2 ^ K * 2 := by omega
   refine Jq 1 rfl ?_; refine LN rfl fun r1 => ?_; refine JJ 6 rfl ?_; refine JZ rfl rfl rfl (enters_of Tryz.func224 (by kernel_rfl) rfl) (Jdu ls2.length row2) fun rb => ?_; refine Kk ((List.Perm.swap _ _ _).trans (List.Perm.cons _ List.perm_middle.symm)) ?_; change HL _ _ _ ((r1, .cells #[.slice none 0 0] 184 (0, 0)) :: (WB Ds ++ ((rb, .cells #[J8 ls2.length row2] 184 (0, 0)) :: JH 9 (Wq ls2) row2))) _ _ _ _; refine JI 3 rfl ?_; refine XY (τ := Unit) (fun i (s : Nat × List Value × QD) => 2 * i ≤ ls2.length ∧ s.1 = i ∧ s.2.1 = Wq ((SL.pairUp ls2).take i) ∧ rowOk 1 i s.2.1 s.2.2) (fun s => (r1, .cells #[J8 s.1 s.2.2] 184 (0, 0)) :: JH 9 s.2.1 s.2.2) (fun _ _ => False) (fun _ => []) (WB Ds ++ ((rb, .cells #[J8 ls2.length row2] 184 (0, 0)) :: JH 9 (Wq ls2) row2)) (0, [], none) rfl rfl (enters_of Tryz.func306 (by kernel_rfl) rfl) (Jdv (by omega) hra rb) zz rfl (fun q hq => .inl (List.mem_append_right _ hq)) rfl ⟨Nat.zero_le _, rfl, rfl, rfl, rfl⟩ ?_ ?_ ?_
   rintro q Xr Xb w3 i _ _ _ ⟨n, xs, row3⟩ ⟨hii, rfl, rfl, rfl⟩ ⟨h2i, hn, hxs, hr3⟩ Kr hKr; refine inR ?_
   simp only at hn hxs hr3; rw [← hn] at hr3; refine Kh 8 rfl ?_; refine hKr _ _ ?_; refine JD ?_; clear hKr; refine JK 1 rfl ?_
   have hg1 := jH hm2e (i := 2 * i) (by omega)
   have hg2 := jH hm2e (i := 2 * i + 1) (by omega)
   have hkc := wC (s := ls2.getD (2 * i) [] ++ ls2.getD (2 * i + 1) []) (by rw [List.length_append]; omega)
   obtain ⟨sv, hsv⟩ : ∃ x, x = W8 (ls2.getD (2 * i) [] ++ ls2.getD (2 * i + 1) []) := ⟨_, rfl⟩
   rw [← hsv] at hkc; refine jo [(r1, .cells #[J8 n row3] 184 (0, 0))] [(0, .pure), (1, .pure), (2, .pure), (3, .pure), (4, .pure), (5, .act (yY (slV 1) (.cells #[J1 sv] 9 (0, 0))))] 6 (by kernel_rfl) (by kernel_rfl) (fun p hp => List.mem_singleton.1 hp ▸ List.mem_cons_self) ?_; refine YC rfl rfl rfl rfl (fun _ hS => (Je rfl (.inl (hS _ (Ju (n := 0) rfl))) rfl rfl)) ?_; refine YC rfl rfl rfl rfl (fun _ hS => (Jf rfl)) ?_; refine YC rfl rfl rfl rfl (fun _ hS => (Jf rfl)) ?_; refine YC rfl rfl rfl rfl (fun _ hS => (QK (a := ls2.getD (2 * i) []) (b := ls2.getD (2 * i + 1) []) rfl rfl (by omega))) ?_; refine Jcb rfl rfl rfl rfl Jf4 hkc ?_; refine Wl (n := 1) (sz := 1) (vs := [_]) (zs := [_]) (r := [J1 sv]) rfl rfl rfl rfl rfl rfl rfl rfl rfl rfl (by show (madeCells #[_] _).toList = _; rw [QJ]; exact rfl) rfl (fun p hp => List.mem_singleton.1 hp ▸ List.mem_cons_self) fun rv => ?_; refine xA ?_; refine JM (L0 := [_, _]) (xs := xs) (row := row3) (n := n) (sz := 1) (b := 16) (news := [J1 sv]) (List.perm_append_comm (l₁ := [_, _])) rfl rfl rfl rfl (kn 0 rfl) rfl rfl rfl rfl rfl (by decide) rfl rfl rfl (by decide) hr3 (by omega) (by omega) fun ra cap sp hra => ?_; refine Kn (k := 2) (cs' := #[J8 (n + 1) (some (ra, cap, sp))]) rfl rfl rfl rfl rfl rfl rfl rfl rfl rfl ?_; refine Jx 2 rfl ?_; refine Qi [2, 0] (L' := [_, _]) (by decide) rfl ?_; exact KD (n + 1, xs ++ [J1 sv], some (ra, cap, sp)) ⟨by omega, by simp only; omega, by simp only; rw [zA ls2 hii, ← hsv, hxs]; unfold Wq; rw [List.map_append]; rfl, by rw [← hn]; exact hra⟩ rfl
   rintro D i ⟨n, xs, row3⟩ hfi ⟨h2i, hn, hxs, hr3⟩
   simp only at hn hxs hr3
   have hi2 : 2 * i = ls2.length := by omega
   have hpl := Wh ls2
   rw [List.take_of_length_le (by omega)] at hxs
   obtain rfl : n = (SL.pairUp ls2).length := by omega
   subst hxs; rw [← hn] at hr3; refine XN 2 rfl ?_
   have hkz := wC (s := z ++ z) (by rw [List.length_append]; omega)
   obtain ⟨z2, hz2⟩ : ∃ x, x = W8 (z ++ z) := ⟨_, rfl⟩
   rw [← hz2] at hkz heq; refine JE 7 (by kernel_rfl) (by kernel_rfl) ?_; refine Ja rfl rfl rfl (Je (v := J8 (SL.pairUp ls2).length row3) rfl (kn 1 rfl) rfl rfl) ?_; refine Ja rfl rfl rfl (Jf rfl) ?_; refine Ja rfl rfl rfl (Jf rfl) ?_; refine Ja rfl rfl rfl (QK (a := z) (b := z) rfl rfl (by omega)) ?_; refine Ky rfl rfl rfl Jf4 hkz ?_; refine Ja rfl rfl rfl (JC rfl) ?_; refine Ja rfl rfl rfl (JC rfl) ?_; refine JS ?_; refine JJ 6 rfl ?_; refine J3 (show _ = Value.int .i64 ((2 ^ (k + 1) : Nat) : Int) from congrArg (Value.int .i64) ((Jdw hk16).trans (by rw [Nat.pow_succ]))) ?_; refine Jx 2 rfl ?_; refine Jv ?_; refine xt (List.Perm.cons _ (Qz (_ :: JH 9 (Wq (SL.pairUp ls2)) row3) (WB Ds) _)) ?_; exact zu (k + 1, SL.pairUp ls2, row3, z2, D :: Ds) rfl ⟨hk, hr3, by rw [show lg m - (k + 1) = K by omega]; exact heq, by rw [show lg m - (k + 1) = K by omega]; simp only; omega, ZM ls2, by rw [hz2]; exact Zl _⟩ (by simp only; omega) (lK rfl) (.cons_cons _ ((List.Sublist.refl _).append (.cons _ (List.sublist_append_left _ _)))) (fun _ _ h => h)
   exact fun _ _ _ h => h.elim
  ·refine JK 3 rfl ?_
   (have e : Qp ls z = ls := by unfold Qp; rw [if_neg (by omega)]
    have hra := hi.ok
    generalize row = row2 at hra ⊢
    generalize hn2 : ls.length = n2 at hra ⊢
    generalize hc2 : Wq ls = xs2 at hra ⊢
    obtain rfl : n2 = (Qp ls z).length := by rw [e, ← hn2]
    obtain rfl : xs2 = Wq (Qp ls z) := by rw [e, ← hc2])
   have hm2e := wE hi.mem hi.zl
   have hev := qU ls z
   have hl2 := Xp ls z
   obtain ⟨ls2, hls2⟩ : ∃ x, x = Qp ls z := ⟨_, rfl⟩
   rw [← hls2] at hm2e hev hl2 hra heq ⊢
   have hl2b : ls2.length ≤ 2 ^ K * 2 := by omega
   refine Jq 1 rfl ?_; refine LN rfl fun r1 => ?_; refine JJ 6 rfl ?_; refine JZ rfl rfl rfl (enters_of Tryz.func224 (by kernel_rfl) rfl) (Jdu ls2.length row2) fun rb => ?_; refine Kk ((List.Perm.swap _ _ _).trans (List.Perm.cons _ List.perm_middle.symm)) ?_; change HL _ _ _ ((r1, .cells #[.slice none 0 0] 184 (0, 0)) :: (WB Ds ++ ((rb, .cells #[J8 ls2.length row2] 184 (0, 0)) :: JH 9 (Wq ls2) row2))) _ _ _ _; refine JI 3 rfl ?_; refine XY (τ := Unit) (fun i (s : Nat × List Value × QD) => 2 * i ≤ ls2.length ∧ s.1 = i ∧ s.2.1 = Wq ((SL.pairUp ls2).take i) ∧ rowOk 1 i s.2.1 s.2.2) (fun s => (r1, .cells #[J8 s.1 s.2.2] 184 (0, 0)) :: JH 9 s.2.1 s.2.2) (fun _ _ => False) (fun _ => []) (WB Ds ++ ((rb, .cells #[J8 ls2.length row2] 184 (0, 0)) :: JH 9 (Wq ls2) row2)) (0, [], none) rfl rfl (enters_of Tryz.func306 (by kernel_rfl) rfl) (Jdv (by omega) hra rb) zz rfl (fun q hq => .inl (List.mem_append_right _ hq)) rfl ⟨Nat.zero_le _, rfl, rfl, rfl, rfl⟩ ?_ ?_ ?_
   rintro q Xr Xb w3 i _ _ _ ⟨n, xs, row3⟩ ⟨hii, rfl, rfl, rfl⟩ ⟨h2i, hn, hxs, hr3⟩ Kr hKr; refine inR ?_
   simp only at hn hxs hr3; rw [← hn] at hr3; refine Kh 8 rfl ?_; refine hKr _ _ ?_; refine JD ?_; clear hKr; refine JK 1 rfl ?_
   have hg1 := jH hm2e (i := 2 * i) (by omega)
   have hg2 := jH hm2e (i := 2 * i + 1) (by omega)
   have hkc := wC (s := ls2.getD (2 * i) [] ++ ls2.getD (2 * i + 1) []) (by rw [List.length_append]; omega)
   obtain ⟨sv, hsv⟩ : ∃ x, x = W8 (ls2.getD (2 * i) [] ++ ls2.getD (2 * i + 1) []) := ⟨_, rfl⟩
   rw [← hsv] at hkc; refine jo [(r1, .cells #[J8 n row3] 184 (0, 0))] [(0, .pure), (1, .pure), (2, .pure), (3, .pure), (4, .pure), (5, .act (yY (slV 1) (.cells #[J1 sv] 9 (0, 0))))] 6 (by kernel_rfl) (by kernel_rfl) (fun p hp => List.mem_singleton.1 hp ▸ List.mem_cons_self) ?_; refine YC rfl rfl rfl rfl (fun _ hS => (Je rfl (.inl (hS _ (Ju (n := 0) rfl))) rfl rfl)) ?_; refine YC rfl rfl rfl rfl (fun _ hS => (Jf rfl)) ?_; refine YC rfl rfl rfl rfl (fun _ hS => (Jf rfl)) ?_; refine YC rfl rfl rfl rfl (fun _ hS => (QK (a := ls2.getD (2 * i) []) (b := ls2.getD (2 * i + 1) []) rfl rfl (by omega))) ?_; refine Jcb rfl rfl rfl rfl Jf4 hkc ?_; refine Wl (n := 1) (sz := 1) (vs := [_]) (zs := [_]) (r := [J1 sv]) rfl rfl rfl rfl rfl rfl rfl rfl rfl rfl (by show (madeCells #[_] _).toList = _; rw [QJ]; exact rfl) rfl (fun p hp => List.mem_singleton.1 hp ▸ List.mem_cons_self) fun rv => ?_; refine xA ?_; refine JM (L0 := [_, _]) (xs := xs) (row := row3) (n := n) (sz := 1) (b := 16) (news := [J1 sv]) (List.perm_append_comm (l₁ := [_, _])) rfl rfl rfl rfl (kn 0 rfl) rfl rfl rfl rfl rfl (by decide) rfl rfl rfl (by decide) hr3 (by omega) (by omega) fun ra cap sp hra => ?_; refine Kn (k := 2) (cs' := #[J8 (n + 1) (some (ra, cap, sp))]) rfl rfl rfl rfl rfl rfl rfl rfl rfl rfl ?_; refine Jx 2 rfl ?_; refine Qi [2, 0] (L' := [_, _]) (by decide) rfl ?_; exact KD (n + 1, xs ++ [J1 sv], some (ra, cap, sp)) ⟨by omega, by simp only; omega, by simp only; rw [zA ls2 hii, ← hsv, hxs]; unfold Wq; rw [List.map_append]; rfl, by rw [← hn]; exact hra⟩ rfl
   rintro D i ⟨n, xs, row3⟩ hfi ⟨h2i, hn, hxs, hr3⟩
   simp only at hn hxs hr3
   have hi2 : 2 * i = ls2.length := by omega
   have hpl := Wh ls2
   rw [List.take_of_length_le (by omega)] at hxs
   obtain rfl : n = (SL.pairUp ls2).length := by omega
   subst hxs; rw [← hn] at hr3; refine XN 2 rfl ?_
   have hkz := wC (s := z ++ z) (by rw [List.length_append]; omega)
   obtain ⟨z2, hz2⟩ : ∃ x, x = W8 (z ++ z) := ⟨_, rfl⟩
   rw [← hz2] at hkz heq; refine JE 7 (by kernel_rfl) (by kernel_rfl) ?_; refine Ja rfl rfl rfl (Je (v := J8 (SL.pairUp ls2).length row3) rfl (kn 1 rfl) rfl rfl) ?_; refine Ja rfl rfl rfl (Jf rfl) ?_; refine Ja rfl rfl rfl (Jf rfl) ?_; refine Ja rfl rfl rfl (QK (a := z) (b := z) rfl rfl (by omega)) ?_; refine Ky rfl rfl rfl Jf4 hkz ?_; refine Ja rfl rfl rfl (JC rfl) ?_; refine Ja rfl rfl rfl (JC rfl) ?_; refine JS ?_; refine JJ 6 rfl ?_; refine J3 (show _ = Value.int .i64 ((2 ^ (k + 1) : Nat) : Int) from congrArg (Value.int .i64) ((Jdw hk16).trans (by rw [Nat.pow_succ]))) ?_; refine Jx 2 rfl ?_; refine Jv ?_; refine xt (List.Perm.cons _ (Qz (_ :: JH 9 (Wq (SL.pairUp ls2)) row3) (WB Ds) _)) ?_; exact zu (k + 1, SL.pairUp ls2, row3, z2, D :: Ds) rfl ⟨hk, hr3, by rw [show lg m - (k + 1) = K by omega]; exact heq, by rw [show lg m - (k + 1) = K by omega]; simp only; omega, ZM ls2, by rw [hz2]; exact Zl _⟩ (by simp only; omega) (lK rfl) (.cons_cons _ ((List.Sublist.refl _).append (.cons _ (List.sublist_append_left _ _)))) (fun _ _ h => h)
   exact fun _ _ _ h => h.elim
 ·refine JK 7 rfl ?_
  have hkl : ¬ k < lg m := fun h => by have := Jpg.2 h; omega
  obtain rfl : k = lg m := by have := hi.le; omega
  have heq := hi.eq
  have hlen := hi.len
  rw [Nat.sub_self] at heq hlen; refine Jq 2 rfl ?_; refine LR rfl (Wt rfl hi.ok.zero rfl) ?_; refine JI 3 rfl ?_; refine cD (fun g => ?_) fun g => ?_
  refine Kh 8 rfl ?_; refine wu Ds ?_; refine pT rfl rfl rfl fun w1 hs1 => ?_; refine ⟨?_, hs1.keep⟩
  (obtain rfl : ls = [] := List.eq_nil_of_length_eq_zero (by omega)
   rw [← heq]; rfl)
  ·refine JK 3 rfl ?_
   obtain ⟨s0, hls1⟩ : ∃ s0, ls = [s0] := by
    match ls, hlen with
    | [a], _ => exact ⟨a, rfl⟩
    | [], _ => exact absurd rfl (by assumption)
    | _ :: _ :: _, h => simp at h
   refine Jq 2 rfl ?_; refine LR rfl (Jk (p := Qo row) (j := 0) (show _ = some (KB ls.length (Qo row)) from by rw [QZ _ _ hi.ok.zero]; rfl) (Km (e := 9) hi.ok (by decide)) rfl rfl rfl rfl (by omega)) ?_; refine LR rfl (QL (p := Qo row) (fun q hq => Or.inl (List.mem_append_right _ hq)) rfl (Km (e := 9) hi.ok (by decide)) (by omega) rfl (Jaq (show ls[0]? = some s0 from by rw [hls1]; rfl))) ?_; refine Jx 4 rfl ?_; refine wu Ds ?_; refine pT rfl rfl rfl fun w1 hs1 => ?_; refine ⟨?_, hs1.keep⟩; rw [← heq, hls1]; rfl
abbrev fV1 (f : FuncId) : Value := .func (.func f) #[] #[]
def Yz (root : BS) (n : Nat) : BS := W8 (root ++ yH (jt n 8))
theorem le8 {n : Nat} (h : n < 18446744073709551616) : yI n 8 = (jt n 8, 0) := by
 unfold yI
 rw [if_neg]
 ·rfl
 ·have := (Jis (n := n) (k := 8) h (by decide)).2 (by simpa using h)
  omega
theorem Jph {root : BS} (hr : root.length ≤ 1000) {n : Nat} (hn : n ≤ 9223372036854775807) : Pure Tryz.prog 163 [J1 root, .int .i64 (n : Int)].toArray (J1 (Yz root n)) := by
 have hk := wC (s := root ++ yH (jt n 8)) (by rw [List.length_append, wd (by rw [Vr]; decide)]; omega)
 change Pure _ _ _ (J1 (Yz root n)) at hk
 have hp := wd (s := jt n 8) (by rw [Vr]; decide)
 generalize Yz root n = z at hk
 refine Jl Tryz.func163 rfl rfl fun w => ?_; refine JD ?_; refine Jq 9 rfl ?_; refine J3 (show _ = uV n from congrArg (Value.int .u64) (wrap_u64 (z := (n : Int)) (by omega) (by omega))) ?_; refine Jn rfl rfl rfl Jty (jG (n := n) (by omega) 8) ?_; refine J3 (show _ = Value.tuple #[J1 (jt n 8), .int .i64 0] from by rw [le8 (by omega)]; rfl) ?_; refine JJ 11 rfl ?_; refine Jn rfl rfl rfl Jor (Jgc (s := jt n 8) (by rw [Vr]; decide)) ?_; refine LR rfl (QK (a := root) (b := yH (jt n 8)) rfl rfl (by omega)) ?_; refine Jn rfl rfl rfl Jf4 hk ?_; refine Jx 4 rfl ?_; refine pT rfl rfl rfl fun w1 hs1 => ?_; exact ⟨rfl, hs1.keep⟩
theorem Zc (l : List BS) (s : BS) : Wq (l ++ [s]) = Wq l ++ [J1 s] := by unfold Wq; rw [List.map_append]; rfl
end Go.Proofs.YtfaagelglpgpkaaGreatDoor
