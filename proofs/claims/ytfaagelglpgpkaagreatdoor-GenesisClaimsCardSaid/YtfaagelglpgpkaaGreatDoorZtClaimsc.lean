import Derived.Test.YtfaagelglpgpkaaGreatDoorZtClaimsb
import Derived.Test.YtfaagelglpgpkaaGreatDoorProg
import Derived.Laws.Externs
import Derived.Shelf.Spec.BitsCarry
import Derived.Shelf.Strings.Builder1
import Derived.Shelf.Strings.Builder2
import Derived.Shelf.Strings.Trim
import Derived.Shelf.Small.Utf8
import Derived.Shelf.Small.Bits
import Derived.Shelf.Small.Strs
import Derived.Shelf.Small.Wraps
import Derived.Shelf.Strings.BuilderF
import Derived.Shelf.Strings.BuilderK
import Derived.Shelf.Strings.Builder2Cap
import Derived.Shelf.Strconv.Itoa0
import Derived.Shelf.Strings.Search1
import Derived.Shelf.Sort.Plain
import Derived.Shelf.Strings.Prefix
import Derived.Shelf.Unicode.Decode
import Derived.Shelf.Strings.Runes
import Derived.Shelf.Strings.AsciiSet
import Derived.Shelf.Bits.Mul64
import Derived.Shelf.Strings.Repeat
import Derived.Shelf.Unicode.DecodeSlow
import Derived.Shelf.Unicode.DecodeAny
import Derived.Shelf.Strings.BuilderCap
import Derived.Shelf.Slices.Turned
import Derived.Ground.Names2Prog
import Derived.Shelf.Slices.Clone
import Derived.Shelf.Slices.SearchI
import Derived.Shelf.Slices.In.SortNone
import Derived.Ground.SlgnProg
import Derived.Shelf.SlicesE.Clone
set_option maxRecDepth 100000
namespace Go.SL
set_option linter.all false
open Go Go.RowKit Go.Shelf
open Go.Proofs (Enters enters_of)
variable {es : Array MapEntry} {ops : Array Oper} {c : Cx} {d : List Deferred} {rest : List Oper} {h i j : Nat} {o : Oper} {e : TypeId} {v : Value} {X : XP}
def Jry : KQ → Nat → Option Value
 | [], _ => none
 | (j, v) :: l, i => match Nat.beq i j with | true => some v | false => Jry l i
def J3t (ops : List Oper) (j : Nat) : Option Nat := match X7 ops j with | some o => o.dst | none => none
def Ji2 (ops : List Oper) (tv : KQ) : List Edge → KQ
 | [] => []
 | e :: es => match J3t ops e.on, Jry tv e.on with | some i, some v => (i, v) :: Ji2 ops tv es | _, _ => Ji2 ops tv es
def J0r (ops : List Oper) (tv : KQ) (j : Nat) : KQ := match X7 ops j with | some o => Ji2 ops tv (o.after.toList.filter fun e => Region.binds .any e) | none => []
inductive BoomOk (c : Cx) (d : List Deferred) (l : KQ) (L : Jx) (X : XP) (ops : List Oper) (tv : KQ) : KQ → Prop
  | nil : BoomOk c d l L X ops tv []
  | cons {j : Nat} {v : Value} {o : Oper} {ds rest : KQ} (h1 : X7 ops j = some o) (h2 : J0r ops tv j = ds) (h3 : JM c d (ds ++ l) L X o v) (h : BoomOk c d l L X ops tv rest) : BoomOk c d l L X ops tv ((j, v) :: rest)
theorem BoomOk.get {l : KQ} {L : Jx} {ops : List Oper} {tv : KQ} : ∀ {tw : KQ}, BoomOk c d l L X ops tv tw → ∀ p ∈ tw, ∃ o, X7 ops p.1 = some o ∧ JM c d (J0r ops tv p.1 ++ l) L X o p.2
 | _, .nil, p, h => by cases h
 | _, .cons h1 h2 h3 h, p, hp => by
  rcases List.mem_cons.1 hp with rfl | hp
  ·exact ⟨_, h1, h2 ▸ h3⟩
  ·exact h.get p hp
end Go.SL
namespace Go.Proofs.YtfaagelglpgpkaaGreatDoor
set_option linter.all false
open Go.SL Go.RowKit Go.Shelf
variable {g : FuncId} {L0 R : Jx} {xs : List AcL} {l' : List Bool} {a : List Nat} {sp vs : List Value} {m' : List Vl} {α : Type} {ys : List α} {b c cap d e i j m off sz : Nat} {x y : Operand} {pb pi : Pl} {row : QC} {r : Rec} {s : StL} {t : Ty} {z : Value} {q : Vl} {w : World}
theorem Joi : Go.Proofs.Enters Tryz.prog 11 := Go.Proofs.enters_of Tryz.func11 m6 rfl
theorem J1t : Go.Proofs.Enters Tryz.prog 19 := Go.Proofs.enters_of Tryz.func19 m6 rfl
theorem J1u : Go.Proofs.Enters Tryz.prog 20 := Go.Proofs.enters_of Tryz.func20 m6 rfl
theorem Jxo : Go.Proofs.Enters Tryz.prog 22 := Go.Proofs.enters_of Tryz.func22 m6 rfl
theorem Joj : Go.Proofs.Enters Tryz.prog 33 := Go.Proofs.enters_of Tryz.func33 m6 rfl
theorem J1v : Go.Proofs.Enters Tryz.prog 35 := Go.Proofs.enters_of Tryz.func35 m6 rfl
theorem J1w : Go.Proofs.Enters Tryz.prog 36 := Go.Proofs.enters_of Tryz.func36 m6 rfl
theorem J1x : Go.Proofs.Enters Tryz.prog 37 := Go.Proofs.enters_of Tryz.func37 m6 rfl
theorem J1y : Go.Proofs.Enters Tryz.prog 38 := Go.Proofs.enters_of Tryz.func38 m6 rfl
theorem J1z : Go.Proofs.Enters Tryz.prog 39 := Go.Proofs.enters_of Tryz.func39 m6 rfl
theorem Jxp : Go.Proofs.Enters Tryz.prog 41 := Go.Proofs.enters_of Tryz.func41 m6 rfl
theorem Jxq : Go.Proofs.Enters Tryz.prog 44 := Go.Proofs.enters_of Tryz.func44 m6 rfl
theorem Ji3 : Go.Proofs.Enters Tryz.prog 50 := Go.Proofs.enters_of Tryz.func50 m6 rfl
theorem Jf6 : Go.Proofs.Enters Tryz.prog 59 := Go.Proofs.enters_of Tryz.func59 m6 rfl
theorem Jxr : Go.Proofs.Enters Tryz.prog 88 := Go.Proofs.enters_of Tryz.func88 m6 rfl
theorem Jxs : Go.Proofs.Enters Tryz.prog 89 := Go.Proofs.enters_of Tryz.func89 m6 rfl
theorem J10 : Go.Proofs.Enters Tryz.prog 92 := Go.Proofs.enters_of Tryz.func92 m6 rfl
theorem Jxt : Go.Proofs.Enters Tryz.prog 93 := Go.Proofs.enters_of Tryz.func93 m6 rfl
theorem J11 : Go.Proofs.Enters Tryz.prog 96 := Go.Proofs.enters_of Tryz.func96 m6 rfl
theorem Jxu : Go.Proofs.Enters Tryz.prog 98 := Go.Proofs.enters_of Tryz.func98 m6 rfl
theorem Jld : Go.Proofs.Enters Tryz.prog 100 := Go.Proofs.enters_of Tryz.func100 m6 rfl
theorem Jrz : Go.Proofs.Enters Tryz.prog 101 := Go.Proofs.enters_of Tryz.func101 m6 rfl
theorem Jle : Go.Proofs.Enters Tryz.prog 102 := Go.Proofs.enters_of Tryz.func102 m6 rfl
theorem wu : Go.Proofs.Enters Tryz.prog 103 := Go.Proofs.enters_of Tryz.func103 m6 rfl
theorem Jr0 : Go.Proofs.Enters Tryz.prog 131 := Go.Proofs.enters_of Tryz.func131 m6 rfl
theorem Jf7 : Go.Proofs.Enters Tryz.prog 139 := Go.Proofs.enters_of Tryz.func139 m6 rfl
theorem Jav : Go.Proofs.Enters Tryz.prog 140 := Go.Proofs.enters_of Tryz.func140 m6 rfl
theorem Jlf : Go.Proofs.Enters Tryz.prog 141 := Go.Proofs.enters_of Tryz.func141 m6 rfl
theorem zA : Go.Proofs.Enters Tryz.prog 142 := Go.Proofs.enters_of Tryz.func142 m6 rfl
theorem Jf8 : Go.Proofs.Enters Tryz.prog 143 := Go.Proofs.enters_of Tryz.func143 m6 rfl
theorem Jaw : Go.Proofs.Enters Tryz.prog 144 := Go.Proofs.enters_of Tryz.func144 m6 rfl
theorem Jlg : Go.Proofs.Enters Tryz.prog 145 := Go.Proofs.enters_of Tryz.func145 m6 rfl
theorem Jlh : Go.Proofs.Enters Tryz.prog 146 := Go.Proofs.enters_of Tryz.func146 m6 rfl
theorem wv : Go.Proofs.Enters Tryz.prog 151 := Go.Proofs.enters_of Tryz.func151 m6 rfl
theorem Jli : Go.Proofs.Enters Tryz.prog 156 := Go.Proofs.enters_of Tryz.func156 m6 rfl
theorem Jr1 : Go.Proofs.Enters Tryz.prog 158 := Go.Proofs.enters_of Tryz.func158 m6 rfl
theorem Jr2 : Go.Proofs.Enters Tryz.prog 163 := Go.Proofs.enters_of Tryz.func163 m6 rfl
theorem Jlj : Go.Proofs.Enters Tryz.prog 168 := Go.Proofs.enters_of Tryz.func168 m6 rfl
theorem Jax : Go.Proofs.Enters Tryz.prog 179 := Go.Proofs.enters_of Tryz.func179 m6 rfl
theorem Jlk : Go.Proofs.Enters Tryz.prog 180 := Go.Proofs.enters_of Tryz.func180 m6 rfl
theorem Jr3 : Go.Proofs.Enters Tryz.prog 183 := Go.Proofs.enters_of Tryz.func183 m6 rfl
theorem Jll : Go.Proofs.Enters Tryz.prog 188 := Go.Proofs.enters_of Tryz.func188 m6 rfl
theorem Jlm : Go.Proofs.Enters Tryz.prog 198 := Go.Proofs.enters_of Tryz.func198 m6 rfl
theorem Jr4 : Go.Proofs.Enters Tryz.prog 202 := Go.Proofs.enters_of Tryz.func202 m6 rfl
theorem Jf9 : Go.Proofs.Enters Tryz.prog 212 := Go.Proofs.enters_of Tryz.func212 m6 rfl
theorem Jln : Go.Proofs.Enters Tryz.prog 217 := Go.Proofs.enters_of Tryz.func217 m6 rfl
theorem Jr5 : Go.Proofs.Enters Tryz.prog 219 := Go.Proofs.enters_of Tryz.func219 m6 rfl
theorem Jr6 : Go.Proofs.Enters Tryz.prog 222 := Go.Proofs.enters_of Tryz.func222 m6 rfl
theorem Jlo : Go.Proofs.Enters Tryz.prog 237 := Go.Proofs.enters_of Tryz.func237 m6 rfl
theorem Jlp : Go.Proofs.Enters Tryz.prog 239 := Go.Proofs.enters_of Tryz.func239 m6 rfl
theorem Jlq : Go.Proofs.Enters Tryz.prog 240 := Go.Proofs.enters_of Tryz.func240 m6 rfl
theorem Jr7 : Go.Proofs.Enters Tryz.prog 241 := Go.Proofs.enters_of Tryz.func241 m6 rfl
theorem Jr8 : Go.Proofs.Enters Tryz.prog 242 := Go.Proofs.enters_of Tryz.func242 m6 rfl
theorem Jr9 : Go.Proofs.Enters Tryz.prog 261 := Go.Proofs.enters_of Tryz.func261 m6 rfl
theorem Jsa : Go.Proofs.Enters Tryz.prog 263 := Go.Proofs.enters_of Tryz.func263 m6 rfl
theorem Jsb : Go.Proofs.Enters Tryz.prog 265 := Go.Proofs.enters_of Tryz.func265 m6 rfl
theorem Jlr : Go.Proofs.Enters Tryz.prog 270 := Go.Proofs.enters_of Tryz.func270 m6 rfl
theorem Jsc : Go.Proofs.Enters Tryz.prog 276 := Go.Proofs.enters_of Tryz.func276 m6 rfl
theorem Jls : Go.Proofs.Enters Tryz.prog 281 := Go.Proofs.enters_of Tryz.func281 m6 rfl
theorem Jlt : Go.Proofs.Enters Tryz.prog 282 := Go.Proofs.enters_of Tryz.func282 m6 rfl
theorem Jsd : Go.Proofs.Enters Tryz.prog 284 := Go.Proofs.enters_of Tryz.func284 m6 rfl
theorem Jse : Go.Proofs.Enters Tryz.prog 302 := Go.Proofs.enters_of Tryz.func302 m6 rfl
theorem Jlu : Go.Proofs.Enters Tryz.prog 313 := Go.Proofs.enters_of Tryz.func313 m6 rfl
theorem Jlv : Go.Proofs.Enters Tryz.prog 334 := Go.Proofs.enters_of Tryz.func334 m6 rfl
theorem Ji4 {k n : Int} {p : Pl} {ins : List Ty} (ht : Ty.In R (.mk k n p ins)) : PureR Tryz.prog 374 [Ty.val (.mk k n p ins)].toArray (.bool (Km k n ins.length)) R := by
 cases ht with
 | mk hk hn hl hs hi =>
 refine Jc Tryz.func374 O O fun w => Nj fun r1 => ?_; refine Goc 17 [0] O O (cD (fun g => ?_) fun g => ?_)
 ·refine HE ?_
  refine Jv 11 O (fun gb => ?_) (fun gb => ?_) <;> (try simp only [ZZ] at gb) <;> first | (refine LR O (J6 O O O) ?_) | (refine LK O ?_)
  all_goals refine LW 3 [0] O O ?_
  all_goals first | refine LK O ?_ | (refine Jv 15 O (fun gb => ?_) (fun gb => ?_) <;> (try simp only [ZZ] at gb) <;> first | (refine LR O (J6 O O O) ?_) | (refine LK O ?_))
  all_goals refine Dc ?_
  all_goals first | refine LK O ?_ | (refine Jv 20 O (fun gb => ?_) (fun gb => ?_) <;> (try simp only [ZZ] at gb) <;> first | (refine LR O (J6 O O O) ?_) | (refine LK O ?_))
  all_goals refine Dc ?_
  all_goals first | refine LK O ?_ | (refine Jv 25 O (fun gb => ?_) (fun gb => ?_) <;> (try simp only [ZZ] at gb) <;> first | (refine LR O (J6 O O O) ?_) | (refine LK O ?_))
  all_goals refine Dc ?_
  all_goals first | refine LK O ?_ | (refine Jv 30 O (fun gb => ?_) (fun gb => ?_) <;> (try simp only [ZZ] at gb) <;> first | (refine LR O (J6 O O O) ?_) | (refine LK O ?_))
  all_goals (
   refine LW 5 [0] O O (J1 1 O (Xk 4 O ?_)); refine Ni fun w1 hs1 => ?_
   unfold Km
   simp only [JB]
   simp_all
   all_goals first | done | rfl | omega | (rw [Bool.eq_iff_iff]; simp only [Bool.and_eq_true, decide_eq_true_eq]; omega)
   skip)
 ·refine NO ?_; refine cD (fun g => ?_) fun g => ?_
  ·refine HE ?_
   refine Jv 42 O (fun gb => ?_) (fun gb => ?_) <;> (try simp only [ZZ] at gb) <;> first | (refine LR O (J6 O O O) ?_) | (refine LK O ?_)
   all_goals (
    refine gG fun w1 hs1 => ?_
    simp_all
    all_goals first | done | rfl | omega | (rw [Bool.eq_iff_iff]; simp only [Bool.and_eq_true, decide_eq_true_eq]; omega)
    skip)
  ·refine Dk ?_; refine cD (fun g => ?_) fun g => ?_
   ·refine JC 2 O (cD (fun g => ?_) fun g => ?_)
    ·refine HE ?_
     refine Jv 54 O (fun gb => ?_) (fun gb => ?_) <;> (try simp only [ZZ] at gb) <;> first | (refine LR O (J6 O O O) ?_) | (refine LK O ?_)
     all_goals refine Dc ?_
     all_goals first | refine LK O ?_ | (refine Jv 59 O (fun gb => ?_) (fun gb => ?_) <;> (try simp only [ZZ] at gb) <;> first | (refine LR O (J6 O O O) ?_) | (refine LK O ?_))
     all_goals (
      refine gG fun w1 hs1 => ?_
      simp_all
      first | done | rfl | omega | (rw [Bool.eq_iff_iff]; simp only [Bool.and_eq_true, decide_eq_true_eq]; omega)
      skip)
    ·refine Dk ?_; refine cD (fun g => ?_) fun g => ?_
     ·refine JC 2 O (cD (fun g => ?_) fun g => ?_)
      ·refine HE ?_
       refine Jv 71 O (fun gb => ?_) (fun gb => ?_) <;> (try simp only [ZZ] at gb) <;> first | (refine LR O (J6 O O O) ?_) | (refine LK O ?_)
       all_goals refine Dc ?_
       all_goals first | refine LK O ?_ | (refine Jv 76 O (fun gb => ?_) (fun gb => ?_) <;> (try simp only [ZZ] at gb) <;> first | (refine LR O (J6 O O O) ?_) | (refine LK O ?_))
       all_goals (
        refine gG fun w1 hs1 => ?_
        simp_all
        skip)
      ·refine NO ?_; refine cD (fun g => ?_) fun g => ?_
       ·refine Ex ?_
        refine Jv 86 O (fun gb => ?_) (fun gb => ?_) <;> (try simp only [ZZ] at gb) <;> first | (refine LR O (J6 O O O) ?_) | (refine LK O ?_)
        all_goals refine Hb ?_
        all_goals first | refine LK O ?_ | (refine Jv 92 O (fun gb => ?_) (fun gb => ?_) <;> (try simp only [ZZ] at gb) <;> first | (refine LR O (J6 O O O) ?_) | (refine LK O ?_))
        all_goals refine Np ?_
        all_goals (
         refine D6 fun w1 hs1 => ?_
         simp_all
         skip)
       ·refine Qy 9 [0] O O ?_
        refine Jv 101 O (fun gb => ?_) (fun gb => ?_) <;> (try simp only [ZZ] at gb) <;> first | (refine LR O (J6 O O O) ?_) | (refine LK O ?_)
        all_goals refine Hb ?_
        all_goals first | refine LK O ?_ | (refine Jv 107 O (fun gb => ?_) (fun gb => ?_) <;> (try simp only [ZZ] at gb) <;> first | (refine LR O (J6 O O O) ?_) | (refine LK O ?_))
        all_goals refine Np ?_
        all_goals (
         refine FQ fun w1 hs1 => ?_
         unfold Km
         simp only [JB]
         simp_all
         skip)
     ·refine gk ?_; refine cD (fun g => ?_) fun g => ?_
      ·refine HE ?_
       refine Jv 71 O (fun gb => ?_) (fun gb => ?_) <;> (try simp only [ZZ] at gb) <;> first | (refine LR O (J6 O O O) ?_) | (refine LK O ?_)
       all_goals refine Dc ?_
       all_goals first | refine LK O ?_ | (refine Jv 76 O (fun gb => ?_) (fun gb => ?_) <;> (try simp only [ZZ] at gb) <;> first | (refine LR O (J6 O O O) ?_) | (refine LK O ?_))
       all_goals (
        refine gG fun w1 hs1 => ?_
        simp_all
        skip)
      ·refine NO ?_; refine cD (fun g => ?_) fun g => ?_
       ·refine Ex ?_
        refine Jv 86 O (fun gb => ?_) (fun gb => ?_) <;> (try simp only [ZZ] at gb) <;> first | (refine LR O (J6 O O O) ?_) | (refine LK O ?_)
        all_goals refine Hb ?_
        all_goals first | refine LK O ?_ | (refine Jv 92 O (fun gb => ?_) (fun gb => ?_) <;> (try simp only [ZZ] at gb) <;> first | (refine LR O (J6 O O O) ?_) | (refine LK O ?_))
        all_goals refine Np ?_
        all_goals (
         refine D6 fun w1 hs1 => ?_
         simp_all
         skip)
       ·refine Qy 9 [0] O O ?_
        refine Jv 101 O (fun gb => ?_) (fun gb => ?_) <;> (try simp only [ZZ] at gb) <;> first | (refine LR O (J6 O O O) ?_) | (refine LK O ?_)
        all_goals refine Hb ?_
        all_goals first | refine LK O ?_ | (refine Jv 107 O (fun gb => ?_) (fun gb => ?_) <;> (try simp only [ZZ] at gb) <;> first | (refine LR O (J6 O O O) ?_) | (refine LK O ?_))
        all_goals refine Np ?_
        all_goals (
         refine FQ fun w1 hs1 => ?_
         unfold Km
         simp only [JB]
         simp_all
         skip)
   ·refine gk ?_; refine cD (fun g => ?_) fun g => ?_
    ·refine HE ?_
     refine Jv 54 O (fun gb => ?_) (fun gb => ?_) <;> (try simp only [ZZ] at gb) <;> first | (refine LR O (J6 O O O) ?_) | (refine LK O ?_)
     all_goals refine Dc ?_
     all_goals first | refine LK O ?_ | (refine Jv 59 O (fun gb => ?_) (fun gb => ?_) <;> (try simp only [ZZ] at gb) <;> first | (refine LR O (J6 O O O) ?_) | (refine LK O ?_))
     all_goals (
      refine gG fun w1 hs1 => ?_
      simp_all
      first | done | rfl | omega | (rw [Bool.eq_iff_iff]; simp only [Bool.and_eq_true, decide_eq_true_eq]; omega)
      skip)
    ·refine Dk ?_; refine cD (fun g => ?_) fun g => ?_
     ·refine JC 2 O (cD (fun g => ?_) fun g => ?_)
      ·refine HE ?_
       refine Jv 71 O (fun gb => ?_) (fun gb => ?_) <;> (try simp only [ZZ] at gb) <;> first | (refine LR O (J6 O O O) ?_) | (refine LK O ?_)
       all_goals refine Dc ?_
       all_goals first | refine LK O ?_ | (refine Jv 76 O (fun gb => ?_) (fun gb => ?_) <;> (try simp only [ZZ] at gb) <;> first | (refine LR O (J6 O O O) ?_) | (refine LK O ?_))
       all_goals (
        refine gG fun w1 hs1 => ?_
        simp_all
        all_goals first | done | rfl | omega | (rw [Bool.eq_iff_iff]; simp only [Bool.and_eq_true, decide_eq_true_eq]; omega)
        skip)
      ·refine NO ?_; refine cD (fun g => ?_) fun g => ?_
       ·refine Ex ?_
        refine Jv 86 O (fun gb => ?_) (fun gb => ?_) <;> (try simp only [ZZ] at gb) <;> first | (refine LR O (J6 O O O) ?_) | (refine LK O ?_)
        all_goals refine Hb ?_
        all_goals first | refine LK O ?_ | (refine Jv 92 O (fun gb => ?_) (fun gb => ?_) <;> (try simp only [ZZ] at gb) <;> first | (refine LR O (J6 O O O) ?_) | (refine LK O ?_))
        all_goals refine Np ?_
        all_goals (
         refine D6 fun w1 hs1 => ?_
         simp_all
         skip)
       ·refine Qy 9 [0] O O ?_
        refine Jv 101 O (fun gb => ?_) (fun gb => ?_) <;> (try simp only [ZZ] at gb) <;> first | (refine LR O (J6 O O O) ?_) | (refine LK O ?_)
        all_goals refine Hb ?_
        all_goals first | refine LK O ?_ | (refine Jv 107 O (fun gb => ?_) (fun gb => ?_) <;> (try simp only [ZZ] at gb) <;> first | (refine LR O (J6 O O O) ?_) | (refine LK O ?_))
        all_goals refine Np ?_
        all_goals (
         refine FQ fun w1 hs1 => ?_
         unfold Km
         simp only [JB]
         simp_all
         skip)
     ·refine gk ?_; refine cD (fun g => ?_) fun g => ?_
      ·refine HE ?_
       refine Jv 71 O (fun gb => ?_) (fun gb => ?_) <;> (try simp only [ZZ] at gb) <;> first | (refine LR O (J6 O O O) ?_) | (refine LK O ?_)
       all_goals refine Dc ?_
       all_goals first | refine LK O ?_ | (refine Jv 76 O (fun gb => ?_) (fun gb => ?_) <;> (try simp only [ZZ] at gb) <;> first | (refine LR O (J6 O O O) ?_) | (refine LK O ?_))
       all_goals (
        refine gG fun w1 hs1 => ?_
        simp_all
        all_goals first | done | rfl | omega | (rw [Bool.eq_iff_iff]; simp only [Bool.and_eq_true, decide_eq_true_eq]; omega)
        skip)
      ·refine NO ?_; refine cD (fun g => ?_) fun g => ?_
       ·refine Ex ?_
        refine Jv 86 O (fun gb => ?_) (fun gb => ?_) <;> (try simp only [ZZ] at gb) <;> first | (refine LR O (J6 O O O) ?_) | (refine LK O ?_)
        all_goals refine Hb ?_
        all_goals first | refine LK O ?_ | (refine Jv 92 O (fun gb => ?_) (fun gb => ?_) <;> (try simp only [ZZ] at gb) <;> first | (refine LR O (J6 O O O) ?_) | (refine LK O ?_))
        all_goals refine Np ?_
        all_goals (
         refine D6 fun w1 hs1 => ?_
         simp_all
         all_goals first | done | rfl | omega | (rw [Bool.eq_iff_iff]; simp only [Bool.and_eq_true, decide_eq_true_eq]; omega)
         skip)
       ·refine Qy 9 [0] O O ?_
        refine Jv 101 O (fun gb => ?_) (fun gb => ?_) <;> (try simp only [ZZ] at gb) <;> first | (refine LR O (J6 O O O) ?_) | (refine LK O ?_)
        all_goals refine Hb ?_
        all_goals first | refine LK O ?_ | (refine Jv 107 O (fun gb => ?_) (fun gb => ?_) <;> (try simp only [ZZ] at gb) <;> first | (refine LR O (J6 O O O) ?_) | (refine LK O ?_))
        all_goals refine Np ?_
        all_goals (
         refine FQ fun w1 hs1 => ?_
         unfold Km
         simp only [JB]
         simp_all
         all_goals first | done | rfl | omega | (rw [Bool.eq_iff_iff]; simp only [Bool.and_eq_true, decide_eq_true_eq]; omega)
         skip)
theorem Jga (ht : t.In R) : ∀ d : Int, 0 ≤ d → d ≤ 1000 → PureR Tryz.prog 361 [t.val, .int .i64 d].toArray (.int .i64 (chk t d)) R := by
  induction ht with
  | @mk k n p ins hk hn hl hs hi ih =>
  intro d hd0 hd1
  have hform := Ji4 (.mk hk hn hl hs hi : Ty.In R (.mk k n p ins))
  refine Jc Tryz.func361 O O fun w => Nj fun r1 => ?_; refine XG 10 [0] O O ?_
  refine Jv 11 O (fun gb => ?_) (fun gb => ?_) <;> (try simp only [ZZ] at gb) <;> first | (refine LR O (J6 O O O) ?_) | (refine LK O ?_)
  all_goals (
   refine LW 3 [0] O O (J1 1 O (XC 1 O ?_)); refine J7 O (fun g => ?_) (fun g => ?_)
   try simp only [ZZ] at g
   refine Gv fun w1 hs1 => ?_; rw [chk, if_pos m5]; rfl
   · try exact Bool.noConfusion g
     all_goals try simp only [ZZ] at g
     all_goals (
      refine gZ ?_; refine Ns ?_; refine Ji O O O (enters_of Tryz.func374 m6 O) hform oR (Ht ?_); refine cD (fun g => ?_) fun g => ?_
      refine Gv fun w1 hs1 => ?_; rw [chk, if_neg m5, if_pos m9]; rfl
      refine JC 9 O (cD (fun g => ?_) fun g => ?_)
      refine Gv fun w1 hs1 => ?_; rw [chk, if_neg m5, if_neg mt, if_pos m5]; rfl
      refine JC 9 O (Jw (σ := Nat) (fun i => i ≤ ins.length ∧ Xx (ins.drop i) (d + 1) = Xx ins (d + 1)) (fun i => [(1, .int .i64 d), (2, .pointer (some ⟨r1, 0, none⟩)), (6, .int .i64 (i : Int))]) (fun _ => [(r1, .cells #[.int .i64 k, .int .i64 n, KA ins.length p] 84 (0, 0))]) (fun _ _ _ => True) (fun i => ins.length - i) 0 ⟨by omega, rfl⟩ (lK rfl) (List.Sublist.refl _) (fun _ _ h => h) ?_); rintro i ⟨hi1, hinv⟩; refine Gw ?_; refine cD (fun g => ?_) fun g => ?_
      refine gk ?_
      obtain ⟨y, hy, hmem⟩ := QD M1
      rw [VY hy, Xx] at hinv; refine gp ?_; refine gg ?_; refine ko ?_; refine Ew ?_; refine Ji O O O (enters_of Tryz.func361 m6 O) (ih y hmem (d + 1) m5 m5) oR (H2 ?_); refine cD (fun g => ?_) fun g => ?_
      refine Hv fun w1 hs1 => ?_; rw [chk, if_neg m5, if_neg mt, if_neg m5, ← hinv, if_neg m9]; rfl
      refine Hs ?_; exact Jo (i + 1) ⟨by omega, by rw [if_pos m9] at hinv; exact hinv⟩ m5 (lK O) (List.Sublist.refl _) (fun _ _ h => h)
      refine G5 fun w1 hs1 => ?_; rw [chk, if_neg m5, if_neg mt, if_neg m5, ← hinv, List.drop_of_length_le m5, Xx]; rfl
      skip)
   skip)
theorem Jgb (ht : t.In R) : PureR Tryz.prog 331 [t.val].toArray (.int .i64 (chk t 0)) R := by
 have h1 := Jga ht 0 m5 m5
 obtain ⟨k, n, p, ins⟩ := t
 refine Jc Tryz.func331 O O fun w => gO fun r1 => ?_; refine Ji O O O (enters_of Tryz.func361 m6 O) h1 oR ?_; exact NU
theorem Jgc (ht : t.In R) : PureR Tryz.prog 332 [t.val].toArray (.bool (WA t)) R := by
  induction ht with
  | @mk k n p ins hk hn hl hs hi ih =>
  refine Jc Tryz.func332 O O fun w => Nj fun r1 => ?_; refine XG 10 [0] O O ?_
  refine Jv 7 O (fun gb => ?_) (fun gb => ?_) <;> (try simp only [ZZ] at gb) <;> first | (refine LR O (J6 O O O) ?_) | (refine LK O ?_)
  all_goals refine Dc ?_
  all_goals first | refine LK O ?_ | (refine Jv 12 O (fun gb => ?_) (fun gb => ?_) <;> (try simp only [ZZ] at gb) <;> first | (refine LR O (J6 O O O) ?_) | (refine LK O ?_))
  all_goals (
   refine LW 3 [0] O O (J1 1 O (XC 1 O ?_)); refine J7 O (fun g => ?_) (fun g => ?_)
   · try simp only [ZZ] at g
     refine Gv fun w1 hs1 => ?_; rw [WA]
     simp_all [JB]; done
   · try exact Bool.noConfusion g
     all_goals try simp only [ZZ] at g
     all_goals (
      refine JC 9 O (Jw (σ := Nat) (fun i => i ≤ ins.length ∧ ZN (ins.drop i) = ZN ins) (fun i => [(1, .pointer (some ⟨r1, 0, none⟩)), (3, .int .i64 (i : Int))]) (fun _ => [(r1, .cells #[.int .i64 k, .int .i64 n, KA ins.length p] 84 (0, 0))]) (fun _ _ _ => True) (fun i => ins.length - i) 0 ⟨by omega, rfl⟩ (lK rfl) (List.Sublist.refl _) (fun _ _ h => h) ?_); rintro i ⟨hi1, hinv⟩; refine Gw ?_; refine cD (fun g => ?_) fun g => ?_
      · refine gk ?_
        obtain ⟨y, hy, hmem⟩ := QD M1
        rw [VY hy, ZN] at hinv; refine gp ?_; refine gg ?_; refine Ji O O O (enters_of Tryz.func332 m6 O) (ih y hmem) oR (ki ?_); refine cD (fun g => ?_) fun g => ?_
        · refine G5 fun w1 hs1 => ?_; rw [WA]
          simp_all [JB]; done
        refine Hs ?_; exact Jo (i + 1) ⟨by omega, by simp_all⟩ m5 (lK rfl) (List.Sublist.refl _) (fun _ _ h => h)
      · refine G5 fun w1 hs1 => ?_; rw [WA]; rw [← hinv, List.drop_of_length_le m5, ZN]; simp_all [JB]; done
      skip)
   skip)
theorem ZT (ht : t.In R) : PureR Tryz.prog 263 [t.val].toArray (.bool (VD t)) R := by
 have h1 := Jgb ht
 have h2 := Jgc ht
 obtain ⟨k, n, p, ins⟩ := t
 refine Jc Tryz.func263 O O fun w => gO fun r1 => ?_; refine Ji O O O (enters_of Tryz.func331 m6 O) h1 oR (ko ?_)
 refine Jv 6 O (fun gb => ?_) (fun gb => ?_) <;> (try simp only [ZZ] at gb) <;> first | (refine LR O (Jz (vs := [_, _, _]) O (kn 0 O) O O O O) ?_) | (refine LK O ?_)
 all_goals first | (refine Ji O O O (enters_of Tryz.func332 m6 O) h2 oR ?_) | refine LK O ?_
 all_goals (
  refine g8 fun w1 hs1 => ?_
  simp_all [VD, JB]
  skip)
theorem Jay {k n : Int} {p : Pl} {ins : List Ty} (h1 : k ≠ 1) (h2 : k ≠ 2) (h5 : k ≠ 5) (h3 : k ≠ 3) : KX (.mk k n p ins) = V7 ins := by
 rw [KX, if_neg h1, if_neg h2, if_neg h5, if_neg h3]
theorem Ji5 (ht : t.In R) : ∀ d : Int, 0 ≤ d → chk t d = 0 → WA t = true → PureR Tryz.prog 265 [t.val].toArray (.int .i64 (KX t)) R := by
 induction ht with
 | @mk k n p ins hk hn hl hs hi ih =>
 intro d hd hc hf
 have hsz := vv _ d hd hc hf
 have hb5 := Jcj (show (5 - d).toNat ≤ 5 by omega)
 obtain ⟨hk8, ho, h6, hci⟩ := QZ hc
 rw [WA, Bool.and_eq_true] at hf
 have hne : (k ≠ 4 ∧ k ≠ 6) ∧ k ≠ 8 := by simpa using hf.1
 have hfi := ZO.1 hf.2
 have hsub : ∀ x ∈ ins, 1 ≤ KX x := fun x hx => (vv x (d + 1) m5 (hci x hx) (hfi x hx)).1
 have hone : k = 3 → ins.length = 1 ∧ 1 ≤ n ∧ n ≤ 512 := fun h => by subst h; simp [Km] at ho; omega
 have hbit : k = 5 → 1 ≤ n ∧ n ≤ 512 := fun h => by subst h; simp [Km] at ho; omega
 have hdp : ∀ i, 0 ≤ V7 (ins.drop i) := fun i => Int.le_trans m5 (yg (B := 2251799813685248) (l := ins.drop i) fun x hx => ⟨hsub x (List.mem_of_mem_drop hx), Int.le_trans (vv x (d + 1) m5 (hci x (List.mem_of_mem_drop hx)) (hfi x (List.mem_of_mem_drop hx))).2 (Jcj m5)⟩).1
 refine Jc Tryz.func265 O O fun w => Nj fun r1 => ?_; refine Goc 17 [0] O O (cD (fun g => ?_) fun g => ?_)
 refine Gcq 10 [0] O O (Ni fun w1 hs1 => ?_); rw [KX, if_pos m9]; rfl
 ·refine NO ?_; refine cD (fun g => ?_) fun g => ?_
  refine Ej fun w1 hs1 => ?_; rw [KX, if_neg m9, if_pos m9]; rfl
  ·refine NO ?_; refine cD (fun g => ?_) fun g => ?_
   refine Qy 5 [0] O O (Ew ?_); refine QN O (Jbz m5 m5 m5 (J1 6 O ?_)); refine Ni fun w1 hs1 => ?_; rw [KX, if_neg m9, if_neg m9, if_pos m9]; rfl
   ·refine NO ?_; refine cD (fun g => ?_) fun g => ?_
    refine HS ?_
    obtain ⟨y, hy, hmem⟩ := QD (show 0 < ins.length by have := hone m9; omega)
    have hyn : KX (.mk k n p ins) = n * KX y := by
     have h1 := hone m9
     rw [KX, if_neg m5, if_neg m5, if_neg m5, if_pos m9, show ins = [y] from by
      match ins, h1.1, hy with
      | [z], _, hy => simp at hy; rw [hy], V7, V7, Int.add_zero]
    rw [hyn] at hsz; refine JK 9 m6 m6 ?_
    refine Nx ?_
    refine Nx ?_; refine Ja O O O (Jk (j := 0) O hs O O O O m5) (Ja O O O (KC oR O hs hy O O) (Vt O O O Jsb (ih y hmem (d + 1) m5 (hci y hmem) (hfi y hmem)) oR (Nn ?_))); refine Ks (show _ = Value.int .i64 (n * KX y) from congrArg (Value.int .i64) (wrap_i64 m5 m5)) (NP ?_); refine gy ?_; refine Ni fun w1 hs1 => ?_; rw [hyn]; rfl
    ·refine JC 15 O (Jw (σ := Nat × Int) (fun s => s.1 ≤ ins.length ∧ 0 ≤ s.2 ∧ s.2 + V7 (ins.drop s.1) = V7 ins) (fun s => [(1, .pointer (some ⟨r1, 0, none⟩)), (3, .int .i64 s.2), (4, .int .i64 (s.1 : Int))]) (fun _ => [(r1, .cells #[.int .i64 k, .int .i64 n, KA ins.length p] 84 (0, 0))]) (fun _ _ _ => True) (fun s => ins.length - s.1) (0, 0) ⟨by omega, by omega, by simp⟩ (lK rfl) (List.Sublist.refl _) (fun _ _ h => h) ?_); rintro ⟨i, m⟩ ⟨hi1, hm, hinv⟩; simp only at hinv hi1 hm; refine Gw ?_; refine cD (fun g => ?_) fun g => ?_
     refine FR ?_
     obtain ⟨y, hy, hmem⟩ := QD M1
     have hdi := hdp (i + 1)
     have hyp := hsub y hmem
     rw [VY hy, V7] at hinv; rw [Jay m5 m5 m5 m5] at hsz; refine Qy 5 [0] O O (gg ?_); refine Ji O O O Jsb (ih y hmem (d + 1) m5 (hci y hmem) (hfi y hmem)) oR (QN O (Jb m5 m5 (JH 7 O ?_))); refine Nk ?_; exact Jo (i + 1, m + KX y) ⟨by omega, by simp only; omega, by simp only; omega⟩ mh (lK rfl) (List.Sublist.refl _) (fun _ _ h => h)
     ·refine Hv fun w1 hs1 => ?_; rw [Jay m5 m5 m5 m5, ← hinv, List.drop_of_length_le m5, V7, Int.add_zero]; rfl
theorem WY : VD t = true ↔ chk t 0 = 0 ∧ WA t = true := by unfold VD; simp
theorem zB (ht : t.In R) : PureR Tryz.prog 203 [t.val].toArray (.int .i64 (ZA t)) R := by
 have h1 := ZT ht
 have h2 := Ji5 ht 0 m5
 obtain ⟨k, n, p, ins⟩ := t
 refine Jc Tryz.func203 O O fun w => Nj fun r1 => ?_; refine Gu ?_; refine Ns ?_; refine Ji O O O Jsa h1 oR (ki ?_); refine cD (fun g => ?_) fun g => ?_
 refine Gv fun w1 hs1 => ?_
 simp_all [ZA, JB]
 ·refine gZ ?_; refine Ns ?_; refine Ji O O O Jsb (h2 (WY.1 m9).1 (WY.1 m9).2) oR (DE fun w1 hs1 => ?_)
  simp_all [ZA, JB]
theorem ZU {a a' b' c' d' : Nat} {l : List Bool} {pb' pi' : Pl} {m : List Vl} {k k' : Int} : XQ (.mk a b c d l pb m pi k) (.mk a' b' c' d' l' pb' m' pi' k') = (decide ([a, b, c, d] = [a', b', c', d']) && decide (k = k') && decide (l = l') && Ws m m') := by
 rw [XQ]; rfl
theorem Jxv {l : List Bool} {x y : Bool} (h1 : l[i]? = some x) (h2 : l'[i]? = some y) (h : x ≠ y) : l ≠ l' := fun e => by subst e; rw [h1] at h2; exact h (Option.some.inj h2)
theorem Jxw {l : List Bool} (hl : l.length = l'.length) (hi : l.length ≤ i) (h : ∀ j, j < i → l[j]? = l'[j]?) : l = l' := by
 apply List.ext_getElem?
 intro j
 by_cases hj : j < i
 ·exact h j hj
 ·rw [List.getElem?_eq_none m5, List.getElem?_eq_none m5]
theorem Jxx {m : List Vl} {x y : Vl} (h1 : m[i]? = some x) (h2 : m'[i]? = some y) (h : XQ x y = false) : Ws m m' = false := by
 cases hs : Ws m m' with
 | false => rfl
 | true => rw [(WW.1 hs).2 i x y h1 h2] at h; cases h
theorem Jxy {m : List Vl} (h : m.length ≠ m'.length) : Ws m m' = false := by
 cases hs : Ws m m' with
 | false => rfl
 | true => exact absurd (WW.1 hs).1 h
theorem Wu (n : Nat) : Pure Tryz.prog 103 [uV n].toArray (wV [n, 0, 0, 0]) := by
 refine Jl Tryz.func103 O O fun w => Nj fun r1 => ?_; refine kL ?_; refine kD ?_
 exact Dh
theorem Jxz {l : List Nat} (hl : WOk l) (hi : i < 32) : Pure Tryz.prog 210 [wV l, .int .i64 (i : Int)].toArray (.int .i64 (dg l i : Nat)) := by
 refine Jl Tryz.func210 O O fun w => JJ ?_
 have hg := hl.get (i / 8)
 refine kE ?_; refine DA fun r1 => ?_; refine gY ?_; refine Jbz m5 m5 m5 (DY ?_); refine LR O (Kf O (kn 0 O) O (Kt (by rw [hl.1]; omega))) (ko ?_); refine Jqg m5 (QN O (Jb m5 m5 ?_)); refine QN O (Wp m5 m5 (LR O (jE (n := i % 8 * 8) O O m5 mM m5 (Za _ _)) ?_)); refine QN O (Jq (show _ = Value.int .u64 ((dg l i : Nat) : Int) from congrArg (Value.int .u64) (KT _ 256)) (QN rfl ?_)); refine Jq (show _ = Value.int .i64 ((dg l i : Nat) : Int) from congrArg (Value.int .i64) (wrap_i64 m5 (by have := Jks l i; omega))) ?_; exact NU
theorem Vp {l : List Nat} (hl : WOk l) : Pure Tryz.prog 151 [wV l].toArray (.string (bs (Yw l 32))) := by
 refine Jl Tryz.func151 O O fun w => NH ?_; refine DA fun r1 => ?_; refine JN 15 O (Jw (σ := Nat × List Value × QC) (fun s => s.1 ≤ 32 ∧ s.2.1 = ((Yw l 32).take s.1).map bV ∧ rowOk 1 s.1 s.2.1 s.2.2) (fun s => [(1, .pointer (some ⟨r1, 0, none⟩)), (3, J9 s.1 s.2.2), (4, .int .i64 (31 - (s.1 : Int)))]) (fun s => (r1, .cells (l.map uV).toArray 27 (0, 0)) :: JE 5 s.2.1 s.2.2) (fun _ _ _ => True) (fun s => 32 - s.1) (0, [], none) ⟨by decide, rfl, ⟨rfl, rfl⟩⟩ (lK rfl) (List.Sublist.refl _) (fun _ _ h => h) ?_); rintro ⟨m, xs, row⟩ ⟨hm, hxs, hrow⟩; simp only at hm hxs hrow ⊢; refine Dk ?_; refine cD (fun g => ?_) fun g => ?_
 refine Gq ?_; refine EF ?_; refine Q1 O (Jq (show _ = Value.int .i64 ((31 - m : Nat) : Int) from congrArg (Value.int .i64) m5) (Jn rfl rfl rfl (enters_of Tryz.func210 m6 rfl) (Jxz hl (i := 31 - m) m5) ?_)); refine QN O (Jq (Jcc (Jks l (31 - m))) ?_); refine kj fun r1 => ?_; refine JA (L0 := [_, _]) (xs := xs) (row := row) (n := m) (sz := 1) (b := 1) (news := [_]) (List.perm_append_comm (l₁ := [_, _])) O O O O (kn 0 O) O O O O O m7 O O O m7 hrow m5 m5 fun ra cap sp hra => D8 ?_; refine KU [2, 0] (L' := [_, _]) m7 O ?_; exact Jo (m + 1, xs ++ [bV (UInt8.ofNat (dg l (31 - m)))], some (ra, cap, sp)) ⟨by simp only; omega, by simp only; rw [Jqw l m5, List.map_append, hxs]; rfl, hra⟩ mh (.cons rfl (.cons rfl (.cons (congrArg (fun z => some (Value.int .i64 z)) mh) .nil))) (List.Sublist.refl _) (fun _ _ h => h)
 ·refine gk ?_
  have hm32 : m = 32 := by omega
  subst hm32; rw [List.take_of_length_le (Nat.le_of_eq (Q2 l 32))] at hxs; subst hxs; refine Gy ?_; refine LR O (Kw (b := Yw l 32) (row := row) (e := 5) O hrow (fun p hp => .inl (List.mem_cons_of_mem _ hp)) O O O) ?_; exact NU
theorem Jsf {l : List Nat} (hi : i < 32) : ((List.replicate (32 - i) (0 : UInt8) ++ Yw l i).map bV).set (31 - i) (bV (UInt8.ofNat (dg l i))) = (List.replicate (32 - (i + 1)) 0 ++ Yw l (i + 1)).map bV := by
 rw [← List.map_set, show 32 - i = (31 - i) + 1 from by omega, Jw4, show 32 - (i + 1) = 31 - i from by omega]
 rfl
theorem Vs {l : List Nat} (hl : WOk l) : Pure Tryz.prog 59 [wV l].toArray (.string (bs (Yw l 32))) := by
 refine Jl Tryz.func59 O O fun w => NH ?_; refine DA fun r1 => ?_; refine kL ?_; refine V2 (n := 32) (b := 1) O O O O O O O O O m7 m7 fun r2 => Ht ?_; refine Jw (σ := Nat) (fun i => i ≤ 32) (fun i => [(1, .pointer (some ⟨r1, 0, none⟩)), (3, .slice (some ⟨r2, 0, none⟩) 32 32), (6, .int .i64 (i : Int))]) (fun i => [(r2, .cells ((List.replicate (32 - i) (0 : UInt8) ++ Yw l i).map bV).toArray 5 (0, 0)), (r1, .cells (l.map uV).toArray 27 (0, 0))]) (fun _ _ _ => True) (fun i => 32 - i) 0 (Nat.zero_le _) (lK O) (List.Sublist.refl _) (fun _ _ h => h) ?_; intro i hi; refine NO ?_; refine cD (fun g => ?_) fun g => ?_
 refine Jt 14 O (Ew ?_); refine ko ?_; refine Jbz m5 m5 m5 (DY ?_); refine LR O (Kf O (kn 1 O) O (Kt (by rw [hl.1]; omega))) (ko ?_); refine Jqg m5 (QN O (Jb m5 m5 (LR O (jE (n := i % 8 * 8) O O m5 mM m5 (Za _ _)) ?_))); refine QN O (Jq (show _ = bV (UInt8.ofNat (dg l i)) from yT _) (LR rfl (JO (j := 31 - i) (m := 1) (off' := 31 - i) rfl rfl rfl rfl m5 m5 m5) ?_)); refine KF (k := 0) (off := 31 - i) (xs := (List.replicate (32 - i) (0 : UInt8) ++ Yw l i).map bV) (ys := (List.replicate (32 - (i + 1)) 0 ++ Yw l (i + 1)).map bV) O O O O O O (by simp [Q2]; omega) (Jsf m5) rfl (kL ?_); exact DN
 ·refine gk ?_
  have hi32 : i = 32 := by omega
  subst hi32; refine Gy ?_; refine LR O (Kw (b := Yw l 32) (row := some (r2, 32, [])) (e := 5) O ⟨rfl, rfl⟩ (fun p hp => .inl mz) O O O) ?_; exact NU
theorem Jx0 {b : List Nat} (ha : a.length = 4) (hb : b.length = 4) : PureE (α := Nat × Nat) Tryz.prog 378 [wV a, wV b].toArray (fun p => .func (.func 390) #[] #[.pointer (some ⟨p.1, 0, none⟩), .pointer (some ⟨p.2, 0, none⟩)])
  (fun p => [(p.2, .cells (b.map uV).toArray 27 (0, 0)), (p.1, .cells (a.map uV).toArray 27 (0, 0))]) := by
 refine Kq Tryz.func378 O O fun w => gQ fun r1 r2 => ?_; refine kL ?_; refine kJ ?_; exact gu
def Jsg (a b : List Nat) (i : Nat) : List Value := [.int .i64 (i : Int), .agg [.int .u64 ((a.getD i 0 : Nat) : Int), .int .u64 ((b.getD i 0 : Nat) : Int)].toArray]
theorem Jx1 {b : List Nat} (ha : a.length = 4) (hb : b.length = 4) (p1 p2 : Nat) : ql Tryz.prog 390 [.pointer (some ⟨p1, 0, none⟩), .pointer (some ⟨p2, 0, none⟩)]
    [(p2, .cells (b.map uV).toArray 27 (0, 0)), (p1, .cells (a.map uV).toArray 27 (0, 0))] 0 (nxN (Jsg a b) 4) (xO 4) := by
  refine VA Tryz.func390 O O fun q xids w2 XI XF hY => FA ?_; refine Jw (σ := Nat) (fun i => i ≤ 4) (fun i => [(0, .func (.yield q) #[] #[]), (1, .pointer (some ⟨p1, 0, none⟩)), (2, .pointer (some ⟨p2, 0, none⟩)), (5, .int .i64 (i : Int))]) (fun _ => []) (fun i => XI i) (fun i => 4 - i) 0 (Nat.zero_le _) (lK O) (List.nil_sublist _) (fun _ _ h => h) ?_; intro i hi; refine NO ?_; refine cD (fun g => ?_) fun g => ?_
  · refine JC 11 O (JK 9 m6 m6 (k5 ?_)); refine Nm ?_; refine Ja O O O (JD (j := i) (m := 1) (off' := i) O O O O O m5 m5) (Ja O O O (Kf O (JF (k := 1) O) O (Kt m5)) (Nm ?_)); refine Ja O O O (JD (j := i) (m := 1) (off' := i) O O O O O m5 m5) (Ja O O O (Kf O (JF (k := 0) O) O (Kt m5)) (Ja O O O (Ju (r := [_, _]) O O) (JS (VV (XT := XI (i + 1)) (XF := XF) O O O O (hY i (Jsg a b i) (i + 1) ⟨by omega, rfl, rfl⟩) ?_ ?_))))
    all_goals (
     refine D5 ?_; refine J7 O (fun g => ?_) (fun g => ?_)
     · try exact Bool.noConfusion g
       all_goals try simp only [ZZ] at g
       all_goals (
        exact Nr
        skip)
     · try exact Bool.noConfusion g
       all_goals try simp only [ZZ] at g
       all_goals (
        refine Gz ?_; exact kI
        skip)
     skip)
  · refine gs fun w1 hs1 => ?_
    obtain ⟨xs1, hx1⟩ := hs1.now
    exact ⟨⟨_, rfl⟩, hs1.keep, .inl ⟨i, _, (by show i = 4; omega), hx1⟩⟩
theorem Jx2 {F G : Nat → Nat → Nat → Nat} (C : Car Tryz.prog g F G) {b : List Nat} (ha : WOk a) (hb : WOk b) : Pure Tryz.prog 363 [wV a, wV b, .func (.func g) #[] #[]].toArray (J3l (crR F G a b)) := by
 refine Jl Tryz.func363 O O fun w => gQ fun r1 r2 => ?_; refine LN O fun r3 => KL (cs := (zW.map uV).toArray) O O O O fun r4 => kL ?_; refine KL (cs := (zW.map uV).toArray) O O O O fun r5 => Ge ?_; refine LN O fun r6 => ?_
 refine NQ ?_; refine kL ?_; refine LR O (Jd (xs := a.map uV) (n := 4) O (kn 5 O) O O Mm) (LR O (Jd (xs := b.map uV) (n := 4) O (kn 4 O) O O Mn) (Kj O O O (enters_of Tryz.func378 m6 O) (Jx0 ha.1 hb.1) fun pp => ?_))
 obtain ⟨p1, p2⟩ := pp
 change HL _ _ _ [(p2, _), (p1, _), (r6, _), (r5, _), (r4, _), (r3, _), (r2, _), (r1, _)] _ _ _ _; refine ki ?_; refine Vz [3, 2, 0, 1, 4, 5, 6, 7] m7 O (XN (τ := Unit) (fun i (s : List Nat × Nat) => s = xP F G a b i ∧ i ≤ 4) (fun s => [(r5, .cells (s.1.map uV).toArray 27 (0, 0)), (r6, .cells #[uV s.2] 25 (0, 0))]) (fun _ _ => False) (fun _ => []) [(p2, _), (p1, _), (r4, _), (r3, _), (r2, _), (r1, _)] (zW, 0) O O (enters_of Tryz.func390 m6 O) (Jx1 ha.1 hb.1 p1 p2) mE O ml O ⟨rfl, by decide⟩ ?_ ?_ ?_)
 rintro q Xr Xb w3 i _ _ s ⟨hi, rfl, rfl⟩ ⟨hs, -⟩ Kr hKr; refine inR ?_
 have hs4 : s.1.length = 4 := by rw [hs]; exact jm F G a b i
 have hs1 : s.2 ≤ 1 := by rw [hs]; exact (Jqz C ha hb i).2
 refine Gq ?_; refine LN O fun r1 => ?_
 refine NQ ?_; refine gE ?_; clear hKr; refine Gy ?_; refine LR O (Je O (JF (k := 3) O) O O) ?_
 refine LR O (JD (j := 0) O O O O O my ma) (FT ?_)
 refine LR O (JD (j := 1) O O O O O my ma) (LS 2 [0, 2] O O (LR O (Jwz O O (fun w => C.run (a.getD i 0) (b.getD i 0) s.2 w hs1)) (HO ?_))); refine LR O (JD (j := i) (m := 1) (off' := i) O O O O O m5 m5) (KF (k := 1) (off := i) (xs := s.1.map uV) (ys := (s.1.set i (F (a.getD i 0) (b.getD i 0) s.2)).map uV) O O O O O O (by rw [List.length_map, hs4]; omega) (QU rfl) rfl ?_)
 refine LT 2 O O (J1 2 O (KU [1, 2] (L' := [_, _]) m7 O (Qa (xP F G a b (i + 1)) ⟨rfl, by omega⟩ ?_))); simp only [xP, ← hs]
 rintro D i s hfi ⟨hs, -⟩
 have hi4 : i = 4 := hfi
 subst hi4
 have hs4 : s.1.length = 4 := by rw [hs]; exact jm F G a b 4
 have hcr : crR F G a b = if s.2 = 0 then (s.1, 0) else (zW, 6) := by rw [hs]; rfl
 refine Gqc 9 [2] O O (cD (fun h9 => ?_) fun h9 => ?_)
 refine kE ?_; refine kD ?_
 refine LT 5 O O (gy ?_); refine HK ?_
 (refine Jf O O (.cons (Js (vs := [_, _, _, _]) O (kn 5 O) O O) (.cons (Jh O) .nil)) (fun w1 hs1 => ?_)
  exact ⟨by rw [hcr, if_neg m5]; rfl, hs1.keep⟩)
 refine gZ ?_; refine LR O (Jd (xs := s.1.map uV) (n := 4) O (kn 1 O) O O (by rw [List.length_map, hs4])) (Jj (k := 5) (n := 4) (ys := s.1.map uV) rfl rfl rfl rfl rfl (by rw [List.length_map, hs4]) rfl (by simp [uV, QE, List.all_map, List.all_eq_true]) rfl (gM ?_)); refine HK ?_
 (refine Jf O O (.cons (Js (vs := s.1.map uV) O (kn 5 O) O (by rw [List.length_map, hs4]; rfl)) (.cons (Jh rfl) .nil)) (fun w1 hs1 => ?_)
  exact ⟨by rw [hcr, if_pos m5]; rfl, hs1.keep⟩)
 ·exact Gh
theorem Jx3 : Car Tryz.prog 364 qr jB := by
 refine ⟨fun x y c w hc => ?_, fun x y c => Nat.mod_lt _ m7, fun x y c hx hy hc => ?_⟩
 ·show (callFunc _ #[.int .u64 (x : Int), .int .u64 (y : Int), .int .u64 (c : Int)]).run _ _ = _
  rw [run_callFunc_extern Tryz.func364 m6 m6 m6 (e := sub64Entry) m6, run_sub64 x y c hc]
  rfl
 ·unfold jB; split <;> omega
theorem Ji6 {b : List Nat} (ha : WOk a) (hb : WOk b) : Pure Tryz.prog 336 [wV a, wV b].toArray (J3l (xQ a b)) := by
 refine Jl Tryz.func336 O O fun w => gQ fun r1 r2 => ?_; refine KL (cs := (zW.map uV).toArray) O O O O fun r3 => kL ?_; refine LR O (Jd (xs := a.map uV) (n := 4) O (kn 2 O) O O Mm) (LR O (Jd (xs := b.map uV) (n := 4) O (kn 1 O) O O Mn) (Jn O O O (enters_of Tryz.func363 m6 O) (Jx2 Jx3 ha hb) (ko ?_))); refine EP ?_; refine gM ?_; refine Jf O O (.cons (Js (vs := (xQ a b).1.map uV) O (kn 0 O) O (by rw [List.length_map, show (xQ a b).1.length = 4 from Jce]; rfl)) (.cons (Jh rfl) .nil)) (fun w1 hs1 => ?_); exact No
theorem Jgd {b : List Nat} (ha : WOk a) (hb : WOk b) : Pure Tryz.prog 278 [wV a, wV b].toArray (.bool (Jah a b)) := by
 refine Jl Tryz.func278 O O fun w => gQ fun r1 r2 => ?_; refine Gu ?_; refine E9 ?_; refine LR O (Jkm (xs := a.map uV) (ys := b.map uV) (n := 4) O O O O O m6 Mm Mn (Jag O a) (Jag O b)) (Jq (congrArg Value.bool (Jcd (ha.1.trans hb.1.symm))) (H9 ?_)); refine cD (fun g => ?_) fun g => ?_
 ·refine Gv fun w1 hs1 => ?_
  (have hab : a = b := by assumption
   unfold Jah; simp [JB, hab]; done)
 ·refine gZ ?_; refine E9 ?_; refine Jn O O O (enters_of Tryz.func336 m6 O) (Ji6 ha hb) (HO ?_); refine KL (cs := (zW.map uV).toArray) O O O O fun r3 => EP ?_; refine J1 11 O (Ni fun w1 hs1 => ?_)
  (have hab : ¬ a = b := by assumption
   unfold Jah; simp [JB, hab])
end Go.Proofs.YtfaagelglpgpkaaGreatDoor
namespace Go.Proofs
open Go.Shelf
def Tryz.lays161_ren : Go.Shelf.Ren := ⟨fun | 161 => 260 | 231 => 327 | 227 => 328 | 233 => 329 | 235 => 330 | 228 => 358 | 197 => 359 | 151 => 360 | 260 => 372 | 152 => 373 | 137 => 384 | 119 => 385 | 224 => 386 | 225 => 387 | 217 => 391 | 266 => 392 | n => n, fun | 9 => 9 | 4 => 4 | 3 => 3 | 5 => 5 | 117 => 315 | 116 => 314 | 0 => 0 | 124 => 318 | 105 => 340 | 21 => 21 | 119 => 363 | 46 => 188 | 139 => 366 | 138 => 365 | n => n, fun | 3 => 1 | 4 => 2 | n => n⟩
theorem Tryz.lays161 : Go.Proofs.Lays.n161 Tryz.prog Tryz.lays161_ren := {
 mixed := by kernel_rfl
 f119 := Tryz.func385.trans (congrArg some (by kernel_rfl))
 f137 := Tryz.func384.trans (congrArg some (by kernel_rfl))
 f151 := Tryz.func360.trans (congrArg some (by kernel_rfl))
 f152 := Tryz.func373.trans (congrArg some (by kernel_rfl))
 f161 := Tryz.func260.trans (congrArg some (by kernel_rfl))
 f197 := Tryz.func359.trans (congrArg some (by kernel_rfl))
 f217 := Tryz.func391.trans (congrArg some (by kernel_rfl))
 f224 := Tryz.func386.trans (congrArg some (by kernel_rfl))
 f225 := Tryz.func387.trans (congrArg some (by kernel_rfl))
 f227 := Tryz.func328.trans (congrArg some (by kernel_rfl))
 f228 := Tryz.func358.trans (congrArg some (by kernel_rfl))
 f231 := Tryz.func327.trans (congrArg some (by kernel_rfl))
 f233 := Tryz.func329.trans (congrArg some (by kernel_rfl))
 f235 := Tryz.func330.trans (congrArg some (by kernel_rfl))
 f260 := Tryz.func372.trans (congrArg some (by kernel_rfl))
 f266 := Tryz.func392.trans (congrArg some (by kernel_rfl))
 t0 := Tryz.underlying0
 a0 := Tryz.isAgg0
 z0 := Tryz.sizeOf0
 v0 := Tryz.zeroValue0
 t3 := Tryz.underlying3
 a3 := Tryz.isAgg3
 z3 := Tryz.sizeOf3
 v3 := Tryz.zeroValue3
 t4 := Tryz.underlying4
 a4 := Tryz.isAgg4
 z4 := Tryz.sizeOf4
 v4 := Tryz.zeroValue4
 t5 := Tryz.underlying5
 a5 := Tryz.isAgg5
 z5 := Tryz.sizeOf5
 v5 := Tryz.zeroValue5
 t9 := Tryz.underlying9
 a9 := Tryz.isAgg9
 z9 := Tryz.sizeOf9
 v9 := Tryz.zeroValue9
 t21 := Tryz.underlying21
 a21 := Tryz.isAgg21
 z21 := Tryz.sizeOf21
 v21 := Tryz.zeroValue21
 t46 := Tryz.underlying188
 a46 := Tryz.isAgg188
 z46 := Tryz.sizeOf188
 v46 := Tryz.zeroValue188
 t105 := Tryz.underlying340
 a105 := Tryz.isAgg340
 z105 := Tryz.sizeOf340
 v105 := Tryz.zeroValue340
 t116 := Tryz.underlying314
 a116 := Tryz.isAgg314
 z116 := Tryz.sizeOf314
 t117 := Tryz.underlying315
 a117 := Tryz.isAgg315
 z117 := Tryz.sizeOf315
 v117 := Tryz.zeroValue315
 t119 := Tryz.underlying363
 a119 := Tryz.isAgg363
 z119 := Tryz.sizeOf363
 t124 := Tryz.underlying318
 a124 := Tryz.isAgg318
 z124 := Tryz.sizeOf318
 v124 := Tryz.zeroValue318
 t138 := Tryz.underlying365
 a138 := Tryz.isAgg365
 z138 := Tryz.sizeOf365
 v138 := Tryz.zeroValue365
 t139 := Tryz.underlying366
 a139 := Tryz.isAgg366
 z139 := Tryz.sizeOf366
 v139 := Tryz.zeroValue366
 g3 := by kernel_rfl
 g4 := by kernel_rfl }
open Go.RowKit in
theorem Tryz.strings_TrimLeft_one (s : ByteArray) (c : UInt8) (hc : c.toNat < 128) (w : World) :
  Calls Tryz.prog 260 #[.string s, .string ⟨#[c]⟩] w fun e w' => e = .returned (.string ⟨(Lib.trimLeftB s.data.toList c).toArray⟩) ∧ w' = w := Any.strings_TrimLeft_one Tryz.lays161 s c hc w
def Tryz.lays125_ren : Go.Shelf.Ren := ⟨fun | 125 => 174 | 128 => 234 | 129 => 235 | n => n, fun | 46 => 188 | 3 => 3 | 51 => 261 | 53 => 25 | 4 => 4 | 5 => 5 | 9 => 9 | n => n, fun | n => n⟩
theorem Tryz.lays125 : Go.Proofs.Lays.n125 Tryz.prog Tryz.lays125_ren := {
 mixed := by kernel_rfl
 f125 := Tryz.func174.trans (congrArg some (by kernel_rfl))
 f128 := Tryz.func234.trans (congrArg some (by kernel_rfl))
 f129 := Tryz.func235.trans (congrArg some (by kernel_rfl))
 t3 := Tryz.underlying3
 a3 := Tryz.isAgg3
 z3 := Tryz.sizeOf3
 v3 := Tryz.zeroValue3
 t4 := Tryz.underlying4
 a4 := Tryz.isAgg4
 z4 := Tryz.sizeOf4
 v4 := Tryz.zeroValue4
 t5 := Tryz.underlying5
 a5 := Tryz.isAgg5
 z5 := Tryz.sizeOf5
 v5 := Tryz.zeroValue5
 t9 := Tryz.underlying9
 a9 := Tryz.isAgg9
 z9 := Tryz.sizeOf9
 v9 := Tryz.zeroValue9
 t46 := Tryz.underlying188
 a46 := Tryz.isAgg188
 z46 := Tryz.sizeOf188
 v46 := Tryz.zeroValue188
 t51 := Tryz.underlying261
 a51 := Tryz.isAgg261
 z51 := Tryz.sizeOf261
 v51 := Tryz.zeroValue261
 t53 := Tryz.underlying25
 a53 := Tryz.isAgg25
 z53 := Tryz.sizeOf25
 v53 := Tryz.zeroValue25 }
theorem Tryz.bits_Len (x : Int) (w : World) (h0 : 0 ≤ x) (h1 : x ≤ 18446744073709551615) :
  Calls Tryz.prog 174 #[.int .u64 x] w fun e w' => e = .returned (.int .i64 (Lib.bitLen x.toNat)) ∧ w' = w := Any.bits_Len Tryz.lays125 x w h0 h1
def Tryz.lays189_ren : Go.Shelf.Ren := ⟨fun | 189 => 106 | 125 => 174 | 257 => 173 | 128 => 234 | 129 => 235 | 294 => 225 | 295 => 226 | 296 => 227 | 297 => 228 | 298 => 229 | 299 => 230 | 216 => 231 | 300 => 232 | 301 => 233 | 328 => 307 | 329 => 308 | 330 => 309 | 331 => 310 | 332 => 311 | 215 => 312 | 343 => 347 | n => n, fun | 28 => 92 | 3 => 3 | 46 => 188 | 0 => 0 | 51 => 261 | 53 => 25 | 4 => 4 | 183 => 254 | 182 => 253 | 131 => 258 | 5 => 5 | 9 => 9 | 218 => 293 | 222 => 297 | 228 => 327 | 229 => 328 | n => n, fun | n => n⟩
theorem Tryz.lays189 : Go.Proofs.Lays.n189 Tryz.prog Tryz.lays189_ren := {
 mixed := by kernel_rfl
 f125 := Tryz.func174.trans (congrArg some (by kernel_rfl))
 f128 := Tryz.func234.trans (congrArg some (by kernel_rfl))
 f129 := Tryz.func235.trans (congrArg some (by kernel_rfl))
 f189 := Tryz.func106.trans (congrArg some (by kernel_rfl))
 f215 := Tryz.func312.trans (congrArg some (by kernel_rfl))
 f216 := Tryz.func231.trans (congrArg some (by kernel_rfl))
 f257 := Tryz.func173.trans (congrArg some (by kernel_rfl))
 f294 := Tryz.func225.trans (congrArg some (by kernel_rfl))
 f295 := Tryz.func226.trans (congrArg some (by kernel_rfl))
 f296 := Tryz.func227.trans (congrArg some (by kernel_rfl))
 f297 := Tryz.func228.trans (congrArg some (by kernel_rfl))
 f298 := Tryz.func229.trans (congrArg some (by kernel_rfl))
 f299 := Tryz.func230.trans (congrArg some (by kernel_rfl))
 f300 := Tryz.func232.trans (congrArg some (by kernel_rfl))
 f301 := Tryz.func233.trans (congrArg some (by kernel_rfl))
 f328 := Tryz.func307.trans (congrArg some (by kernel_rfl))
 f329 := Tryz.func308.trans (congrArg some (by kernel_rfl))
 f330 := Tryz.func309.trans (congrArg some (by kernel_rfl))
 f331 := Tryz.func310.trans (congrArg some (by kernel_rfl))
 f332 := Tryz.func311.trans (congrArg some (by kernel_rfl))
 f343 := Tryz.func347.trans (congrArg some (by kernel_rfl))
 t0 := Tryz.underlying0
 a0 := Tryz.isAgg0
 z0 := Tryz.sizeOf0
 v0 := Tryz.zeroValue0
 t3 := Tryz.underlying3
 a3 := Tryz.isAgg3
 z3 := Tryz.sizeOf3
 v3 := Tryz.zeroValue3
 t4 := Tryz.underlying4
 a4 := Tryz.isAgg4
 z4 := Tryz.sizeOf4
 v4 := Tryz.zeroValue4
 t5 := Tryz.underlying5
 a5 := Tryz.isAgg5
 z5 := Tryz.sizeOf5
 v5 := Tryz.zeroValue5
 t9 := Tryz.underlying9
 a9 := Tryz.isAgg9
 z9 := Tryz.sizeOf9
 v9 := Tryz.zeroValue9
 t28 := Tryz.underlying92
 a28 := Tryz.isAgg92
 z28 := Tryz.sizeOf92
 v28 := Tryz.zeroValue92
 t46 := Tryz.underlying188
 a46 := Tryz.isAgg188
 z46 := Tryz.sizeOf188
 v46 := Tryz.zeroValue188
 t51 := Tryz.underlying261
 a51 := Tryz.isAgg261
 z51 := Tryz.sizeOf261
 v51 := Tryz.zeroValue261
 t53 := Tryz.underlying25
 a53 := Tryz.isAgg25
 z53 := Tryz.sizeOf25
 v53 := Tryz.zeroValue25
 t131 := Tryz.underlying258
 a131 := Tryz.isAgg258
 z131 := Tryz.sizeOf258
 v131 := Tryz.zeroValue258
 t182 := Tryz.underlying253
 a182 := Tryz.isAgg253
 z182 := Tryz.sizeOf253
 v182 := Tryz.zeroValue253
 t183 := Tryz.underlying254
 a183 := Tryz.isAgg254
 z183 := Tryz.sizeOf254
 v183 := Tryz.zeroValue254
 t218 := Tryz.underlying293
 a218 := Tryz.isAgg293
 z218 := Tryz.sizeOf293
 v218 := Tryz.zeroValue293
 t222 := Tryz.underlying297
 a222 := Tryz.isAgg297
 z222 := Tryz.sizeOf297
 v222 := Tryz.zeroValue297
 t228 := Tryz.underlying327
 a228 := Tryz.isAgg327
 z228 := Tryz.sizeOf327
 v228 := Tryz.zeroValue327
 t229 := Tryz.underlying328
 a229 := Tryz.isAgg328
 z229 := Tryz.sizeOf328
 v229 := Tryz.zeroValue328 }
open Go.Sort Go.RowKit in
theorem Tryz.slices_Sort_int (blk off cap : Nat) (zs : List Int) (w : World) (hH : Holds (Value.int .i64) w blk off zs.toArray) (hblk : blk < w.heap.size) (hsz : zs.length < 4611686018427387904) :
  Calls Tryz.prog 106 #[.slice (some ⟨blk, off, none⟩) zs.length cap] w fun e w' =>
   e = .returned (.tuple #[]) ∧ ∃ n os, w' = grow (putRow (Value.int .i64) (Sort.ahead w n) blk off (zs.mergeSort fun x y => decide (x ≤ y)).toArray) os := Any.slices_Sort_int Tryz.lays189 blk off cap zs w hH hblk hsz
def Tryz.lays105_ren : Go.Shelf.Ren := ⟨fun | 105 => 189 | 212 => 243 | 99 => 244 | 165 => 245 | 166 => 217 | 170 => 246 | 169 => 219 | 263 => 314 | 264 => 315 | 206 => 316 | 240 => 303 | 241 => 317 | 276 => 345 | 277 => 348 | n => n, fun | 9 => 9 | 3 => 3 | 4 => 4 | 20 => 20 | 0 => 0 | 46 => 188 | 109 => 268 | 5 => 5 | 72 => 243 | 76 => 246 | 51 => 261 | 146 => 300 | 53 => 25 | 148 => 302 | 70 => 241 | 37 => 66 | 75 => 245 | 127 => 292 | 164 => 325 | 80 => 109 | n => n, fun | n => n⟩
theorem Tryz.lays105 : Go.Proofs.Lays.n105 Tryz.prog Tryz.lays105_ren := {
 mixed := by kernel_rfl
 f99 := Tryz.func244.trans (congrArg some (by kernel_rfl))
 f105 := Tryz.func189.trans (congrArg some (by kernel_rfl))
 f165 := Tryz.func245.trans (congrArg some (by kernel_rfl))
 f166 := Tryz.func217.trans (congrArg some (by kernel_rfl))
 f169 := Tryz.func219.trans (congrArg some (by kernel_rfl))
 f170 := Tryz.func246.trans (congrArg some (by kernel_rfl))
 f206 := Tryz.func316.trans (congrArg some (by kernel_rfl))
 f212 := Tryz.func243.trans (congrArg some (by kernel_rfl))
 f240 := Tryz.func303.trans (congrArg some (by kernel_rfl))
 f241 := Tryz.func317.trans (congrArg some (by kernel_rfl))
 f263 := Tryz.func314.trans (congrArg some (by kernel_rfl))
 f264 := Tryz.func315.trans (congrArg some (by kernel_rfl))
 f276 := Tryz.func345.trans (congrArg some (by kernel_rfl))
 f277 := Tryz.func348.trans (congrArg some (by kernel_rfl))
 t0 := Tryz.underlying0
 a0 := Tryz.isAgg0
 z0 := Tryz.sizeOf0
 v0 := Tryz.zeroValue0
 t3 := Tryz.underlying3
 a3 := Tryz.isAgg3
 z3 := Tryz.sizeOf3
 v3 := Tryz.zeroValue3
 t4 := Tryz.underlying4
 a4 := Tryz.isAgg4
 z4 := Tryz.sizeOf4
 v4 := Tryz.zeroValue4
 t5 := Tryz.underlying5
 a5 := Tryz.isAgg5
 z5 := Tryz.sizeOf5
 v5 := Tryz.zeroValue5
 t9 := Tryz.underlying9
 a9 := Tryz.isAgg9
 z9 := Tryz.sizeOf9
 v9 := Tryz.zeroValue9
 t20 := Tryz.underlying20
 a20 := Tryz.isAgg20
 z20 := Tryz.sizeOf20
 v20 := Tryz.zeroValue20
 t37 := Tryz.underlying66
 a37 := Tryz.isAgg66
 z37 := Tryz.sizeOf66
 v37 := Tryz.zeroValue66
 t46 := Tryz.underlying188
 a46 := Tryz.isAgg188
 z46 := Tryz.sizeOf188
 v46 := Tryz.zeroValue188
 t51 := Tryz.underlying261
 a51 := Tryz.isAgg261
 z51 := Tryz.sizeOf261
 v51 := Tryz.zeroValue261
 t53 := Tryz.underlying25
 a53 := Tryz.isAgg25
 z53 := Tryz.sizeOf25
 v53 := Tryz.zeroValue25
 t70 := Tryz.underlying241
 a70 := Tryz.isAgg241
 z70 := Tryz.sizeOf241
 v70 := Tryz.zeroValue241
 t72 := Tryz.underlying243
 a72 := Tryz.isAgg243
 z72 := Tryz.sizeOf243
 v72 := Tryz.zeroValue243
 t75 := Tryz.underlying245
 a75 := Tryz.isAgg245
 z75 := Tryz.sizeOf245
 v75 := Tryz.zeroValue245
 t76 := Tryz.underlying246
 a76 := Tryz.isAgg246
 z76 := Tryz.sizeOf246
 v76 := Tryz.zeroValue246
 t109 := Tryz.underlying268
 a109 := Tryz.isAgg268
 z109 := Tryz.sizeOf268
 v109 := Tryz.zeroValue268
 t127 := Tryz.underlying292
 a127 := Tryz.isAgg292
 z127 := Tryz.sizeOf292
 v127 := Tryz.zeroValue292
 t146 := Tryz.underlying300
 a146 := Tryz.isAgg300
 z146 := Tryz.sizeOf300
 v146 := Tryz.zeroValue300
 t148 := Tryz.underlying302
 a148 := Tryz.isAgg302
 z148 := Tryz.sizeOf302
 v148 := Tryz.zeroValue302
 t164 := Tryz.underlying325
 a164 := Tryz.isAgg325
 z164 := Tryz.sizeOf325
 v164 := Tryz.zeroValue325 }
theorem Tryz.Builder_Extra_105 : Builder.Extra Tryz.prog Tryz.lays105_ren := {
 sizeBuilder := by kernel_rfl
 liesBuilder := by kernel_rfl
 t5 := Tryz.underlying5
 a5 := Tryz.isAgg5
 z5 := Tryz.sizeOf5
 v5 := Tryz.zeroValue5
 infoByte := by kernel_rfl
 cellsByte := by kernel_rfl
 sizeByte := by kernel_rfl
 neB5 := by decide }
open Go.RowKit Go.Lib in
theorem Tryz.strings_Repeat (s : ByteArray) (c : Nat) (w : World) (hc : c ≤ 9223372036854775807) (hlen : s.size * c ≤ 140737488355328) :
  Calls Tryz.prog 189 #[.string s, .int .i64 c] w fun e w' => e = .returned (.string ⟨(Lib.repeatL s.data.toList c).toArray⟩) ∧ Below w.heap.size w w' := Any.strings_Repeat Tryz.lays105 Tryz.Builder_Extra_105 s c w hc hlen
end Go.Proofs
namespace Go.Proofs.YtfaagelglpgpkaaGreatDoor
set_option linter.all false
open Go.SL Go.RowKit Go.Shelf
variable {rt : BS} {g : FuncId} {dp f : Int} {L0 R Rl : Jx} {xs : List AcL} {a : List Nat} {sp vs : List Value} {α : Type} {ys : List α} {b c cap d e e1 e2 i j m off rv sz : Nat} {x y : Operand} {pb pi : Pl} {row : QC} {r : Rec} {s : StL} {t : Ty} {z : Value} {q v : Vl} {w : World}
theorem Jge (s : List UInt8) : Pure Tryz.prog 260 [.string (bs s), .string ⟨#[0]⟩].toArray (.string (bs (Lib.trimLeftB s 0))) := ⟨fun w => by
 have h := Tryz.strings_TrimLeft_one (bs s) 0 m7 w
 refine h.mono fun e w' ⟨h1, h2⟩ => ⟨?_, h2 ▸ Keep.refl _ _⟩
 rw [h1]; simp [bs]⟩
theorem Jaz {n : Nat} (hn : n ≤ 32) : Pure Tryz.prog 189 [.string ⟨#[0]⟩, .int .i64 (n : Int)].toArray (.string (bs (Lib.repeatL [0] n))) := ⟨fun w => by
 have hs : (ByteArray.mk #[0]).size = 1 := rfl
 have h := Tryz.strings_Repeat ⟨#[0]⟩ n w m5 (by rw [hs]; omega)
 refine h.mono fun e w' ⟨h1, h2⟩ => ⟨?_, Keep.of_below h2⟩
 rw [h1]; rfl⟩
def WF (l : List Nat) : List UInt8 := Lib.trimLeftB (Yw l 32) 0
theorem qK {l : List Nat} (hl : WOk l) : Pure Tryz.prog 200 [wV l].toArray (.string (bs (WF l))) := by
 refine Jl Tryz.func200 O O fun w => NH ?_; refine DA fun r1 => ?_; refine kL ?_; refine EF ?_; refine Jn O O O Jf6 (Vs hl) (Jn O O O (enters_of Tryz.func260 m6 O) (Jge (Yw l 32)) ?_); exact NU
theorem Jok {t : List UInt8} (h1 : 0 < t.length) (h2 : ((t.getD 0 0).toNat : Int) = 0) : Lib.trimLeftB (t.drop 1) 0 = Lib.trimLeftB t 0 := by
 match t, h1 with
 | x :: t, _ =>
  have hx : x = 0 := by
   have : x.toNat = 0 := by simpa using h2
   exact UInt8.toNat_inj.1 this
  subst hx
  simp [Lib.trimLeftB]
theorem Jsh {t : List UInt8} (h : ¬ 0 < t.length ∨ ((t.getD 0 0).toNat : Int) ≠ 0) : Lib.trimLeftB t 0 = t := by
 match t, h with
 | [], _ => rfl
 | x :: t, h =>
  have hx : ¬ x = 0 := by
   rintro rfl
   rcases h with h | h
   ·simp at h
   ·simp at h
  simp [Lib.trimLeftB, hx]
theorem Jgf {l : List Nat} (hl : WOk l) : Pure Tryz.prog 204 [wV l].toArray (.string (bs (WF l))) := by
  refine Jl Tryz.func204 O O fun w => NH ?_; refine DA fun r1 => ?_; refine kL ?_; refine EF ?_; refine Jn O O O wv (Vp hl) (JN 5 O (Jw (σ := List UInt8) (fun t => Lib.trimLeftB t 0 = WF l) (fun t => [(3, .string (bs t))]) (fun _ => []) (fun _ _ _ => True) (fun t => t.length) (Yw l 32) O (.cons O .nil) (List.nil_sublist _) (fun _ _ h => h) ?_)); intro t ht; refine gZ ?_; refine F8 ?_
  refine Jv 9 O (fun gb => ?_) (fun gb => ?_) <;> (try simp only [ZZ] at gb) <;> first | (refine Q1 O ?_) | (refine LK O ?_)
  all_goals first | refine LR O (Y5 (j := 0) O O O O m5 O) ?_ | refine LK O ?_
  all_goals (
   refine kp ?_; refine J7 O (fun g => ?_) (fun g => ?_)
   · try exact Bool.noConfusion g
     all_goals try simp only [ZZ] at g
     all_goals (
      refine gn ?_; refine LR O (Y6 (kl := some (.i64, 1)) (kh := none) (m := 1) (n := t.length) O O O O O O m5 m5 (show _ = t.drop 1 from by rw [List.take_length])) (H6 ?_); refine Jr ?_
      first
      | (exfalso; omega)
      | exact Jo (t.drop 1) ((Jok m5 m9).trans ht) N1 (.cons O .nil) (List.nil_sublist _) (fun _ _ h => h)
      skip)
   try simp only [ZZ] at g
   refine Hv fun w1 hs1 => ?_
   have hh : Lib.trimLeftB t 0 = t := Jsh (by first | (left; omega) | (right; assumption))
   rw [← ht, hh]; rfl
   skip)
def Vq (v : Vl) (num bits items pick : Bool) : Bool := (num || decide (v.num = [0, 0, 0, 0])) && (bits || decide (v.bits.length = 0)) && (items || decide (v.items.length = 0)) && (pick || decide (v.pick = 0))
def ofT (k n : Int) (m : Nat) (v : Vl) : Bool :=
 if k = 1 then Vq v true false false false && decide (((WF v.num).length : Int) ≤ n)
 else if k = 2 then Vq v true false false false && (decide (v.num = [0, 0, 0, 0]) || decide (v.num = [1, 0, 0, 0]))
 else if k = 3 then Vq v false false true false && decide ((v.items.length : Int) = n)
 else if k = 4 then Vq v false false true false
 else if k = 5 then Vq v false true false false && decide ((v.bits.length : Int) = n)
 else if k = 6 then Vq v false true false false
 else if k = 7 then Vq v false false true false && decide (v.items.length = m)
 else Vq v false false true true && decide (v.items.length = 1) && decide (0 ≤ v.pick) && decide (v.pick < m)
instance : Inhabited Ty := ⟨.mk 0 0 none []⟩
def W1 (k pick : Int) (i : Nat) : Nat := if k = 7 then i else if k = 8 then pick.toNat else 0
def JT (k pick : Int) (ins : List Ty) (i : Nat) : Ty := ins.getD (W1 k pick i) default
mutual
def Qd : Vl → Ty → Int
 | .mk a b c d bits pb items pi pick, .mk k n p ins => if (k = 4 ∧ n < items.length) ∨ (k = 6 ∧ n < bits.length) then 5 else if ofT k n ins.length (.mk a b c d bits pb items pi pick) = false then 2 else Vh items k pick ins 0
def Vh : List Vl → Int → Int → List Ty → Nat → Int
 | [], _, _, _, _ => 0
 | x :: xs, k, pick, ins, i => if Qd x (JT k pick ins i) = 0 then Vh xs k pick ins (i + 1) else Qd x (JT k pick ins i)
end
theorem Zm {k n : Int} {p : Pl} {ins : List Ty} (hc : chk (.mk k n p ins) dp = 0) (ho : ofT k n ins.length v = true) (hi : i < v.items.length) : W1 k v.pick i < ins.length := by
 obtain ⟨hk, hf, _, _⟩ := QZ hc
 unfold ofT Vq at ho
 unfold Km at hf
 unfold W1
 have h9 : k = 1 ∨ k = 2 ∨ k = 3 ∨ k = 4 ∨ k = 5 ∨ k = 6 ∨ k = 7 ∨ k = 8 := by omega
 have hl : ¬ v.items = [] := fun h => by rw [h] at hi; simp at hi
 rcases h9 with rfl | rfl | rfl | rfl | rfl | rfl | rfl | rfl
 all_goals simp [hl] at ho hf ⊢
 all_goals omega
theorem Qi {k pick : Int} {ins : List Ty} (h : W1 k pick i < ins.length) : ins[W1 k pick i]? = some (JT k pick ins i) ∧ JT k pick ins i ∈ ins := by
 unfold JT
 exact Hd
theorem VE (a b c d : Nat) (bits : List Bool) (pb : Pl) (items : List Vl) (pi : Pl) (pick : Int) (h1 h2 h3 h4 : Bool) : Vq (.mk a b c d bits pb items pi pick) h1 h2 h3 h4 = ((h1 || decide ([a, b, c, d] = [0, 0, 0, 0])) && (h2 || decide (bits.length = 0)) && (h3 || decide (items.length = 0)) && (h4 || decide (pick = 0))) := rfl
theorem VQ (k n : Int) (m a b c d : Nat) (bits : List Bool) (pb : Pl) (items : List Vl) (pi : Pl) (pick : Int) (v : Vl) (hv : v = .mk a b c d bits pb items pi pick) : ofT k n m v =
 if k = 1 then Vq v true false false false && decide (((WF [a, b, c, d]).length : Int) ≤ n)
 else if k = 2 then Vq v true false false false && (decide ([a, b, c, d] = [0, 0, 0, 0]) || decide ([a, b, c, d] = [1, 0, 0, 0]))
 else if k = 3 then Vq v false false true false && decide ((items.length : Int) = n)
 else if k = 4 then Vq v false false true false
 else if k = 5 then Vq v false true false false && decide ((bits.length : Int) = n)
 else if k = 6 then Vq v false true false false
 else if k = 7 then Vq v false false true false && decide (items.length = m)
 else Vq v false false true true && decide (items.length = 1) && decide (0 ≤ pick) && decide (pick < m) := by subst hv; rfl
theorem zC {k n : Int} {p : Pl} {ins : List Ty} {y : Ty} (ht : Ty.In R (.mk k n p ins)) (hv : v.In R) (hi8 : k = 8 → 0 ≤ v.pick) (hy : ins[W1 k v.pick i]? = some y) : PureR Tryz.prog 261 [Ty.val (.mk k n p ins), v.val, .int .i64 (i : Int)].toArray y.val R := by
 cases ht with
 | mk hk hn hlt hst hit =>
 cases hv with
 | @mk a b c d bits pb items pi pick ha hb hc hd hlb hsb hl hs hp hi =>
 have hlt2 := (List.getElem?_eq_some_iff.1 hy).1
 change ins[if k = 7 then i else if k = 8 then pick.toNat else 0]? = some y at hy; change (if k = 7 then i else if k = 8 then pick.toNat else 0) < ins.length at hlt2; change k = 8 → 0 ≤ pick at hi8
 obtain ⟨yk, yn, yp, yi⟩ := y
 refine Jc Tryz.func261 O O fun w => NB fun r1 r2 => ?_; refine LN O fun r3 => Goc 10 [2] O O (cD (fun g => ?_) fun g => ?_)
 refine HS ?_; rw [if_pos m9] at hy hlt2; refine F7 ?_; refine LR O (Jk (j := i) O hst O O O O m5) ?_; exact EU
 ·refine Gcc 10 [2] O O (cD (fun g => ?_) fun g => ?_)
  refine HS ?_; rw [if_neg m9, if_pos m9] at hy hlt2
  have hi9 := hi8 m9
  refine Qy 5 [2, 1] O O (LR O (Jk (j := pick.toNat) O hst O O O m5 m5) ?_); exact EU
  ·refine GU ?_; rw [if_neg m9, if_neg m9] at hy hlt2; refine Qy 3 [2] O O (LR O (Jk (j := 0) O hst O O O O m5) (LR O (KC oR O hst hy O O) ?_))
   refine NQ ?_; refine H6 ?_; refine GI fun w1 hs1 => ?_; exact No
theorem J0s {n : Int} (h : ofT 8 n m v = true) : 0 ≤ v.pick := by
 unfold ofT at h
 simp at h; omega
def VF (t : Ty) (v : Vl) : Int := if chk t 0 = 0 then Qd v t else chk t 0
theorem Jx4 (x y : Bool) : Pure Tryz.prog 375 [.bool x, .bool y].toArray (.bool (x == y)) := by
 refine Jl Tryz.func375 O O fun w => ?_; exact gW
def fV (f : FuncId) : Value := .func (.func f) #[] #[]
theorem Jsi {bits bits' : List Bool} {p p' : Pl} (hl : bits.length ≤ 9223372036854775807) (hl' : bits'.length ≤ 9223372036854775807) (hs : Seg R bits.length (W9 bits) p) (hs' : Seg R bits'.length (W9 bits') p') :
  PureR Tryz.prog 388 [KA bits.length p, KA bits'.length p', fV 375].toArray (.bool (decide (bits = bits'))) R := by
 refine Jc Tryz.func388 O O fun w => kV ?_; refine ND ?_; refine Q1 O (LR O (Jy O hs' O) (JN 3 O ?_)); refine cD (fun g => ?_) fun g => ?_
 ·refine Gv fun w1 hs1 => ?_
  (have hse : bits ≠ bits' := fun e => by subst e; omega
   simp [JB, hse]; done)
 ·refine Gq ?_; refine Dd ?_
  have hlb2 : bits.length = bits'.length := by omega
  refine Jw (σ := Nat) (fun i => i ≤ bits.length ∧ ∀ j, j < i → bits[j]? = bits'[j]?) (fun i => [(1, KA bits'.length p'), (2, fV 375), (15, KA bits.length p), (16, .int .i64 (bits.length : Int)), (17, .int .i64 (i : Int))]) (fun _ => []) (fun _ _ _ => True) (fun i => bits.length - i) 0 ⟨by omega, fun j hj => absurd hj m5⟩ (lK rfl) (List.nil_sublist _) (fun _ _ h => h) ?_; rintro i ⟨hi1, hinv⟩; refine NO ?_; refine cD (fun g => ?_) fun g => ?_
  ·refine gk ?_
   obtain ⟨x, hx, hmx⟩ := QD (show i < bits.length by omega)
   obtain ⟨y, hy, hmy⟩ := QD (show i < bits'.length by omega)
   refine kE ?_; refine Ef ?_; refine LR O (WV oR O hs hx O) (JH 8 O (LR O (Jk (j := i) O hs' O O O O m5) (LR O (WV oR O hs' hy O) (JH 8 O (Jn O O O (enters_of Tryz.func375 m6 O) (Jx4 x y) (ki ?_)))))); refine cD (fun g => ?_) fun g => ?_
   ·refine G5 fun w1 hs1 => ?_
    (have hse : bits ≠ bits' := Jxv hx hy mt
     simp [JB, hse]; done)
   refine Gz ?_
   exact Jo (i + 1) ⟨by omega, fun j hj => by
    rcases Nat.lt_succ_iff_lt_or_eq.1 hj with hj | rfl
    exact hinv j hj
    rw [hx, hy]; simp_all⟩ m5 (lK rfl) (List.nil_sublist _) (fun _ _ h => h)
  ·refine G5 fun w1 hs1 => ?_
   (have hse : bits = bits' := Jxw hlb2 m5 hinv
    simp [JB, hse]; done)
theorem Jsj {items items' : List Vl} {p p' : Pl} (eg : Enters Tryz.prog g) (hg : ∀ x ∈ items, ∀ y ∈ items', PureR Tryz.prog g [x.val, y.val].toArray (.bool (XQ x y)) R) (hl : items.length ≤ 9223372036854775807) (hl' : items'.length ≤ 9223372036854775807) (hs : Seg R items.length (Ql items) p) (hs' : Seg R items'.length (Ql items') p') :
  PureR Tryz.prog 389 [KA items.length p, KA items'.length p', fV g].toArray (.bool (Ws items items')) R := by
 refine Jc Tryz.func389 O O fun w => kV ?_; refine ND ?_; refine Q1 O (LR O (Jy O hs' O) (JN 3 O ?_)); refine cD (fun h4 => ?_) fun h4 => ?_
 ·refine Gv fun w1 hs1 => ?_
  (have hse : Ws items items' = false := Jxy m5
   simp [JB, hse]; done)
 ·refine Gq ?_; refine Dd ?_
  have hl2 : items.length = items'.length := by omega
  refine Jw (σ := Nat) (fun i => i ≤ items.length ∧ ∀ q, q < i → ∀ x y, items[q]? = some x → items'[q]? = some y → XQ x y = true) (fun i => [(1, KA items'.length p'), (2, fV g), (15, KA items.length p), (16, .int .i64 (items.length : Int)), (17, .int .i64 (i : Int))]) (fun _ => []) (fun _ _ _ => True) (fun i => items.length - i) 0 ⟨by omega, fun j hj => absurd hj m5⟩ (lK rfl) (List.nil_sublist _) (fun _ _ h => h) ?_; rintro i ⟨hi1, hinv⟩; refine NO ?_; refine cD (fun h10 => ?_) fun h10 => ?_
  ·refine gk ?_
   obtain ⟨x, hx, hmx⟩ := QD (show i < items.length by omega)
   obtain ⟨y, hy, hmy⟩ := QD (show i < items'.length by omega)
   refine kE ?_; refine Ef ?_; refine LR O (QV oR O hs hx O O) (LN O fun r1 => Q1 O (Jj (k := 0) (n := 7) (ys := x.cells) O O O O O x.len O x.one O (JH 6 O ?_))); refine LR O (Jk (j := i) O hs' O O O O m5) (LR O (QV oR O hs' hy O O) (LN O fun r2 => Jj (k := 0) (n := 7) (ys := y.cells) O O O O O y.len O y.one O (kL ?_))); refine LR O (Jd (xs := x.cells) (n := 7) O (kn 1 O) O O x.len) (LR O (Jd (xs := y.cells) (n := 7) O (kn 0 O) O O y.len) (Ji O O O eg (hg x hmx y hmy) oR (ki ?_))); refine cD (fun h15 => ?_) fun h15 => ?_
   ·refine G5 fun w1 hs1 => ?_
    (have hse : Ws items items' = false := Jxx hx hy m9
     simp [JB, hse]; done)
   refine Gz ?_
   exact Jo (i + 1) ⟨by omega, fun q hq u v hu hv => by
    rcases Nat.lt_succ_iff_lt_or_eq.1 hq with hq | rfl
    exact hinv q hq u v hu hv
    rw [hx] at hu; rw [hy] at hv; cases hu; cases hv; assumption⟩ m5 (lK rfl) (List.nil_sublist _) (fun _ _ h => h)
  ·refine G5 fun w1 hs1 => ?_
   (have hse : Ws items items' = true := WW.2 ⟨hl2, fun q x y hx hy => hinv q (by have := (List.getElem?_eq_some_iff.1 hx).1; omega) x y hx hy⟩
    simp [JB, hse]; done)
theorem Jx5 {v0 v1 v2 v : Value} (h : PureR Tryz.prog 388 [v0, v1, v2].toArray v R) : PureR Tryz.prog 376 [v0, v1, v2].toArray v R := by
 refine Jc Tryz.func376 O O fun w => JJ (Jt 10 O (Ji O O O (enters_of Tryz.func388 m6 O) h oR ?_)); exact NU
theorem Jx6 {v0 v1 v2 v : Value} (h : PureR Tryz.prog 389 [v0, v1, v2].toArray v R) : PureR Tryz.prog 377 [v0, v1, v2].toArray v R := by
 refine Jc Tryz.func377 O O fun w => JJ (Jt 10 O (Ji O O O (enters_of Tryz.func389 m6 O) h oR ?_)); exact NU
theorem J12 {u : Vl} (hu : u.In R) : ∀ v : Vl, v.In R → PureR Tryz.prog 362 [u.val, v.val].toArray (.bool (XQ u v)) R := by
 induction hu with
 | @mk a b c d bits pb items pi pick ha hb hc hd hlb hsb hl hs hp hi ih =>
 intro v hv
 cases hv with
 | @mk a' b' c' d' bits' pb' items' pi' pick' ha' hb' hc' hd' hlb' hsb' hl' hs' hp' hi' =>
 rw [ZU]
 have h1 := Jx5 (Jsi hlb hlb' hsb hsb')
 have h2 := Jx6 (Jsj (enters_of Tryz.func362 m6 rfl) (fun x hx y hy => ih x hx y (hi' y hy)) hl hl' hs hs')
 refine Jc Tryz.func362 O O fun w => NB fun r1 r2 => ?_; refine XG 14 [1, 0] O O (LR O (Jkm O O O O O m6 O O O O) ?_)
 first | (refine Jq (congrArg Value.bool (Jcd (a := [a, b, c, d]) (b := [a', b', c', d']) O)) ?_) | skip
 refine Q1 O ?_
 refine Jv 11 O (fun gb => ?_) (fun gb => ?_) <;> (try simp only [ZZ] at gb) <;> first | (refine LR O (J6 O O O) ?_) | (refine LK O ?_)
 all_goals refine FJ ?_
 all_goals refine NS ?_
 all_goals refine Dc ?_
 all_goals first | refine LK O ?_ | (refine Jv 18 O (fun gb => ?_) (fun gb => ?_) <;> (try simp only [ZZ] at gb) <;> first | (refine LR O (J6 O O O) ?_) | (refine LK O ?_))
 all_goals refine FJ ?_
 all_goals refine NS ?_
 all_goals refine LW 2 [0] O O ?_
 all_goals first | (refine Ji O O O (enters_of Tryz.func376 m6 O) h1 oR ?_) | refine LK O ?_
 all_goals refine Fs ?_
 all_goals first | refine LK O ?_ | (refine Jv 26 O (fun gb => ?_) (fun gb => ?_) <;> (try simp only [ZZ] at gb) <;> first | (refine LR O (J6 O O O) ?_) | (refine LK O ?_))
 all_goals refine FJ ?_
 all_goals refine NS ?_
 all_goals refine HP ?_
 all_goals first | (refine Ji O O O (enters_of Tryz.func377 m6 O) h2 oR ?_) | refine LK O ?_
 all_goals (
  refine g8 fun w1 hs1 => ?_
  simp_all [JB]
  skip)
def kfs : List (Nat × Nat × Nat × Bool) := [(269, 272, 274, false), (275, 277, 279, false), (280, 283, 285, false), (287, 288, 0, true),
 (289, 290, 292, false), (293, 294, 0, true), (295, 296, 297, false), (298, 299, 0, true)]
def kAt (k : Int) : Nat × Nat × Nat × Bool := kfs.getD (k - 1).toNat (0, 0, 0, false)
def isK (k : Int) : Bool := decide (1 ≤ k) && decide (k ≤ 8)
def Jsk (k : Int) : FuncId := (kAt k).1
def ofF (k : Int) : FuncId := (kAt k).2.1
def Jsl (k : Int) : FuncId := (kAt k).2.2.1
def Ji7 (k : Int) : Bool := (kAt k).2.2.2
def fnV (b : Bool) (f : FuncId) : Value := if b then fV f else .nilFunc
def ZV (k : Int) : List Value := [fnV (isK k) (Jsk k), fnV (isK k) (ofF k), fnV (isK k && !Ji7 k) (Jsl k), .bool (Ji7 k)]
def Jc6 (j : Nat) : MapEntry := { key := .int .i64 ((j : Int) + 1), val := .agg (ZV ((j : Int) + 1)).toArray, born := j }
def kMap : Array MapEntry := #[Jc6 0, Jc6 1, Jc6 2, Jc6 3, Jc6 4, Jc6 5, Jc6 6, Jc6 7]
def Jol : Obj := .map kMap 8
theorem ZW : ∀ e ∈ kMap.toList, isI e.key := by
 intro e he; simp only [kMap, List.mem_cons, List.not_mem_nil, or_false] at he
 rcases he with rfl | rfl | rfl | rfl | rfl | rfl | rfl | rfl <;> exact ⟨_, rfl⟩
theorem Jgg (k : Int) : KW ZB (.int .i64 k) (kMap.toList.map V9) = if isK k then some (.agg (ZV k).toArray) else none := by
 by_cases h : 1 ≤ k ∧ k ≤ 8
 ·have : k = 1 ∨ k = 2 ∨ k = 3 ∨ k = 4 ∨ k = 5 ∨ k = 6 ∨ k = 7 ∨ k = 8 := by omega
  rcases this with rfl | rfl | rfl | rfl | rfl | rfl | rfl | rfl <;> rfl
 ·have e : isK k = false := by unfold isK; simp; omega
  rw [e]
  have h1 : k ≠ 1 := by omega
  have h2 : k ≠ 2 := by omega
  have h3 : k ≠ 3 := by omega
  have h4 : k ≠ 4 := by omega
  have h5 : k ≠ 5 := by omega
  have h6 : k ≠ 6 := by omega
  have h7 : k ≠ 7 := by omega
  have h8 : k ≠ 8 := by omega
  simp [kMap, Jc6, V9, KW, Jq7, h1, h2, h3, h4, h5, h6, h7, h8]
theorem Jsm (k : Int) : (if true = true then Value.tuple #[((KW ZB (.int .i64 k) (kMap.toList.map V9)).getD (.agg #[.nilFunc, .nilFunc, .nilFunc, .bool false])), .bool (KW ZB (.int .i64 k) (kMap.toList.map V9)).isSome] else (KW ZB (.int .i64 k) (kMap.toList.map V9)).getD (.agg #[.nilFunc, .nilFunc, .nilFunc, .bool false])) =
  .tuple #[.agg (ZV k).toArray, .bool (isK k)] := by
 rw [Jgg, if_pos rfl]
 cases h : isK k with
 | true => rfl
 | false =>
  have : Ji7 k = false := by
   unfold isK at h
   simp at h
   unfold Ji7 kAt
   by_cases h1 : 1 ≤ k
   ·have := h h1
    rw [List.getD_eq_getElem?_getD, List.getElem?_eq_none (by show 8 ≤ _; omega)]; rfl
   ·have : (k - 1).toNat = 0 := by omega
    rw [this]; rfl
  simp [ZV, fnV, h, this]
theorem ju {k : Int} (h : isK k = true) : (if false = true then Value.tuple #[((KW ZB (.int .i64 k) (kMap.toList.map V9)).getD (.agg #[.nilFunc, .nilFunc, .nilFunc, .bool false])), .bool (KW ZB (.int .i64 k) (kMap.toList.map V9)).isSome] else (KW ZB (.int .i64 k) (kMap.toList.map V9)).getD (.agg #[.nilFunc, .nilFunc, .nilFunc, .bool false])) =
  .agg (ZV k).toArray := by
 rw [Jgg, h]; rfl
theorem qL : PureE (α := Nat) Tryz.prog 212 [].toArray (fun r => .map (some r)) (fun r => [(r, Jol)]) := by
 refine Kq Tryz.func212 O O fun w => E3 ?_; refine yV O O fun mr => kD ?_; refine Qs (q := 0) (key := .int .i64 1) (Yg (t := 3) m6) O O O O O O ⟨_, rfl⟩ (by intro e he; simp at he) rfl rfl ?_; refine kD ?_
 refine Qs (q := 0) (key := .int .i64 2) (Yg (t := 3) m6) O O O O O O ⟨_, rfl⟩ Mw O O (kD ?_)
 refine Qs (q := 0) (key := .int .i64 3) (Yg (t := 3) m6) O O O O O O ⟨_, rfl⟩ Mp O O (kD ?_)
 refine Qs (q := 0) (key := .int .i64 4) (Yg (t := 3) m6) O O O O O O ⟨_, rfl⟩ Mf O O (kD ?_)
 refine Qs (q := 0) (key := .int .i64 5) (Yg (t := 3) m6) O O O O O O ⟨_, rfl⟩ M2 O O (kD ?_)
 refine Qs (q := 0) (key := .int .i64 6) (Yg (t := 3) m6) O O O O O O ⟨_, rfl⟩ nW O O (kD ?_)
 refine Qs (q := 0) (key := .int .i64 7) (Yg (t := 3) m6) O O O O O O ⟨_, rfl⟩ nQ O O (kD ?_)
 refine Qs (q := 0) (key := .int .i64 8) (Yg (t := 3) m6) O O O O O O ⟨_, rfl⟩ nM O O (gy ?_); refine NW fun w1 hs1 => ?_; exact ⟨mr, rfl, hs1⟩
theorem ZX {k n : Int} {p : Pl} {ins : List Ty} (ht : Ty.In R (.mk k n p ins)) : PureR Tryz.prog 270 [Ty.val (.mk k n p ins)].toArray (.bool (decide (ins.length = 0))) R := by
 cases ht with
 | mk hk hn hl hs hi =>
 refine Jc Tryz.func270 O O fun w => Nj fun r1 => ?_; refine FK ?_; refine ND ?_; refine gy ?_; refine NW fun w1 hs1 => ?_; exact ⟨congrArg (fun b => Ending.returned (Value.bool b)) (by rw [Bool.eq_iff_iff]; simp only [beq_iff_eq, decide_eq_true_eq]; omega), hs1.keep⟩
theorem Yq {k n : Int} {p : Pl} {ins : List Ty} (ht : Ty.In R (.mk k n p ins)) : PureR Tryz.prog 276 [Ty.val (.mk k n p ins)].toArray (.bool (decide (n = 0))) R := by
 cases ht with
 | mk hk hn hl hs hi =>
 refine Jc Tryz.func276 O O fun w => Nj fun r1 => ?_; refine Goq 12 [0] O O (Ni fun w1 hs1 => ?_)
 simp_all [JB]
 first | done | rfl | omega | (rw [Bool.eq_iff_iff]; simp only [Bool.and_eq_true, Bool.or_eq_true, decide_eq_true_eq, beq_iff_eq]; omega) | (simp only [decide_eq_true_eq, decide_eq_false_iff_not]; omega)
theorem ww {k n : Int} {p : Pl} {ins : List Ty} (ht : Ty.In R (.mk k n p ins)) : PureR Tryz.prog 282 [Ty.val (.mk k n p ins)].toArray (.bool (decide (1 ≤ n) && decide (n ≤ 512))) R := by
 cases ht with
 | mk hk hn hl hs hi =>
 refine Jc Tryz.func282 O O fun w => Nj fun r1 => ?_; refine XG 9 [0] O O ?_
 refine Jv 6 O (fun gb => ?_) (fun gb => ?_) <;> (try simp only [ZZ] at gb) <;> first | (refine LR O (J6 O O O) ?_) | (refine LK O ?_)
 all_goals (
  refine Fe ?_; refine Ni fun w1 hs1 => ?_
  simp_all [JB]
  all_goals first | done | rfl | omega | (rw [Bool.eq_iff_iff]; simp only [Bool.and_eq_true, Bool.or_eq_true, decide_eq_true_eq, beq_iff_eq]; omega) | (simp only [decide_eq_true_eq, decide_eq_false_iff_not]; omega)
  skip)
theorem ZY {k n : Int} {p : Pl} {ins : List Ty} (ht : Ty.In R (.mk k n p ins)) (most : Int) : PureR Tryz.prog 281 [Ty.val (.mk k n p ins), .int .i64 most].toArray (.bool (decide (1 ≤ ins.length) && decide ((ins.length : Int) ≤ most))) R := by
 cases ht with
 | mk hk hn hl hs hi =>
 refine Jc Tryz.func281 O O fun w => Nj fun r1 => ?_; refine FK ?_; refine ND ?_; refine ko ?_
 refine Jv 9 O (fun gb => ?_) (fun gb => ?_) <;> (try simp only [ZZ] at gb) <;> first | (refine LR O (J6 O O O) ?_) | (refine LK O ?_)
 all_goals refine Np ?_
 all_goals (
  refine LW 4 [] O O (J1 1 O (Xk 2 O ?_)); refine Ni fun w1 hs1 => ?_
  simp_all [JB]
  first | done | rfl | omega | (rw [Bool.eq_iff_iff]; simp only [Bool.and_eq_true, Bool.or_eq_true, decide_eq_true_eq, beq_iff_eq]; omega) | (simp only [decide_eq_true_eq, decide_eq_false_iff_not]; omega)
  skip)
def Jc7 : List Int → Int → Int → Int
 | [], _, _ => -1
 | y :: ys, x, j => if x = y then j else Jc7 ys x (j + 1)
def Jsn (l : List Int) : List Value := l.map (Value.int .i64)
theorem Jx7 {xs : List Int} {p : Pl} (x : Int) (hl : xs.length ≤ 9223372036854775807) (hs : Seg R xs.length (Jsn xs) p) : PureR Tryz.prog 333 [KA xs.length p, .int .i64 x].toArray (.int .i64 (Jc7 xs x 0)) R := by
 refine Jc Tryz.func333 O O fun w => kV ?_; refine Dd ?_; refine Jw (σ := Nat) (fun i => i ≤ xs.length ∧ Jc7 (xs.drop i) x (i : Int) = Jc7 xs x 0) (fun i => [(0, KA xs.length p), (1, .int .i64 x), (7, .int .i64 (xs.length : Int)), (8, .int .i64 (i : Int))]) (fun _ => []) (fun _ _ _ => True) (fun i => xs.length - i) 0 ⟨by omega, rfl⟩ (lK rfl) (List.nil_sublist _) (fun _ _ h => h) ?_; rintro i ⟨hi1, hinv⟩; refine NO ?_; refine cD (fun g => ?_) fun g => ?_
 refine JC 11 O ?_
 obtain ⟨y, hy, hmy⟩ := QD nP
 rw [VY hy, Jc7] at hinv; refine gZ ?_; refine Ef ?_; refine LR O (Qz (v := .int .i64 y) (j := i) oR O hs m5 O (by unfold Jsn; rw [List.getElem?_map, hy]; rfl)) ?_; refine ki ?_; refine cD (fun g => ?_) fun g => ?_
 refine Hv fun w1 hs1 => ?_; rw [← hinv, if_pos m9]; rfl
 refine Gz ?_; exact Jo (i + 1) ⟨by omega, by rw [if_neg m9] at hinv; exact hinv⟩ m5 (lK O) (List.nil_sublist _) (fun _ _ h => h)
 ·refine G5 fun w1 hs1 => ?_; rw [← hinv, List.drop_of_length_le m5, Jc7]; rfl
theorem Ji8 {xs : List Int} {p : Pl} (x : Int) (hl : xs.length ≤ 9223372036854775807) (hs : Seg R xs.length (Jsn xs) p) : PureR Tryz.prog 271 [KA xs.length p, .int .i64 x].toArray (.bool (decide (0 ≤ Jc7 xs x 0))) R := by
 have h := Jx7 x hl hs
 refine Jc Tryz.func271 O O fun w => kV ?_; refine Ji O O O (enters_of Tryz.func333 m6 O) h oR (gy ?_); exact Nz
theorem J5q (n : Int) : decide (0 ≤ Jc7 [1, 2, 4, 8, 32] n 0) = (decide (n = 1) || decide (n = 2) || decide (n = 4) || decide (n = 8) || decide (n = 32)) := by
 simp only [Jc7]
 by_cases h1 : n = 1
 ·simp [h1]
 by_cases h2 : n = 2
 ·simp [h2]
 by_cases h4 : n = 4
 ·simp [h4]
 by_cases h8 : n = 8
 ·simp [h8]
 by_cases h32 : n = 32
 ·simp [h32]
 simp [h1, h2, h4, h8, h32]
theorem F_1 {n : Int} {p : Pl} {ins : List Ty} (ht : Ty.In R (.mk 1 n p ins)) : PureR Tryz.prog 269 [Ty.val (.mk 1 n p ins)].toArray (.bool (Km 1 n ins.length)) R := by
 have hno := ZX ht
 have hpl := Yq ht
 have hro := ww ht
 have hma := fun m => ZY ht m
 cases ht with
 | mk hk hn hl hs hi =>
 refine Jc Tryz.func269 O O fun w => DZ fun r1 => ?_
 refine Jv 5 O (fun gb => ?_) (fun gb => ?_) <;> (try simp only [ZZ] at gb) <;> first | (refine J0 (vs := [_, _, _, _, _]) (zs := [_, _, _, _, _]) (r := [_, _, _, _, _]) O O O O O O O O O mg O fun r2 => ?_) | (refine LK O ?_)
 all_goals refine NS ?_
 all_goals refine FJ ?_
 all_goals first | (refine Ji O O O (enters_of Tryz.func271 m6 O) (Ji8 (R := [(r2, _)]) (xs := [1, 2, 4, 8, 32]) (p := some (⟨r2, 0, none⟩, 5)) n m7 ⟨by decide, fun _ => ⟨rfl, _, _, _, List.mem_cons_self, rfl⟩⟩) (fun q hq => .inl mY) ?_; refine Jq (congrArg Value.bool (J5q n)) ?_) | refine LK O ?_
 all_goals (
  refine g8 fun w1 hs1 => ?_
  unfold Km
  simp_all [JB]
  skip)
theorem F_2 {n : Int} {p : Pl} {ins : List Ty} (ht : Ty.In R (.mk 2 n p ins)) : PureR Tryz.prog 275 [Ty.val (.mk 2 n p ins)].toArray (.bool (Km 2 n ins.length)) R := by
 have hno := ZX ht
 have hpl := Yq ht
 have hro := ww ht
 have hma := fun m => ZY ht m
 cases ht with
 | mk hk hn hl hs hi =>
 refine Jc Tryz.func275 O O fun w => DZ fun r1 => ?_
 refine Jv 5 O (fun gb => ?_) (fun gb => ?_) <;> (try simp only [ZZ] at gb) <;> first | (refine LR O (Jz (vs := [_, _, _]) O (kn 0 O) O O O O) ?_) | (refine LK O ?_)
 all_goals refine Fj ?_
 all_goals (
  refine g8 fun w1 hs1 => ?_
  unfold Km
  simp_all [JB]
  skip)
theorem F_3 {n : Int} {p : Pl} {ins : List Ty} (ht : Ty.In R (.mk 3 n p ins)) : PureR Tryz.prog 280 [Ty.val (.mk 3 n p ins)].toArray (.bool (Km 3 n ins.length)) R := by
 have hno := ZX ht
 have hpl := Yq ht
 have hro := ww ht
 have hma := fun m => ZY ht m
 cases ht with
 | mk hk hn hl hs hi =>
 refine Jc Tryz.func280 O O fun w => gO fun r1 => ?_; refine Ji O O O Jls (hma 1) oR (Q1 O ?_)
 refine Jv 5 O (fun gb => ?_) (fun gb => ?_) <;> (try simp only [ZZ] at gb) <;> first | (refine LR O (Jz (vs := [_, _, _]) O (kn 0 O) O O O O) ?_) | (refine LK O ?_)
 all_goals refine Dq ?_
 all_goals (
  refine g8 fun w1 hs1 => ?_
  unfold Km
  simp_all [JB]
  first | done | rfl | omega | (rw [Bool.eq_iff_iff]; simp only [Bool.and_eq_true, Bool.or_eq_true, decide_eq_true_eq, beq_iff_eq]; omega) | (simp only [decide_eq_true_eq, decide_eq_false_iff_not]; omega)
  skip)
theorem F_4 {n : Int} {p : Pl} {ins : List Ty} (ht : Ty.In R (.mk 4 n p ins)) : PureR Tryz.prog 287 [Ty.val (.mk 4 n p ins)].toArray (.bool (Km 4 n ins.length)) R := by
 have hno := ZX ht
 have hpl := Yq ht
 have hro := ww ht
 have hma := fun m => ZY ht m
 cases ht with
 | mk hk hn hl hs hi =>
 refine Jc Tryz.func287 O O fun w => gO fun r1 => ?_; refine Ji O O O Jls (hma 1) oR (Q1 O ?_)
 refine Jv 5 O (fun gb => ?_) (fun gb => ?_) <;> (try simp only [ZZ] at gb) <;> first | (refine LR O (Jz (vs := [_, _, _]) O (kn 0 O) O O O O) ?_) | (refine LK O ?_)
 all_goals refine Dq ?_
 all_goals (
  refine g8 fun w1 hs1 => ?_
  unfold Km
  simp_all [JB]
  first | done | rfl | omega | (rw [Bool.eq_iff_iff]; simp only [Bool.and_eq_true, Bool.or_eq_true, decide_eq_true_eq, beq_iff_eq]; omega) | (simp only [decide_eq_true_eq, decide_eq_false_iff_not]; omega)
  skip)
theorem F_5 {n : Int} {p : Pl} {ins : List Ty} (ht : Ty.In R (.mk 5 n p ins)) : PureR Tryz.prog 289 [Ty.val (.mk 5 n p ins)].toArray (.bool (Km 5 n ins.length)) R := by
 have hno := ZX ht
 have hpl := Yq ht
 have hro := ww ht
 have hma := fun m => ZY ht m
 cases ht with
 | mk hk hn hl hs hi =>
 refine Jc Tryz.func289 O O fun w => DZ fun r1 => ?_
 refine Jv 5 O (fun gb => ?_) (fun gb => ?_) <;> (try simp only [ZZ] at gb) <;> first | (refine LR O (Jz (vs := [_, _, _]) O (kn 0 O) O O O O) ?_) | (refine LK O ?_)
 all_goals refine Dq ?_
 all_goals (
  refine g8 fun w1 hs1 => ?_
  unfold Km
  simp_all [JB]
  skip)
theorem F_6 {n : Int} {p : Pl} {ins : List Ty} (ht : Ty.In R (.mk 6 n p ins)) : PureR Tryz.prog 293 [Ty.val (.mk 6 n p ins)].toArray (.bool (Km 6 n ins.length)) R := by
 have hno := ZX ht
 have hpl := Yq ht
 have hro := ww ht
 have hma := fun m => ZY ht m
 cases ht with
 | mk hk hn hl hs hi =>
 refine Jc Tryz.func293 O O fun w => DZ fun r1 => ?_
 refine Jv 5 O (fun gb => ?_) (fun gb => ?_) <;> (try simp only [ZZ] at gb) <;> first | (refine LR O (Jz (vs := [_, _, _]) O (kn 0 O) O O O O) ?_) | (refine LK O ?_)
 all_goals refine Dq ?_
 all_goals (
  refine g8 fun w1 hs1 => ?_
  unfold Km
  simp_all [JB]
  skip)
theorem F_7 {n : Int} {p : Pl} {ins : List Ty} (ht : Ty.In R (.mk 7 n p ins)) : PureR Tryz.prog 295 [Ty.val (.mk 7 n p ins)].toArray (.bool (Km 7 n ins.length)) R := by
 have hno := ZX ht
 have hpl := Yq ht
 have hro := ww ht
 have hma := fun m => ZY ht m
 cases ht with
 | mk hk hn hl hs hi =>
 refine Jc Tryz.func295 O O fun w => gO fun r1 => ?_; refine Ji O O O Jls (hma 16) oR (Q1 O ?_)
 refine Jv 5 O (fun gb => ?_) (fun gb => ?_) <;> (try simp only [ZZ] at gb) <;> first | (refine LR O (Jz (vs := [_, _, _]) O (kn 0 O) O O O O) ?_) | (refine LK O ?_)
 all_goals refine Fj ?_
 all_goals (
  refine g8 fun w1 hs1 => ?_
  unfold Km
  simp_all [JB]
  first | done | rfl | omega | (rw [Bool.eq_iff_iff]; simp only [Bool.and_eq_true, Bool.or_eq_true, decide_eq_true_eq, beq_iff_eq]; omega) | (simp only [decide_eq_true_eq, decide_eq_false_iff_not]; omega)
  skip)
theorem F_8 {n : Int} {p : Pl} {ins : List Ty} (ht : Ty.In R (.mk 8 n p ins)) : PureR Tryz.prog 298 [Ty.val (.mk 8 n p ins)].toArray (.bool (Km 8 n ins.length)) R := by
 have hno := ZX ht
 have hpl := Yq ht
 have hro := ww ht
 have hma := fun m => ZY ht m
 cases ht with
 | mk hk hn hl hs hi =>
 refine Jc Tryz.func298 O O fun w => gO fun r1 => ?_; refine Ji O O O Jls (hma 8) oR (Q1 O ?_)
 refine Jv 5 O (fun gb => ?_) (fun gb => ?_) <;> (try simp only [ZZ] at gb) <;> first | (refine LR O (Jz (vs := [_, _, _]) O (kn 0 O) O O O O) ?_) | (refine LK O ?_)
 all_goals refine Fj ?_
 all_goals (
  refine g8 fun w1 hs1 => ?_
  unfold Km
  simp_all [JB]
  first | done | rfl | omega | (rw [Bool.eq_iff_iff]; simp only [Bool.and_eq_true, Bool.or_eq_true, decide_eq_true_eq, beq_iff_eq]; omega) | (simp only [decide_eq_true_eq, decide_eq_false_iff_not]; omega)
  skip)
theorem Xh {k : Int} : isK k = true ↔ 1 ≤ k ∧ k ≤ 8 := by unfold isK; simp
theorem J3v {k n : Int} {p : Pl} {ins : List Ty} (ht : Ty.In R (.mk k n p ins)) (h : isK k = true) : Enters Tryz.prog (Jsk k) ∧ PureR Tryz.prog (Jsk k) [Ty.val (.mk k n p ins)].toArray (.bool (Km k n ins.length)) R := by
 have := Xh.1 h
 have : k = 1 ∨ k = 2 ∨ k = 3 ∨ k = 4 ∨ k = 5 ∨ k = 6 ∨ k = 7 ∨ k = 8 := by omega
 rcases this with rfl | rfl | rfl | rfl | rfl | rfl | rfl | rfl
 ·exact ⟨enters_of Tryz.func269 m6 O, F_1 ht⟩
 ·exact ⟨enters_of Tryz.func275 m6 O, F_2 ht⟩
 ·exact ⟨enters_of Tryz.func280 m6 O, F_3 ht⟩
 ·exact ⟨enters_of Tryz.func287 m6 O, F_4 ht⟩
 ·exact ⟨enters_of Tryz.func289 m6 O, F_5 ht⟩
 ·exact ⟨enters_of Tryz.func293 m6 O, F_6 ht⟩
 ·exact ⟨enters_of Tryz.func295 m6 O, F_7 ht⟩
 ·exact ⟨enters_of Tryz.func298 m6 O, F_8 ht⟩
theorem Ji9 (k : Int) : (ZV k).all QE = true := by
 unfold ZV fnV
 cases isK k <;> cases Ji7 k <;> rfl
theorem jv {k : Int} (h : isK k = false) : k < 1 ∨ 8 < k := by unfold isK at h; simp at h; omega
theorem Jlw {b : Bool} {f : FuncId} (h : b = true) : fnV b f = .func (.func f) #[] #[] := by rw [h]; rfl
theorem Jlx {k : Int} (h : isK k = true) : Ji7 k = (decide (k = 4) || decide (k = 6) || decide (k = 8)) := by
 have := Xh.1 h
 have : k = 1 ∨ k = 2 ∨ k = 3 ∨ k = 4 ∨ k = 5 ∨ k = 6 ∨ k = 7 ∨ k = 8 := by omega
 rcases this with rfl | rfl | rfl | rfl | rfl | rfl | rfl | rfl <;> rfl
theorem Jx8 (ht : t.In R) : ∀ d : Int, 0 ≤ d → d ≤ 1000 → PureR Tryz.prog 211 [t.val, .int .i64 d].toArray (.int .i64 (chk t d)) R := by
  induction ht with
  | @mk k n p ins hk hn hl hs hi ih =>
  intro d hd0 hd1
  have hF := fun h => J3v (.mk hk hn hl hs hi : Ty.In R (.mk k n p ins)) h
  refine Jc Tryz.func211 O O fun w => Nj fun r1 => ?_; refine Gb ?_
  refine JI [] [(0, .grow (KD 0 (fun r : Nat => Value.map (some r)) (fun r => [(r, Jol)]))), (1, .pure), (4, .pure), (5, .pure), (6, .pure), (7, .grow (Vu vr (.cells #[.nilFunc, .nilFunc, .nilFunc, .bool false] 235 (0, 0)))), (8, .turn), (9, .pure)] 10 [1, 2, 0, 3, 4, 5, 6, 7, 8, 9] m6 m6 m8 ?_
  refine NJ ?_; refine XH (k := 0) O O O O O Jf9 qL fun mr => JY (k := 3) O O O O O (XO (Yg (t := 3) m6) O O (kn 0 O) O O ⟨_, rfl⟩ ZW (Jsm k)) (kq ?_); refine VZ (k := 7) (cs := #[_, _, _, _]) O O O O O O fun r2 => ?_
  refine Vk (k := 8) (q := 0) (n := 4) (ys := ZV k) O O O O O O O O O (Ji9 k) mF (by first | exact (fun _ h => nomatch h) | simp [SubS]) ?_; refine gm ?_; refine Ka ?_; refine JN 11 O ?_; refine cD (fun g => ?_) fun g => ?_
  refine Ej fun w1 hs1 => ?_; rw [chk, if_pos (jv m9)]; rfl
  · refine gp ?_; refine Jq (Jlw m9) (LR O (Jz (vs := [_, _, _]) O (kn 2 O) O O O O) (Ji O O O (hF m9).1 (hF m9).2 oR (Gb ?_))); refine cD (fun g => ?_) fun g => ?_
    refine Ej fun w1 hs1 => ?_
    first
      | (rw [chk, if_pos (jv m9)]; rfl)
      | (have hkk := Xh.1 m9
         rw [chk, if_neg m5]
         first
         | (rw [if_pos m9]; rfl)
         | (rw [if_neg mt, if_pos m5]; rfl)
         | (rw [if_neg mt, if_neg m5, ← hinv, if_neg m9]; rfl)
         | (rw [if_neg mt, if_neg m5, ← hinv, List.drop_of_length_le m5, Xx]; rfl))
    · refine Dk ?_; refine cD (fun g => ?_) fun g => ?_
      refine Ej fun w1 hs1 => ?_
      first
        | (rw [chk, if_pos (jv m9)]; rfl)
        | (have hkk := Xh.1 m9
           rw [chk, if_neg m5]
           first
           | (rw [if_pos m9]; rfl)
           | (rw [if_neg mt, if_pos m5]; rfl)
           | (rw [if_neg mt, if_neg m5, ← hinv, if_neg m9]; rfl)
           | (rw [if_neg mt, if_neg m5, ← hinv, List.drop_of_length_le m5, Xx]; rfl))
      · refine Qy 8 [2] O O (Dd ?_); refine Jw (σ := Nat) (fun i => i ≤ ins.length ∧ Xx (ins.drop i) (d + 1) = Xx ins (d + 1)) (fun i => [(1, .int .i64 d), (30, KA ins.length p), (31, .int .i64 (ins.length : Int)), (32, .int .i64 (i : Int))]) (fun _ => []) (fun _ _ _ => True) (fun i => ins.length - i) 0 ⟨by omega, rfl⟩ (lK rfl) (List.nil_sublist _) (fun _ _ h => h) ?_; rintro i ⟨hi1, hinv⟩; refine NO ?_; refine cD (fun g => ?_) fun g => ?_
        refine gk ?_
        obtain ⟨y, hy, hmem⟩ := QD M1
        rw [VY hy, Xx] at hinv; refine HY ?_; refine gg ?_; refine LN O fun r3 => DF ?_; refine ko ?_; refine Ew ?_; refine Ji O O O (enters_of Tryz.func211 m6 O) (ih y hmem (d + 1) m5 m5) oR (H2 ?_); refine cD (fun g => ?_) fun g => ?_
        refine Hv fun w1 hs1 => ?_
        first
          | (rw [chk, if_pos (jv m9)]; rfl)
          | (have hkk := Xh.1 m9
             rw [chk, if_neg m5]
             first
             | (rw [if_pos m9]; rfl)
             | (rw [if_neg mt, if_pos m5]; rfl)
             | (rw [if_neg mt, if_neg m5, ← hinv, if_neg m9]; rfl)
             | (rw [if_neg mt, if_neg m5, ← hinv, List.drop_of_length_le m5, Xx]; rfl))
        refine Gz ?_; exact Jo (i + 1) ⟨by omega, by rw [if_pos m9] at hinv; exact hinv⟩ m5 (lK O) (List.nil_sublist _) (fun _ _ h => h)
        · refine G5 fun w1 hs1 => ?_
          (have hkk := Xh.1 m9
           rw [chk, if_neg m5]
           first
           | (rw [if_pos m9]; rfl)
           | (rw [if_neg mt, if_pos m5]; rfl)
           | (rw [if_neg mt, if_neg m5, ← hinv, if_neg m9]; rfl)
           | (rw [if_neg mt, if_neg m5, ← hinv, List.drop_of_length_le m5, Xx]; rfl))
theorem Jly (ht : t.In R) : PureR Tryz.prog 157 [t.val].toArray (.int .i64 (chk t 0)) R := by
 have h1 := Jx8 ht 0 m5 m5
 obtain ⟨k, n, p, ins⟩ := t
 refine Jc Tryz.func157 O O fun w => gO fun r1 => ?_; refine Ji O O O (enters_of Tryz.func211 m6 O) h1 oR ?_; exact NU
def Jgh {α : Type} (b : α → Bool) : List α → Int → Int
 | [], _ => -1
 | y :: ys, j => if b y = true then j else Jgh b ys (j + 1)
theorem Jgi {α : Type} {b : α → Bool} : ∀ {l : List α} {j : Int}, 0 ≤ j → decide (0 ≤ Jgh b l j) = l.any b
 | [], _, _ => rfl
 | y :: ys, j, h => by
  rw [Jgh, List.any_cons]
  split
  ·rename_i hb; rw [hb]; simp [h]
  ·rename_i hb; rw [Jgi m5]; simp [hb]
theorem Jc8 {ins : List Ty} {p : Pl} {b : Ty → Bool} (eg : Enters Tryz.prog g) (hg : ∀ x ∈ ins, PureR Tryz.prog g [x.val].toArray (.bool (b x)) R) (hl : ins.length ≤ 9223372036854775807) (hs : Seg R ins.length (Jci ins) p) :
  PureR Tryz.prog 381 [KA ins.length p, fV g].toArray (.int .i64 (Jgh b ins 0)) R := by
 refine Jc Tryz.func381 O O fun w => kV ?_; refine Dd ?_; refine Jw (σ := Nat) (fun i => i ≤ ins.length ∧ Jgh b (ins.drop i) (i : Int) = Jgh b ins 0) (fun i => [(0, KA ins.length p), (1, fV g), (7, .int .i64 (ins.length : Int)), (8, .int .i64 (i : Int))]) (fun _ => []) (fun _ _ _ => True) (fun i => ins.length - i) 0 ⟨by omega, rfl⟩ (lK rfl) (List.nil_sublist _) (fun _ _ h => h) ?_; rintro i ⟨hi1, hinv⟩; refine NO ?_; refine cD (fun h6 => ?_) fun h6 => ?_
 refine JC 11 O ?_
 obtain ⟨y, hy, hmem⟩ := QD M1
 rw [VY hy, Jgh] at hinv; refine gZ ?_; refine gg ?_; refine Ji O O O eg (hg y hmem) oR (H9 ?_); refine cD (fun h10 => ?_) fun h10 => ?_
 refine Hv fun w1 hs1 => ?_; rw [← hinv, if_pos m9]; rfl
 refine Gz ?_; exact Jo (i + 1) ⟨by omega, by rw [if_neg mt] at hinv; exact hinv⟩ m5 (lK O) (List.nil_sublist _) (fun _ _ h => h)
 ·refine G5 fun w1 hs1 => ?_; rw [← hinv, List.drop_of_length_le m5, Jgh]; rfl
theorem wK {ins : List Ty} {p : Pl} {b : Ty → Bool} (eg : Enters Tryz.prog g) (hg : ∀ x ∈ ins, PureR Tryz.prog g [x.val].toArray (.bool (b x)) R) (hl : ins.length ≤ 9223372036854775807) (hs : Seg R ins.length (Jci ins) p) :
  PureR Tryz.prog 368 [KA ins.length p, fV g].toArray (.bool (ins.any b)) R := by
 have h := Jc8 (b := b) eg hg hl hs
 rw [← Jgi (b := b) (l := ins) (Int.le_refl 0)]; refine Jc Tryz.func368 O O fun w => kV ?_; refine Ji O O O (enters_of Tryz.func381 m6 O) h oR (gy ?_); exact Nz
theorem Jlz : ∀ ins : List Ty, (ins.any fun x => !WA x) = !ZN ins
 | [] => rfl
 | x :: xs => by rw [List.any_cons, Jlz xs, ZN, Bool.not_and]
theorem Jx9 (ht : t.In R) : ∀ d : Int, chk t d = 0 → PureR Tryz.prog 346 [t.val].toArray (.bool (WA t)) R := by
 induction ht with
 | @mk k n p ins hk hn hl hs hi ih =>
 intro d hc
 obtain ⟨hk8, ho, h6, hci⟩ := QZ hc
 have hkk := Xh.2 hk8
 have hcl : ∀ x ∈ ins, PureR Tryz.prog 369 [x.val].toArray (.bool (!WA x)) R := fun x hx => by
  have h1 := ih x hx (d + 1) (hci x hx)
  obtain ⟨xk, xn, xp, xi⟩ := x
  refine Jc Tryz.func369 O O fun w => gO fun r1 => ?_; refine Ji O O O (enters_of Tryz.func346 m6 O) h1 oR (gy ?_); exact Nz
 have hany := wK (b := fun x => !WA x) (enters_of Tryz.func369 m6 rfl) hcl hl hs
 rw [Jlz] at hany
 have hvb := Jlx hkk
 rw [WA]; refine Jc Tryz.func346 O O fun w => Nj fun r1 => ?_; refine Gb ?_
 refine JI [] [(0, .grow (KD 0 (fun r : Nat => Value.map (some r)) (fun r => [(r, Jol)]))), (1, .pure), (4, .pure), (5, .pure), (6, .pure), (7, .pure), (10, .pure), (11, .pure), (12, .pure)] 13 [1, 2, 0, 3, 4, 5, 6, 7, 8, 9, 10, 11, 12] m6 m6 m8 ?_
 refine NJ ?_; refine NZ fun mr => ?_; refine Jm (k := 5) O O O O O (fun _ hS => (J2 O O O)) (Fo ?_)
 refine Jw9 9 O (fun gb => ?_) (fun gb => ?_) <;> (try simp only [ZZ] at gb) <;> first | (refine Jm (k := 7) O O O O O (fun _ hS => (J6 O O O)) ?_) | (refine yh (k := 7) O O O O ?_)
 all_goals first | refine JY (k := 8) O O O O O (Je O (kn 1 O) O O) ?_ | refine yh (k := 8) O O O O ?_
 all_goals first | (refine JW (k := 9) O O O O O (enters_of Tryz.func368 m6 O) hany oR ?_) | refine yh (k := 9) O O O O ?_
 all_goals first | refine Jm (k := 10) O O O O O (fun _ hS => (J2 O O O)) ?_ | refine yh (k := 10) O O O O ?_
 all_goals first | refine Jm (k := 11) O O O O O (fun _ hS => (W3 O O)) ?_ | refine Jm (k := 11) O O O O O (fun _ hS => (W5 O O)) ?_
 all_goals (
  refine Jm (k := 12) O O O O O (fun _ hS => (J8 O)) (Ka (J1 1 O (Xk 2 O ?_))); refine Ni fun w1 hs1 => ?_
  simp_all [JB]
  all_goals first | done | (intros; omega)
  skip)
theorem Jl0 (ht : t.In R) : PureR Tryz.prog 304 [t.val].toArray (.bool (VD t)) R := by
 have h1 := Jly ht
 have h2 := Jx9 ht 0
 obtain ⟨k, n, p, ins⟩ := t
 refine Jc Tryz.func304 O O fun w => gO fun r1 => ?_; refine Ji O O O (enters_of Tryz.func157 m6 O) h1 oR (ko ?_)
 refine Jv 6 O (fun gb => ?_) (fun gb => ?_) <;> (try simp only [ZZ] at gb) <;> first | (refine LR O (Jz (vs := [_, _, _]) O (kn 0 O) O O O O) ?_) | (refine LK O ?_)
 all_goals first | (refine Ji O O O (enters_of Tryz.func346 m6 O) (h2 m9) oR ?_) | refine LK O ?_
 all_goals (
  refine g8 fun w1 hs1 => ?_
  simp_all [VD, JB]
  skip)
theorem Jya {k n : Int} {p : Pl} {ins : List Ty} (ht : Ty.In R (.mk k n p ins)) (hsub : ∀ x ∈ ins, PureR Tryz.prog 305 [x.val].toArray (.int .i64 (KX x)) R) (hpos : ∀ x ∈ ins, 1 ≤ KX x) (hb : V7 ins ≤ 2251799813685248) :
  PureR Tryz.prog 286 [Ty.val (.mk k n p ins)].toArray (.int .i64 (V7 ins)) R := by
 cases ht with
 | mk hk hn hl hs hi =>
 have hdp : ∀ i, 0 ≤ V7 (ins.drop i) := fun i => by
  have : ∀ l : List Ty, (∀ x ∈ l, 1 ≤ KX x) → 0 ≤ V7 l := by
   intro l
   induction l with
   | nil => intro _; rw [V7]; omega
   | cons x xs ih => intro h; rw [V7]; have h1 := h x ml; have h2 := ih fun y hy => h y (by simp [hy]); omega
  exact this _ fun x hx => hpos x (List.mem_of_mem_drop hx)
 refine Jc Tryz.func286 O O fun w => Nj fun r1 => ?_; refine XG 13 [0] O O (Dd ?_); refine Jw (σ := Nat × Int) (fun s => s.1 ≤ ins.length ∧ 0 ≤ s.2 ∧ s.2 + V7 (ins.drop s.1) = V7 ins) (fun s => [(3, .int .i64 s.2), (7, KA ins.length p), (8, .int .i64 (ins.length : Int)), (9, .int .i64 (s.1 : Int))]) (fun _ => []) (fun _ _ _ => True) (fun s => ins.length - s.1) (0, 0) ⟨by omega, by omega, by simp⟩ (lK rfl) (List.nil_sublist _) (fun _ _ h => h) ?_; rintro ⟨i, m⟩ ⟨hi1, hm, hinv⟩; simp only at hinv hi1 hm; refine NO ?_; refine cD (fun g => ?_) fun g => ?_
 refine gk ?_
 obtain ⟨y, hy, hmem⟩ := QD M1
 have hdi := hdp (i + 1)
 have hyp := hpos y hmem
 rw [VY hy, V7] at hinv; refine HY ?_; refine gg ?_; refine LN O fun r2 => DF ?_; refine Ji O O O (enters_of Tryz.func305 m6 O) (hsub y hmem) oR (QN O (Jb m5 m5 (JH 6 O ?_))); refine Nk ?_; exact Jo (i + 1, m + KX y) ⟨by omega, by simp only; omega, by simp only; omega⟩ mh (lK rfl) (List.nil_sublist _) (fun _ _ h => h)
 ·refine Hv fun w1 hs1 => ?_; rw [← hinv, List.drop_of_length_le m5, V7, Int.add_zero]; rfl
theorem Jso {k n : Int} {p : Pl} {ins : List Ty} {d : Int} (hd : 0 ≤ d) (hc : chk (.mk k n p ins) d = 0) (hf : WA (.mk k n p ins) = true) : (∀ x ∈ ins, 1 ≤ KX x) ∧ V7 ins ≤ 2251799813685248 ∧ (k = 3 → 0 ≤ n * V7 ins ∧ n * V7 ins ≤ 2251799813685248) := by
 have hsz := vv _ d hd hc hf
 have hb5 := Jcj (show (5 - d).toNat ≤ 5 by omega)
 obtain ⟨hk8, ho, h6, hci⟩ := QZ hc
 rw [WA, Bool.and_eq_true] at hf
 have hfi := ZO.1 hf.2
 have hsub : ∀ x ∈ ins, 1 ≤ KX x ∧ KX x ≤ bnd (5 - (d + 1)).toNat := fun x hx => vv x (d + 1) m5 (hci x hx) (hfi x hx)
 have hL := yg hsub
 refine ⟨fun x hx => (hsub x hx).1, ?_, fun h3 => ?_⟩
 ·by_cases he : ins = []
  ·subst he; rw [V7]; omega
  ·have hd5 : d < 5 := by
    obtain ⟨x, hx⟩ := List.exists_mem_of_ne_nil _ he
    cases x with
    | mk a b c e => have := (QZ (hci _ hx)).2.2.1; omega
   have hlen : ins.length ≤ 16 := by
    have h9 : k = 1 ∨ k = 2 ∨ k = 3 ∨ k = 4 ∨ k = 5 ∨ k = 6 ∨ k = 7 ∨ k = 8 := by omega
    unfold Km at ho
    rcases h9 with rfl | rfl | rfl | rfl | rfl | rfl | rfl | rfl <;> simp [he] at ho <;> omega
   have e : (5 - d).toNat = (5 - (d + 1)).toNat + 1 := by omega
   rw [e, bnd] at hb5
   have hb2 := yf (5 - (d + 1)).toNat
   generalize bnd (5 - (d + 1)).toNat = B at *
   exact EY
 ·subst h3
  have : KX (.mk 3 n p ins) = n * V7 ins := by rw [KX, if_neg m7, if_neg m7, if_neg m7, if_pos rfl]
  rw [this] at hsz; omega
theorem J3w {k n : Int} {p : Pl} {ins : List Ty} {d : Int} (ht : Ty.In R (.mk k n p ins)) (hd : 0 ≤ d) (hc : chk (.mk k n p ins) d = 0) (hf : WA (.mk k n p ins) = true)
  (hsub : ∀ x ∈ ins, PureR Tryz.prog 305 [x.val].toArray (.int .i64 (KX x)) R) : Enters Tryz.prog (Jsl k) ∧ PureR Tryz.prog (Jsl k) [Ty.val (.mk k n p ins)].toArray (.int .i64 (KX (.mk k n p ins))) R := by
 obtain ⟨hpos, hb, h3⟩ := Jso hd hc hf
 have hp := Jya ht hsub hpos hb
 obtain ⟨hk8, ho, h6, hci⟩ := QZ hc
 rw [WA, Bool.and_eq_true] at hf
 have hne : (k ≠ 4 ∧ k ≠ 6) ∧ k ≠ 8 := by simpa using hf.1
 have h9 : k = 1 ∨ k = 2 ∨ k = 3 ∨ k = 5 ∨ k = 7 := by omega
 rcases h9 with rfl | rfl | rfl | rfl | rfl
 refine ⟨enters_of Tryz.func274 m6 O, ?_⟩
 show PureR Tryz.prog 274 _ _ R
 rw [KX, if_pos rfl]; refine Jc Tryz.func274 O O fun w => ?_; exact DV
 refine ⟨enters_of Tryz.func279 m6 O, ?_⟩
 show PureR Tryz.prog 279 _ _ R
 rw [KX, if_neg m7, if_pos rfl]; refine Jc Tryz.func279 O O fun w => Nj fun r1 => ?_; refine J1 9 O ?_; exact Nz
 refine ⟨enters_of Tryz.func285 m6 O, ?_⟩
 show PureR Tryz.prog 285 _ _ R
 have h3' := h3 rfl
 rw [KX, if_neg m7, if_neg m7, if_neg m7, if_pos rfl]; refine Jc Tryz.func285 O O fun w => Nj fun r1 => ?_; refine Gb ?_; refine JK 6 m6 m6 ?_
 refine Nx ?_; refine Ja O O O (Jz (vs := [_, _, _]) O (kn 0 O) O O O O) (Vt O O O (enters_of Tryz.func286 m6 O) hp oR (Nn ?_)); refine QT m5 m5 (NP ?_); exact En
 refine ⟨enters_of Tryz.func292 m6 O, ?_⟩
 show PureR Tryz.prog 292 _ _ R
 have hbit : 1 ≤ n ∧ n ≤ 512 := by simp [Km] at ho; omega
 rw [KX, if_neg m7, if_neg m7, if_pos rfl]; refine Jc Tryz.func292 O O fun w => EX fun r1 => ?_; refine Ew ?_; refine QN O (Jb m5 m5 ?_); refine QN O (Jbz m5 m5 m5 (J1 4 O ?_)); refine NW fun w1 hs1 => ?_; exact ⟨congrArg (fun z => Ending.returned (Value.int .i64 z)) m5, hs1.keep⟩
 ·refine ⟨enters_of Tryz.func297 m6 O, ?_⟩
  show PureR Tryz.prog 297 _ _ R
  rw [KX, if_neg m7, if_neg m7, if_neg m7, if_neg m7]; refine Jc Tryz.func297 O O fun w => gO fun r1 => ?_; refine Ji O O O (enters_of Tryz.func286 m6 O) hp oR ?_; exact NU
theorem J13 (ht : t.In R) : ∀ d : Int, 0 ≤ d → chk t d = 0 → WA t = true → PureR Tryz.prog 305 [t.val].toArray (.int .i64 (KX t)) R := by
 induction ht with
 | @mk k n p ins hk hn hl hs hi ih =>
 intro d hd hc hf
 obtain ⟨hk8, ho, h6, hci⟩ := QZ hc
 have hkk := Xh.2 hk8
 have hf0 := hf
 rw [WA, Bool.and_eq_true] at hf0
 have hfi := ZO.1 hf0.2
 have hz := J3w (.mk hk hn hl hs hi : Ty.In R (.mk k n p ins)) hd hc hf fun x hx => ih x hx (d + 1) m5 (hci x hx) (hfi x hx)
 have hvb : (isK k && !Ji7 k) = true := by rw [hkk, Jlx hkk]; exact hf0.1
 refine Jc Tryz.func305 O O fun w => Nj fun r1 => ?_; refine Gb ?_
 refine JI [] [(0, .grow (KD 0 (fun r : Nat => Value.map (some r)) (fun r => [(r, Jol)]))), (1, .pure), (4, .pure), (7, .pure)] 8 [1, 2, 5, 0, 3, 4, 6, 7] m6 m6 m8 ?_
 refine NJ ?_; refine JY (k := 5) O O O O O (Jz (vs := [_, _, _]) O (kn 0 O) O O O O) (NZ fun mr => ?_); refine Qt (Jlw hvb) (JW (k := 6) O O O O O hz.1 hz.2 oR (Jm (k := 7) O O O O O (fun _ hS => (J8 O)) (Ka ?_))); exact En
theorem Jsp (ht : t.In R) : PureR Tryz.prog 221 [t.val].toArray (.int .i64 (ZA t)) R := by
 have h1 := Jl0 ht
 have h2 := J13 ht 0 m5
 obtain ⟨k, n, p, ins⟩ := t
 refine Jc Tryz.func221 O O fun w => Nj fun r1 => ?_; refine Gu ?_; refine Ns ?_; refine Ji O O O (enters_of Tryz.func304 m6 O) h1 oR (ki ?_); refine cD (fun g => ?_) fun g => ?_
 refine Gv fun w1 hs1 => ?_
 simp_all [ZA, JB]
 ·refine gZ ?_; refine Ns ?_; refine Ji O O O (enters_of Tryz.func305 m6 O) (h2 (WY.1 m9).1 (WY.1 m9).2) oR (DE fun w1 hs1 => ?_)
  simp_all [ZA, JB]
def Xq (r : Nat) (v : Vl) : Nat × Obj := (r, .cells v.cells.toArray 89 (0, 0))
def zVl : Vl := .mk 0 0 0 0 [] none [] none 0
def clV (f : FuncId) (r : Nat) : Value := .func (.func f) #[] #[.pointer (some ⟨r, 0, none⟩)]
def Jgj (f : FuncId) (v out : Vl) : Prop := ∀ r1 rr : Nat, r1 ≠ rr → PureMR Tryz.prog f [.pointer (some ⟨rr, 0, none⟩), .pointer (some ⟨r1, 0, none⟩)].toArray (.tuple #[]) rr (Xq rr zVl).2 (Xq rr out).2 [Xq r1 v]
theorem Jsq (a b c d : Nat) (bits : List Bool) (pb : Pl) (items : List Vl) (pi : Pl) (pick : Int) : Jgj 335 (.mk a b c d bits pb items pi pick) (.mk a b c d [] none [] none 0) := fun r1 rr hne => by
 refine XD (fun p hp => by rw [List.mem_singleton.1 hp]; exact hne) Tryz.func335 O O fun w => JJ (Jt 3 O (LR O (Jz (vs := [_, _, _, _]) O (JF (k := 0) O) O O O O) (LS 2 [] O O ?_)))
 refine LT 0 O O (J1 1 O (KS O O .nil (fun w1 hs1 => ?_))); exact ⟨rfl, _, List.mem_cons_self, hs1⟩
theorem Jyb (a b c d : Nat) (bits : List Bool) (pb : Pl) (items : List Vl) (pi : Pl) (pick : Int) : Jgj 337 (.mk a b c d bits pb items pi pick) (.mk 0 0 0 0 [] none items pi 0) := fun r1 rr hne => by
 refine XD (fun p hp => by rw [List.mem_singleton.1 hp]; exact hne) Tryz.func337 O O fun w => JJ (Jt 3 O (LR O (Je O (JF (k := 0) O) O O) (LS 2 [] O O ?_)))
 refine LT 0 O O (J1 1 O (KS O O .nil (fun w1 hs1 => ?_))); exact ⟨rfl, _, List.mem_cons_self, hs1⟩
theorem J14 (a b c d : Nat) (bits : List Bool) (pb : Pl) (items : List Vl) (pi : Pl) (pick : Int) : Jgj 338 (.mk a b c d bits pb items pi pick) (.mk 0 0 0 0 bits pb [] none 0) := fun r1 rr hne => by
 refine XD (fun p hp => by rw [List.mem_singleton.1 hp]; exact hne) Tryz.func338 O O fun w => JJ (Jt 3 O (LR O (Je O (JF (k := 0) O) O O) (LS 2 [] O O ?_)))
 refine LT 0 O O (J1 1 O (KS O O .nil (fun w1 hs1 => ?_))); exact ⟨rfl, _, List.mem_cons_self, hs1⟩
theorem J15 (a b c d : Nat) (bits : List Bool) (pb : Pl) (items : List Vl) (pi : Pl) (pick : Int) : Jgj 339 (.mk a b c d bits pb items pi pick) (.mk 0 0 0 0 [] none items pi pick) := fun r1 rr hne => by
 refine XD (fun p hp => by rw [List.mem_singleton.1 hp]; exact hne) Tryz.func339 O O fun w => JJ ?_
 refine JI [] [(0, .pure), (1, .pure), (2, .pure), (3, .pure), (4, .pure), (5, .pure), (6, .pure), (7, .pure), (8, .turn), (9, .pure), (10, .pure), (11, .turn)] 12 [0, 1, 2, 3, 4, 5, 6, 7, 8, 9, 10, 11] m6 m6 m8 (Jm (k := 0) O O O O O (fun _ hS => (Jg O)) (Jm (k := 1) O O O O O (fun _ hS => (Jg O)) ?_))
 refine Jm (k := 2) O O O O O (fun _ hS => (J6 O O O)) (Jm (k := 3) O O O O O (fun _ hS => (Je O (JF (k := 0) O) O O)) ?_)
 refine Jm (k := 4) O O O O O (fun _ hS => (J6 O O O)) (Jm (k := 5) O O O O O (fun _ hS => (Je O (JF (k := 0) O) O O)) (Jm (k := 6) O O O O O (fun _ hS => (J2 O O O)) ?_))
 refine Jm (k := 7) O O O O O (fun _ hS => (J6 O O O)) ?_
 refine Y7 (k := 8) (q := 0) O O O O O O O O O mN mF m8 (Jm (k := 9) O O O O O (fun _ hS => (J2 O O O)) ?_)
 refine Jm (k := 10) O O O O O (fun _ hS => (J6 O O O)) ?_
 refine Y7 (k := 11) (q := 0) O O O O O O O O O mN mF m8 (Ka (J1 1 O (KS O O .nil (fun w1 hs1 => ?_)))); exact ⟨rfl, _, List.mem_cons_self, hs1⟩
theorem Jc9  {out : Vl} {f : FuncId} (ef : Enters Tryz.prog f) (hv : v.In R) (ho : out.In R) (hk : Jgj f v out) (hr : Xq rv v ∈ R) : PureR Tryz.prog 334 [v.val, clV f rv].toArray (.bool (XQ v out)) R := by
 have hsm := J12 hv out ho
 obtain ⟨a, b, c, d, bits, pb, items, pi, pick⟩ := v
 obtain ⟨a', b', c', d', bits', pb', items', pi', pick'⟩ := out
 refine Jc Tryz.func334 O O fun w => Nj fun r1 => ?_; refine kL ?_; refine LN O fun r2 => kL ?_; refine Jn4 (k := 0) O O O ef O (fun hne => hk rv r2 (hne _ List.mem_cons_self)) (fun q hq => by rw [List.mem_singleton.1 hq]; exact hr) O (XG 6 [1, 0] O O (Ji O O O (enters_of Tryz.func362 m6 O) hsm oR ?_)); exact NU
theorem yt  {a : Nat} {bits : List Bool} {items : List Vl} {pick : Int} (h : Vl.In R (.mk a b c d bits pb items pi pick)) : Vl.In R (.mk a b c d [] none [] none 0) ∧ Vl.In R (.mk 0 0 0 0 [] none items pi 0) ∧ Vl.In R (.mk 0 0 0 0 bits pb [] none 0) ∧ Vl.In R (.mk 0 0 0 0 [] none items pi pick) := by
 cases h with
 | mk ha hb hc hd hlb hsb hl hs hp hi =>
 have z : Wr 0 := by unfold Wr; omega
 have i0 : ZI 0 := by unfold ZI; omega
 refine ⟨.mk ha hb hc hd ml O ml O i0 ml, .mk z z z z ml O hl hs i0 hi, .mk z z z z hlb hsb ml O i0 ml, .mk z z z z ml O hl hs hp hi⟩
theorem zD (l : List Vl) : Ws l l = true := WW.2 ⟨rfl, fun i x y hx hy => by rw [hx] at hy; cases hy; exact Jii x⟩
theorem Ja0 (l : List Vl) : Ws l [] = decide (l.length = 0) := by cases l <;> simp [Ws]
theorem Jgk {a : Nat} {bits : List Bool} {items : List Vl} {pick : Int} : XQ (.mk a b c d bits pb items pi pick) (.mk a b c d [] none [] none 0) = Vq (.mk a b c d bits pb items pi pick) true false false false := by
 rw [ZU, VE, Ja0]
 by_cases h1 : bits = [] <;> by_cases h2 : items = [] <;> by_cases h3 : pick = 0 <;> simp [h1, h2, h3]
theorem Jja {a : Nat} {bits : List Bool} {items : List Vl} {pick : Int} : XQ (.mk a b c d bits pb items pi pick) (.mk 0 0 0 0 [] none items pi 0) = Vq (.mk a b c d bits pb items pi pick) false false true false := by
 rw [ZU, VE, zD]
 by_cases h1 : bits = [] <;> by_cases h3 : pick = 0 <;> simp [h1, h3]
theorem Jom {a : Nat} {bits : List Bool} {items : List Vl} {pick : Int} : XQ (.mk a b c d bits pb items pi pick) (.mk 0 0 0 0 bits pb [] none 0) = Vq (.mk a b c d bits pb items pi pick) false true false false := by
 rw [ZU, VE, Ja0]
 by_cases h2 : items = [] <;> by_cases h3 : pick = 0 <;> simp [h2, h3]
theorem Jon {a : Nat} {bits : List Bool} {items : List Vl} {pick : Int} : XQ (.mk a b c d bits pb items pi pick) (.mk 0 0 0 0 [] none items pi pick) = Vq (.mk a b c d bits pb items pi pick) false false true true := by
 rw [ZU, VE, zD]
 by_cases h1 : bits = [] <;> simp [h1]
theorem Xs (hv : v.In R) : PureR Tryz.prog 273 [v.val].toArray (.bool (Vq v true false false false)) R := by
 obtain ⟨a, b, c, d, bits, pb, items, pi, pick⟩ := v
 have hb4 := yt hv
 refine Jc Tryz.func273 O O fun w => JJ ?_; rw [← Jgk (pb := pb) (pi := pi)]; refine EZ fun r1 => ?_
 refine Ji (Rl := Xq r1 (.mk a b c d bits pb items pi pick) :: R) O O O Jlv (Jc9 (enters_of Tryz.func335 m6 O) (hv.mono fun q hq => List.mem_cons_of_mem _ hq) (hb4.1.mono fun q hq => List.mem_cons_of_mem _ hq) (Jsq a b c d bits pb items pi pick) List.mem_cons_self) (fun q hq => by rcases List.mem_cons.1 hq with rfl | hq; exact .inl List.mem_cons_self; exact .inr hq) ?_; exact NU
theorem Yr (hv : v.In R) : PureR Tryz.prog 284 [v.val].toArray (.bool (Vq v false false true false)) R := by
 obtain ⟨a, b, c, d, bits, pb, items, pi, pick⟩ := v
 have hb4 := yt hv
 refine Jc Tryz.func284 O O fun w => JJ ?_; rw [← Jja (pb := pb) (pi := pi)]; refine EZ fun r1 => ?_
 refine Ji (Rl := Xq r1 (.mk a b c d bits pb items pi pick) :: R) O O O Jlv (Jc9 (enters_of Tryz.func337 m6 O) (hv.mono fun q hq => List.mem_cons_of_mem _ hq) (hb4.2.1.mono fun q hq => List.mem_cons_of_mem _ hq) (Jyb a b c d bits pb items pi pick) List.mem_cons_self) (fun q hq => by rcases List.mem_cons.1 hq with rfl | hq; exact .inl List.mem_cons_self; exact .inr hq) ?_; exact NU
theorem ja (hv : v.In R) : PureR Tryz.prog 291 [v.val].toArray (.bool (Vq v false true false false)) R := by
 obtain ⟨a, b, c, d, bits, pb, items, pi, pick⟩ := v
 have hb4 := yt hv
 refine Jc Tryz.func291 O O fun w => JJ ?_; rw [← Jom (pb := pb) (pi := pi)]; refine EZ fun r1 => ?_
 refine Ji (Rl := Xq r1 (.mk a b c d bits pb items pi pick) :: R) O O O Jlv (Jc9 (enters_of Tryz.func338 m6 O) (hv.mono fun q hq => List.mem_cons_of_mem _ hq) (hb4.2.2.1.mono fun q hq => List.mem_cons_of_mem _ hq) (J14 a b c d bits pb items pi pick) List.mem_cons_self) (fun q hq => by rcases List.mem_cons.1 hq with rfl | hq; exact .inl List.mem_cons_self; exact .inr hq) ?_; exact NU
theorem jb (hv : v.In R) : PureR Tryz.prog 300 [v.val].toArray (.bool (Vq v false false true true)) R := by
 obtain ⟨a, b, c, d, bits, pb, items, pi, pick⟩ := v
 have hb4 := yt hv
 refine Jc Tryz.func300 O O fun w => JJ ?_; rw [← Jon (pb := pb) (pi := pi)]; refine EZ fun r1 => ?_
 refine Ji (Rl := Xq r1 (.mk a b c d bits pb items pi pick) :: R) O O O Jlv (Jc9 (enters_of Tryz.func339 m6 O) (hv.mono fun q hq => List.mem_cons_of_mem _ hq) (hb4.2.2.2.mono fun q hq => List.mem_cons_of_mem _ hq) (J15 a b c d bits pb items pi pick) List.mem_cons_self) (fun q hq => by rcases List.mem_cons.1 hq with rfl | hq; exact .inl List.mem_cons_self; exact .inr hq) ?_; exact NU
theorem wx {l : List Nat} (hl : WOk l) : (!Jah [1, 0, 0, 0] l) = (decide (l = [0, 0, 0, 0]) || decide (l = [1, 0, 0, 0])) := by
 have h0 : WOk [0, 0, 0, 0] := ⟨rfl, fun x hx => by simp at hx; omega⟩
 have h1 : WOk [1, 0, 0, 0] := ⟨rfl, fun x hx => by simp at hx; omega⟩
 rw [Jq2 h1 hl, show wN [1, 0, 0, 0] = 1 from rfl]
 by_cases e0 : l = [0, 0, 0, 0]
 ·subst e0; rfl
 by_cases e1 : l = [1, 0, 0, 0]
 ·subst e1; rfl
 have n0 : wN l ≠ 0 := fun h => e0 (Jq0 hl h0 h)
 have n1 : wN l ≠ 1 := fun h => e1 (Jq0 hl h1 h)
 simp [e0, e1]
 omega
theorem O_1 {n : Int} {p : Pl} {ins : List Ty} (ht : Ty.In R (.mk 1 n p ins)) (hv : v.In R) : PureR Tryz.prog 272 [Ty.val (.mk 1 n p ins), v.val].toArray (.bool (ofT 1 n ins.length v)) R := by
 have hnu := Xs hv
 have hit := Yr hv
 have hbi := ja hv
 have hpk := jb hv
 cases ht with
 | mk hk hn hlt hst hit0 =>
 cases hv with
 | @mk a b c d bits pb items pi pick ha hb hc hd hlb hsb hl hs hp hi =>
 have hw : WOk [a, b, c, d] := ⟨rfl, fun x hx => by simp at hx; rcases hx with rfl | rfl | rfl | rfl <;> assumption⟩
 have hw1 : WOk [1, 0, 0, 0] := ⟨rfl, fun x hx => by simp at hx; omega⟩
 have hl1 := wx hw
 refine gT ?_; refine Jc Tryz.func272 O O fun w => NB fun r1 r2 => ?_; refine Gb ?_; refine JK 12 m6 m6 (Do ?_)
 refine Yl 7 O (fun gb => ?_) (fun gb => ?_) <;> (try simp only [ZZ] at gb) <;> first | (refine Ja O O O (J6 O O O) ?_) | (refine JG O O O ?_)
 all_goals refine Fk ?_
 all_goals first | (refine KI O O O (enters_of Tryz.func200 m6 O) (qK hw) ?_) | refine JG O O O ?_
 all_goals first | refine Ja O O O (Kp O O) ?_ | refine JG O O O ?_
 all_goals refine GB ?_
 all_goals first | refine Ja O O O (Je O (kn 1 O) O O) ?_ | refine JG O O O ?_
 all_goals first | refine Ja O O O (J2 O O O) ?_ | refine JG O O O ?_
 all_goals refine gi ?_
 all_goals (
  refine Ja O O O (J8 O) (JS (J1 1 O (Xk 2 O ?_))); refine Ni fun w1 hs1 => ?_
  simp_all [JB]
  skip)
theorem O_2 {n : Int} {p : Pl} {ins : List Ty} (ht : Ty.In R (.mk 2 n p ins)) (hv : v.In R) : PureR Tryz.prog 277 [Ty.val (.mk 2 n p ins), v.val].toArray (.bool (ofT 2 n ins.length v)) R := by
 have hnu := Xs hv
 have hit := Yr hv
 have hbi := ja hv
 have hpk := jb hv
 cases ht with
 | mk hk hn hlt hst hit0 =>
 cases hv with
 | @mk a b c d bits pb items pi pick ha hb hc hd hlb hsb hl hs hp hi =>
 have hw : WOk [a, b, c, d] := ⟨rfl, fun x hx => by simp at hx; rcases hx with rfl | rfl | rfl | rfl <;> assumption⟩
 have hw1 : WOk [1, 0, 0, 0] := ⟨rfl, fun x hx => by simp at hx; omega⟩
 have hl1 := wx hw
 refine gT ?_; refine Jc Tryz.func277 O O fun w => NB fun r1 r2 => ?_; refine Gb ?_; refine JK 10 m6 m6 (Do ?_)
 refine Yl 7 O (fun gb => ?_) (fun gb => ?_) <;> (try simp only [ZZ] at gb) <;> first | (refine KI O O O wu (Wu ..) ?_) | (refine JG O O O ?_)
 all_goals refine GB ?_
 all_goals refine Fk ?_
 all_goals first | (refine KI O O O (enters_of Tryz.func278 m6 O) (Jgd hw1 hw) ?_) | refine JG O O O ?_
 all_goals first | refine Ja O O O (J2 O O O) ?_ | refine JG O O O ?_
 all_goals refine gi ?_
 all_goals (
  refine Ja O O O (J8 O) (JS (J1 1 O (Xk 2 O ?_))); refine Ni fun w1 hs1 => ?_
  simp_all [JB]
  skip)
theorem O_3 {n : Int} {p : Pl} {ins : List Ty} (ht : Ty.In R (.mk 3 n p ins)) (hv : v.In R) : PureR Tryz.prog 283 [Ty.val (.mk 3 n p ins), v.val].toArray (.bool (ofT 3 n ins.length v)) R := by
 have hnu := Xs hv
 have hit := Yr hv
 have hbi := ja hv
 have hpk := jb hv
 cases ht with
 | mk hk hn hlt hst hit0 =>
 cases hv with
 | @mk a b c d bits pb items pi pick ha hb hc hd hlb hsb hl hs hp hi =>
 have hw : WOk [a, b, c, d] := ⟨rfl, fun x hx => by simp at hx; rcases hx with rfl | rfl | rfl | rfl <;> assumption⟩
 have hw1 : WOk [1, 0, 0, 0] := ⟨rfl, fun x hx => by simp at hx; omega⟩
 have hl1 := wx hw
 refine gT ?_; refine Jc Tryz.func283 O O fun w => NB fun r1 r2 => ?_; refine NI ?_; refine Ji O O O Jsd hit oR (Q1 O ?_)
 refine Jv 7 O (fun gb => ?_) (fun gb => ?_) <;> (try simp only [ZZ] at gb) <;> first | (refine LR O (J6 O O O) ?_) | (refine LK O ?_)
 all_goals refine Np ?_
 all_goals refine NS ?_
 all_goals (
  refine LW 4 [1] O O (J1 1 O (Xk 2 O ?_)); refine Ni fun w1 hs1 => ?_
  simp_all [JB]
  all_goals first | done | rfl | omega | (rw [Bool.eq_iff_iff]; simp only [Bool.and_eq_true, Bool.or_eq_true, decide_eq_true_eq, beq_iff_eq]; omega) | (simp only [decide_eq_true_eq, decide_eq_false_iff_not]; omega)
  skip)
theorem O_4 {n : Int} {p : Pl} {ins : List Ty} (ht : Ty.In R (.mk 4 n p ins)) (hv : v.In R) : PureR Tryz.prog 288 [Ty.val (.mk 4 n p ins), v.val].toArray (.bool (ofT 4 n ins.length v)) R := by
 have hnu := Xs hv
 have hit := Yr hv
 have hbi := ja hv
 have hpk := jb hv
 cases ht with
 | mk hk hn hlt hst hit0 =>
 cases hv with
 | @mk a b c d bits pb items pi pick ha hb hc hd hlb hsb hl hs hp hi =>
 have hw : WOk [a, b, c, d] := ⟨rfl, fun x hx => by simp at hx; rcases hx with rfl | rfl | rfl | rfl <;> assumption⟩
 have hw1 : WOk [1, 0, 0, 0] := ⟨rfl, fun x hx => by simp at hx; omega⟩
 have hl1 := wx hw
 refine gT ?_; refine Jc Tryz.func288 O O fun w => NB fun r1 r2 => ?_; refine NI ?_; refine Ji O O O Jsd hit oR (DE fun w1 hs1 => ?_)
 simp_all [JB]
theorem O_5 {n : Int} {p : Pl} {ins : List Ty} (ht : Ty.In R (.mk 5 n p ins)) (hv : v.In R) : PureR Tryz.prog 290 [Ty.val (.mk 5 n p ins), v.val].toArray (.bool (ofT 5 n ins.length v)) R := by
 have hnu := Xs hv
 have hit := Yr hv
 have hbi := ja hv
 have hpk := jb hv
 cases ht with
 | mk hk hn hlt hst hit0 =>
 cases hv with
 | @mk a b c d bits pb items pi pick ha hb hc hd hlb hsb hl hs hp hi =>
 have hw : WOk [a, b, c, d] := ⟨rfl, fun x hx => by simp at hx; rcases hx with rfl | rfl | rfl | rfl <;> assumption⟩
 have hw1 : WOk [1, 0, 0, 0] := ⟨rfl, fun x hx => by simp at hx; omega⟩
 have hl1 := wx hw
 refine gT ?_; refine Jc Tryz.func290 O O fun w => NB fun r1 r2 => ?_; refine NI ?_; refine Ji O O O (enters_of Tryz.func291 m6 O) hbi oR (Q1 O ?_)
 refine Jv 7 O (fun gb => ?_) (fun gb => ?_) <;> (try simp only [ZZ] at gb) <;> first | (refine LR O (J6 O O O) ?_) | (refine LK O ?_)
 all_goals refine HP ?_
 all_goals first | refine LR O (Jy O hsb O) ?_ | refine LK O ?_
 all_goals refine NS ?_
 all_goals (
  refine LW 4 [1] O O (J1 1 O (Xk 2 O ?_)); refine Ni fun w1 hs1 => ?_
  simp_all [JB]
  all_goals first | done | rfl | omega | (rw [Bool.eq_iff_iff]; simp only [Bool.and_eq_true, Bool.or_eq_true, decide_eq_true_eq, beq_iff_eq]; omega) | (simp only [decide_eq_true_eq, decide_eq_false_iff_not]; omega)
  skip)
theorem O_6 {n : Int} {p : Pl} {ins : List Ty} (ht : Ty.In R (.mk 6 n p ins)) (hv : v.In R) : PureR Tryz.prog 294 [Ty.val (.mk 6 n p ins), v.val].toArray (.bool (ofT 6 n ins.length v)) R := by
 have hnu := Xs hv
 have hit := Yr hv
 have hbi := ja hv
 have hpk := jb hv
 cases ht with
 | mk hk hn hlt hst hit0 =>
 cases hv with
 | @mk a b c d bits pb items pi pick ha hb hc hd hlb hsb hl hs hp hi =>
 have hw : WOk [a, b, c, d] := ⟨rfl, fun x hx => by simp at hx; rcases hx with rfl | rfl | rfl | rfl <;> assumption⟩
 have hw1 : WOk [1, 0, 0, 0] := ⟨rfl, fun x hx => by simp at hx; omega⟩
 have hl1 := wx hw
 refine gT ?_; refine Jc Tryz.func294 O O fun w => NB fun r1 r2 => ?_; refine NI ?_; refine Ji O O O (enters_of Tryz.func291 m6 O) hbi oR (DE fun w1 hs1 => ?_)
 simp_all [JB]
theorem O_7 {n : Int} {p : Pl} {ins : List Ty} (ht : Ty.In R (.mk 7 n p ins)) (hv : v.In R) : PureR Tryz.prog 296 [Ty.val (.mk 7 n p ins), v.val].toArray (.bool (ofT 7 n ins.length v)) R := by
 have hnu := Xs hv
 have hit := Yr hv
 have hbi := ja hv
 have hpk := jb hv
 cases ht with
 | mk hk hn hlt hst hit0 =>
 cases hv with
 | @mk a b c d bits pb items pi pick ha hb hc hd hlb hsb hl hs hp hi =>
 have hw : WOk [a, b, c, d] := ⟨rfl, fun x hx => by simp at hx; rcases hx with rfl | rfl | rfl | rfl <;> assumption⟩
 have hw1 : WOk [1, 0, 0, 0] := ⟨rfl, fun x hx => by simp at hx; omega⟩
 have hl1 := wx hw
 refine gT ?_; refine Jc Tryz.func296 O O fun w => NB fun r1 r2 => ?_; refine NI ?_; refine Ji O O O Jsd hit oR (Q1 O ?_)
 refine Jv 7 O (fun gb => ?_) (fun gb => ?_) <;> (try simp only [ZZ] at gb) <;> first | (refine LR O (J6 O O O) ?_) | (refine LK O ?_)
 all_goals refine Np ?_
 all_goals refine NS ?_
 all_goals refine FJ ?_
 all_goals first | refine LR O (Jy O hst O) ?_ | refine LK O ?_
 all_goals (
  refine FQ fun w1 hs1 => ?_
  simp_all [JB]
  all_goals first | done | rfl | omega | (rw [Bool.eq_iff_iff]; simp only [Bool.and_eq_true, Bool.or_eq_true, decide_eq_true_eq, beq_iff_eq]; omega) | (simp only [decide_eq_true_eq, decide_eq_false_iff_not]; omega)
  skip)
theorem O_8 {n : Int} {p : Pl} {ins : List Ty} (ht : Ty.In R (.mk 8 n p ins)) (hv : v.In R) : PureR Tryz.prog 299 [Ty.val (.mk 8 n p ins), v.val].toArray (.bool (ofT 8 n ins.length v)) R := by
 have hnu := Xs hv
 have hit := Yr hv
 have hbi := ja hv
 have hpk := jb hv
 cases ht with
 | mk hk hn hlt hst hit0 =>
 cases hv with
 | @mk a b c d bits pb items pi pick ha hb hc hd hlb hsb hl hs hp hi =>
 have hw : WOk [a, b, c, d] := ⟨rfl, fun x hx => by simp at hx; rcases hx with rfl | rfl | rfl | rfl <;> assumption⟩
 have hw1 : WOk [1, 0, 0, 0] := ⟨rfl, fun x hx => by simp at hx; omega⟩
 have hl1 := wx hw
 refine gT ?_; refine Jc Tryz.func299 O O fun w => NB fun r1 r2 => ?_; refine NI ?_; refine Ji O O O (enters_of Tryz.func300 m6 O) hpk oR (Q1 O ?_)
 refine Jv 7 O (fun gb => ?_) (fun gb => ?_) <;> (try simp only [ZZ] at gb) <;> first | (refine LR O (J6 O O O) ?_) | (refine LK O ?_)
 all_goals refine Hb ?_
 all_goals first | refine LK O ?_ | (refine Jv 13 O (fun gb => ?_) (fun gb => ?_) <;> (try simp only [ZZ] at gb) <;> first | (refine LR O (J6 O O O) ?_) | (refine LK O ?_))
 all_goals refine Dc ?_
 all_goals first | refine LK O ?_ | (refine Jv 18 O (fun gb => ?_) (fun gb => ?_) <;> (try simp only [ZZ] at gb) <;> first | (refine LR O (J6 O O O) ?_) | (refine LK O ?_))
 all_goals refine HP ?_
 all_goals refine NS ?_
 all_goals refine FJ ?_
 all_goals first | refine LR O (Jy O hst O) ?_ | refine LK O ?_
 all_goals (
  refine FQ fun w1 hs1 => ?_
  simp_all [JB]
  all_goals first | done | rfl | omega | (rw [Bool.eq_iff_iff]; simp only [Bool.and_eq_true, Bool.or_eq_true, decide_eq_true_eq, beq_iff_eq]; omega) | (simp only [decide_eq_true_eq, decide_eq_false_iff_not]; omega)
  skip)
theorem J3x {k n : Int} {p : Pl} {ins : List Ty} (ht : Ty.In R (.mk k n p ins)) (hv : v.In R) (h : isK k = true) : Enters Tryz.prog (ofF k) ∧ PureR Tryz.prog (ofF k) [Ty.val (.mk k n p ins), v.val].toArray (.bool (ofT k n ins.length v)) R := by
 have := Xh.1 h
 have : k = 1 ∨ k = 2 ∨ k = 3 ∨ k = 4 ∨ k = 5 ∨ k = 6 ∨ k = 7 ∨ k = 8 := by omega
 rcases this with rfl | rfl | rfl | rfl | rfl | rfl | rfl | rfl
 ·exact ⟨enters_of Tryz.func272 m6 O, O_1 ht hv⟩
 ·exact ⟨enters_of Tryz.func277 m6 O, O_2 ht hv⟩
 ·exact ⟨enters_of Tryz.func283 m6 O, O_3 ht hv⟩
 ·exact ⟨enters_of Tryz.func288 m6 O, O_4 ht hv⟩
 ·exact ⟨enters_of Tryz.func290 m6 O, O_5 ht hv⟩
 ·exact ⟨enters_of Tryz.func294 m6 O, O_6 ht hv⟩
 ·exact ⟨enters_of Tryz.func296 m6 O, O_7 ht hv⟩
 ·exact ⟨enters_of Tryz.func299 m6 O, O_8 ht hv⟩
def WG (r : Nat) (t : Ty) : Nat × Obj := (r, .cells t.cells.toArray 84 (0, 0))
instance : Inhabited Vl := ⟨zVl⟩
def X0 (l : List Vl) (i : Nat) : Vl := l.getD i default
theorem V3 {l : List Vl} (h : i < l.length) : l[i]? = some (X0 l i) ∧ X0 l i ∈ l := by
 unfold X0
 exact Hd
theorem Jgl (t : Ty) (v : Vl) : PureE (α := Nat × Nat) Tryz.prog 213 [t.val, v.val].toArray (fun p => .func (.func 301) #[] #[.pointer (some ⟨p.2, 0, none⟩), .pointer (some ⟨p.1, 0, none⟩)])
  (fun p => [Xq p.2 v, WG p.1 t]) := by
 obtain ⟨k, n, p, ins⟩ := t
 obtain ⟨a, b, c, d, bits, pb, items, pi, pick⟩ := v
 refine Kq Tryz.func213 O O fun w => NB fun r1 r2 => ?_; refine kL ?_; refine kJ ?_; exact gu
def Ja1 (k pick : Int) (ins : List Ty) (items : List Vl) (i : Nat) : List Value := [(JT k pick ins i).val, (X0 items i).val]
theorem Jgm {k n : Int} {p : Pl} {ins : List Ty} {a : Nat} {bits : List Bool} {items : List Vl} {pick : Int} (hl : items.length ≤ 9223372036854775807) (hlt : ins.length ≤ 9223372036854775807) (hs : Seg R items.length (Ql items) pi) (hst : Seg R ins.length (Jci ins) p)
    (hx : ∀ i, i < items.length → W1 k pick i < ins.length) (hp8 : k = 8 → 0 ≤ pick) (rt rv : Nat) :
    ql Tryz.prog 301 [.pointer (some ⟨rv, 0, none⟩), .pointer (some ⟨rt, 0, none⟩)] (Xq rv (.mk a b c d bits pb items pi pick) :: WG rt (.mk k n p ins) :: R) 0 (nxN (Ja1 k pick ins items) items.length) (xO items.length) := by
  have hs := hs.mono (R' := Xq rv (.mk a b c d bits pb items pi pick) :: WG rt (.mk k n p ins) :: R) fun q hq => List.mem_cons_of_mem _ (List.mem_cons_of_mem _ hq)
  have hst := hst.mono (R' := Xq rv (.mk a b c d bits pb items pi pick) :: WG rt (.mk k n p ins) :: R) fun q hq => List.mem_cons_of_mem _ (List.mem_cons_of_mem _ hq)
  refine VA Tryz.func301 O O fun q xids w2 XI XF hY => JJ (Gy ?_); refine gF ?_; refine Dd ?_; refine Jw (σ := Nat) (fun i => i ≤ items.length) (fun i => [(0, .func (.yield q) #[] #[]), (1, .pointer (some ⟨rv, 0, none⟩)), (2, .pointer (some ⟨rt, 0, none⟩)), (8, KA items.length pi), (9, .int .i64 (items.length : Int)), (10, .int .i64 (i : Int))]) (fun _ => []) (fun i => XI i) (fun i => items.length - i) 0 (Nat.zero_le _) (lK O) (List.nil_sublist _) (fun _ _ h => h) ?_; intro i hi; refine NO ?_; refine cD (fun g => ?_) fun g => ?_
  · refine gk ?_
    have hil : i < items.length := by omega
    have hix := V3 hil
    have hty := Qi (hx i hil)
    refine kE ?_; refine Ef ?_; refine LR O (QV oR O hs hix.1 O O) (LN O fun r1 => Q1 O (Jj (k := 0) (n := 7) (ys := (X0 items i).cells) O O O O O (X0 items i).len O (X0 items i).one O (JH 11 O ?_))); refine GR ?_; refine H2 ?_; refine cD (fun g => ?_) fun g => ?_
    · refine Dk ?_; refine NK ?_; refine JS (VV (XT := XI (i + 1)) (XF := XF) O O O O (hY i (Ja1 k pick ins items i) (i + 1) ⟨hil, rfl, rfl⟩) ?_ ?_)
      all_goals (
       refine D5 ?_; refine J7 O (fun g => ?_) (fun g => ?_)
       · try exact Bool.noConfusion g
         all_goals try simp only [ZZ] at g
         all_goals (
          exact Nr
          skip)
       · try exact Bool.noConfusion g
         all_goals try simp only [ZZ] at g
         all_goals (
          refine Gz ?_; exact kI
          skip)
       skip)
    · refine NO ?_; refine cD (fun g => ?_) fun g => ?_
      · refine kE ?_; refine gF ?_; refine JN 5 O (NK ?_); refine JS (VV (XT := XI (i + 1)) (XF := XF) O O O O (hY i (Ja1 k pick ins items i) (i + 1) ⟨hil, rfl, rfl⟩) ?_ ?_)
        all_goals (
         refine D5 ?_; refine J7 O (fun g => ?_) (fun g => ?_)
         · try exact Bool.noConfusion g
           all_goals try simp only [ZZ] at g
           all_goals (
            exact Nr
            skip)
         · try exact Bool.noConfusion g
           all_goals try simp only [ZZ] at g
           all_goals (
            refine Gz ?_; exact kI
            skip)
         skip)
      · refine FR ?_; refine NK ?_; refine JS (VV (XT := XI (i + 1)) (XF := XF) O O O O (hY i (Ja1 k pick ins items i) (i + 1) ⟨hil, rfl, rfl⟩) ?_ ?_)
        all_goals (
         refine D5 ?_; refine J7 O (fun g => ?_) (fun g => ?_)
         · try exact Bool.noConfusion g
           all_goals try simp only [ZZ] at g
           all_goals (
            exact Nr
            skip)
         · try exact Bool.noConfusion g
           all_goals try simp only [ZZ] at g
           all_goals (
            refine Gz ?_; exact kI
            skip)
         skip)
  · refine gs fun w1 hs1 => ?_
    obtain ⟨xs1, hx1⟩ := hs1.now
    exact ⟨⟨_, rfl⟩, hs1.keep, .inl ⟨i, _, (by show i = items.length; omega), hx1⟩⟩
theorem vI {a : Nat} {bits : List Bool} {items : List Vl} {pick k n : Int} {p : Pl} {ins : List Ty} (h1 : ¬ ((k = 4 ∧ n < items.length) ∨ (k = 6 ∧ n < bits.length))) (h2 : ofT k n ins.length (.mk a b c d bits pb items pi pick) = true) : Qd (.mk a b c d bits pb items pi pick) (.mk k n p ins) = Vh items k pick ins 0 := by
 rw [Qd, if_neg h1, if_neg (by rw [h2]; simp)]
theorem J16 (hv : v.In R) : ∀ (t : Ty) (dp : Int), t.In R → chk t dp = 0 → PureR Tryz.prog 158 [t.val, v.val].toArray (.int .i64 (Qd v t)) R := by
  have hv0 := hv
  induction hv with
  | @mk a b c d bits pb items pi pick ha hb hc hd hlb hsb hl hs hp hi ih =>
  intro t dp ht hck
  have ht0 := ht
  cases ht with
  | @mk k n p ins hk hn hlt hst hit =>
  obtain ⟨hk8, ho, h6, hci⟩ := QZ hck
  have hkk := Xh.2 hk8
  have hO := J3x ht0 hv0 hkk
  refine Jc Tryz.func158 O O fun w => NB fun r1 r2 => ?_; refine LN O fun r3 => XG 11 [2] O O ?_
  refine Jv 12 O (fun gb => ?_) (fun gb => ?_) <;> (try simp only [ZZ] at gb) <;> first | (refine LR O (J6 O O O) ?_) | (refine LK O ?_)
  all_goals refine FJ ?_
  all_goals first | refine LR O (Jy O hs O) ?_ | refine LK O ?_
  all_goals refine NS ?_
  all_goals (
   refine LW 4 [2] O O (J1 1 O (XC 1 O ?_)); refine J7 O (fun g => ?_) (fun g => ?_)
   · try exact Bool.noConfusion g
     all_goals try simp only [ZZ] at g
     all_goals (
      refine JC 2 O (cD (fun g => ?_) fun g => ?_)
      refine kE ?_
      refine Hw ?_
      first
        | (refine Qu (k := 0) O O ?_
           refine GV fun w1 hs1 => ?_
           first | exact ⟨by rw [hfo, ← he]; rfl, hs1.keep⟩ | exact ⟨by rw [hfo, hz]; rfl, hs1.keep⟩)
        | (refine Jf O O (.cons (Qw O (kn 0 O) O O) .nil) (fun w1 hs1 => ?_)
           first | exact ⟨by rw [Qd, if_pos m5]; rfl, hs1.keep⟩ | exact ⟨by rw [Qd, if_neg m5, if_pos m9]; rfl, hs1.keep⟩)
        | (refine Jf O O (.cons (Qw O (kn 1 O) O O) .nil) (fun w1 hs1 => ?_)
           first | exact ⟨by rw [Qd, if_pos m5]; rfl, hs1.keep⟩ | exact ⟨by rw [Qd, if_neg m5, if_pos m9]; rfl, hs1.keep⟩)
      refine HS ?_
      refine JI [] [(0, .grow (KD 0 (fun r : Nat => Value.map (some r)) (fun r => [(r, Jol)]))), (1, .pure), (4, .pure), (8, .pure), (9, .pure)] 10 [1, 2, 5, 6, 0, 3, 4, 7, 8, 9] m6 m6 m8 ?_
      refine kQ fun mr => ?_; refine gm ?_; refine Ka (H9 ?_); refine cD (fun g => ?_) fun g => ?_
      refine kE ?_
      refine LT 1 O O (gy ?_)
      (refine Jf O O (.cons (Qw O (kn 1 O) O O) .nil) (fun w1 hs1 => ?_)
       first | exact ⟨by rw [Qd, if_pos m5]; rfl, hs1.keep⟩ | exact ⟨by rw [Qd, if_neg m5, if_pos m9]; rfl, hs1.keep⟩)
      refine gk ?_
      have hfo := vI (a := a) (b := b) (c := c) (d := d) (pb := pb) (pi := pi) (p := p) Mi m9
      have hxl : ∀ i, i < items.length → W1 k pick i < ins.length := fun i hi => Zm (v := .mk a b c d bits pb items pi pick) hck m9 hi
      have hp8 : k = 8 → 0 ≤ pick := fun h => by subst h; exact J0s (v := .mk a b c d bits pb items pi pick) m9
      refine F6 fun pp => ?_
      obtain ⟨rt, rv⟩ := pp
      refine Dg ?_
      refine WS (τ := Int) (fun i (_ : Unit) => i ≤ items.length ∧ Vh (items.drop i) k pick ins i = Vh items k pick ins 0) (fun _ => [(r3, .cells #[.int .i64 (0)] 37 (0, 0))]) (fun j e => j = .ret ∧ e = Vh items k pick ins 0) (fun e => [(r3, .cells #[.int .i64 (e)] 37 (0, 0))]) [Xq rv (.mk a b c d bits pb items pi pick), WG rt (.mk k n p ins), _, _, _] () O O (enters_of Tryz.func301 m6 O) (Jgm (n := n) (a := a) (b := b) (c := c) (d := d) (bits := bits) (pb := pb) hl hlt hs hst hxl hp8 rt rv) mE O (fun q hq => by rcases List.mem_cons.1 hq with rfl | hq; exact .inl ml; rcases List.mem_cons.1 hq with rfl | hq; exact .inl ml; exact .inr hq) O ⟨Nat.zero_le _, rfl⟩ ?_ ?_ ?_
      rintro q Xr Xb w3 i _ _ ⟨⟩ ⟨hii, rfl, rfl⟩ ⟨hil, hinv⟩ Kr hKr; refine inR ?_
      have hix := V3 hii
      have hty := Qi (hxl i hii)
      rw [VY hix.1, Vh] at hinv
      unfold Ja1
      refine kE ?_; refine LN O fun r4 => E0 ?_; refine LN O fun r5 => Hc ?_; refine gE ?_; clear hKr; refine gx ?_; refine cD (fun g => ?_) fun g => ?_
      refine Gy ?_
      refine LT 2 O O (gM ?_); refine KU [2] (L' := [_]) m7 O (vn (Qd (X0 items i) (JT k pick ins i)) ⟨rfl, by rw [if_neg m9] at hinv; exact hinv⟩ O)
      refine Kk 2 O (KU [2] (L' := [_]) m7 O (Qa () ⟨by omega, by rw [if_pos m9] at hinv; exact hinv⟩ O))
      rintro D i ⟨⟩ hfi ⟨hil, hinv⟩
      have hin : i = items.length := hfi
      have hz : Vh items k pick ins 0 = 0 := by rw [← hinv, hin, List.drop_length, Vh]
      refine gqo 4 O ?_
      refine LT 1 O O (H6 ?_)
      (refine Qu (k := 0) O O ?_
       refine GV fun w1 hs1 => ?_
       first | exact ⟨by rw [hfo, ← he]; rfl, hs1.keep⟩ | exact ⟨by rw [hfo, hz]; rfl, hs1.keep⟩)
      rintro D j e ⟨rfl, he⟩
      refine Kk 3 O ?_
      first
        | (refine Qu (k := 0) O O ?_
           refine GV fun w1 hs1 => ?_
           first | exact ⟨by rw [hfo, ← he]; rfl, hs1.keep⟩ | exact ⟨by rw [hfo, hz]; rfl, hs1.keep⟩)
        | (refine Jf O O (.cons (Qw O (kn 0 O) O O) .nil) (fun w1 hs1 => ?_)
           first | exact ⟨by rw [Qd, if_pos m5]; rfl, hs1.keep⟩ | exact ⟨by rw [Qd, if_neg m5, if_pos m9]; rfl, hs1.keep⟩)
        | (refine Jf O O (.cons (Qw O (kn 1 O) O O) .nil) (fun w1 hs1 => ?_)
           first | exact ⟨by rw [Qd, if_pos m5]; rfl, hs1.keep⟩ | exact ⟨by rw [Qd, if_neg m5, if_pos m9]; rfl, hs1.keep⟩)
      skip)
   · try simp only [ZZ] at g
     refine Qy 5 [2] O O ?_
     refine Jv 23 O (fun gb => ?_) (fun gb => ?_) <;> (try simp only [ZZ] at gb) <;> first | (refine LR O (J6 O O O) ?_) | (refine LK O ?_)
     all_goals refine FJ ?_
     all_goals first | refine LR O (Jy O hsb O) ?_ | refine LK O ?_
     all_goals refine NS ?_
     all_goals (
      refine LW 4 [2] O O (J1 1 O (XC 1 O ?_)); refine J7 O (fun g => ?_) (fun g => ?_)
      · try exact Bool.noConfusion g
        all_goals try simp only [ZZ] at g
        all_goals (
         refine kE ?_
         refine Hw ?_
         first
           | (refine Qu (k := 0) O O ?_
              refine GV fun w1 hs1 => ?_
              first | exact ⟨by rw [hfo, ← he]; rfl, hs1.keep⟩ | exact ⟨by rw [hfo, hz]; rfl, hs1.keep⟩)
           | (refine Jf O O (.cons (Qw O (kn 0 O) O O) .nil) (fun w1 hs1 => ?_)
              first | exact ⟨by rw [Qd, if_pos m5]; rfl, hs1.keep⟩ | exact ⟨by rw [Qd, if_neg m5, if_pos m9]; rfl, hs1.keep⟩)
           | (refine Jf O O (.cons (Qw O (kn 1 O) O O) .nil) (fun w1 hs1 => ?_)
              first | exact ⟨by rw [Qd, if_pos m5]; rfl, hs1.keep⟩ | exact ⟨by rw [Qd, if_neg m5, if_pos m9]; rfl, hs1.keep⟩)
         skip)
      try simp only [ZZ] at g
      refine HS ?_
      refine JI [] [(0, .grow (KD 0 (fun r : Nat => Value.map (some r)) (fun r => [(r, Jol)]))), (1, .pure), (4, .pure), (8, .pure), (9, .pure)] 10 [1, 2, 5, 6, 0, 3, 4, 7, 8, 9] m6 m6 m8 ?_
      refine kQ fun mr => ?_; refine gm ?_; refine Ka (H9 ?_); refine cD (fun g => ?_) fun g => ?_
      refine kE ?_
      refine LT 1 O O (gy ?_)
      (refine Jf O O (.cons (Qw O (kn 1 O) O O) .nil) (fun w1 hs1 => ?_)
       first | exact ⟨by rw [Qd, if_pos m5]; rfl, hs1.keep⟩ | exact ⟨by rw [Qd, if_neg m5, if_pos m9]; rfl, hs1.keep⟩)
      refine gk ?_
      have hfo := vI (a := a) (b := b) (c := c) (d := d) (pb := pb) (pi := pi) (p := p) Mi m9
      have hxl : ∀ i, i < items.length → W1 k pick i < ins.length := fun i hi => Zm (v := .mk a b c d bits pb items pi pick) hck m9 hi
      have hp8 : k = 8 → 0 ≤ pick := fun h => by subst h; exact J0s (v := .mk a b c d bits pb items pi pick) m9
      refine F6 fun pp => ?_
      obtain ⟨rt, rv⟩ := pp
      refine Dg ?_
      refine WS (τ := Int) (fun i (_ : Unit) => i ≤ items.length ∧ Vh (items.drop i) k pick ins i = Vh items k pick ins 0) (fun _ => [(r3, .cells #[.int .i64 (0)] 37 (0, 0))]) (fun j e => j = .ret ∧ e = Vh items k pick ins 0) (fun e => [(r3, .cells #[.int .i64 (e)] 37 (0, 0))]) [Xq rv (.mk a b c d bits pb items pi pick), WG rt (.mk k n p ins), _, _, _] () O O (enters_of Tryz.func301 m6 O) (Jgm (n := n) (a := a) (b := b) (c := c) (d := d) (bits := bits) (pb := pb) hl hlt hs hst hxl hp8 rt rv) mE O (fun q hq => by rcases List.mem_cons.1 hq with rfl | hq; exact .inl ml; rcases List.mem_cons.1 hq with rfl | hq; exact .inl ml; exact .inr hq) O ⟨Nat.zero_le _, rfl⟩ ?_ ?_ ?_
      rintro q Xr Xb w3 i _ _ ⟨⟩ ⟨hii, rfl, rfl⟩ ⟨hil, hinv⟩ Kr hKr; refine inR ?_
      have hix := V3 hii
      have hty := Qi (hxl i hii)
      rw [VY hix.1, Vh] at hinv
      unfold Ja1
      refine kE ?_; refine LN O fun r6 => E0 ?_; refine LN O fun r7 => Hc ?_; refine gE ?_; clear hKr; refine gx ?_; refine cD (fun g => ?_) fun g => ?_
      refine Gy ?_
      refine LT 2 O O (gM ?_); refine KU [2] (L' := [_]) m7 O (vn (Qd (X0 items i) (JT k pick ins i)) ⟨rfl, by rw [if_neg m9] at hinv; exact hinv⟩ O)
      refine Kk 2 O (KU [2] (L' := [_]) m7 O (Qa () ⟨by omega, by rw [if_pos m9] at hinv; exact hinv⟩ O))
      rintro D i ⟨⟩ hfi ⟨hil, hinv⟩
      have hin : i = items.length := hfi
      have hz : Vh items k pick ins 0 = 0 := by rw [← hinv, hin, List.drop_length, Vh]
      refine gqo 4 O ?_
      refine LT 1 O O (H6 ?_)
      (refine Qu (k := 0) O O ?_
       refine GV fun w1 hs1 => ?_
       first | exact ⟨by rw [hfo, ← he]; rfl, hs1.keep⟩ | exact ⟨by rw [hfo, hz]; rfl, hs1.keep⟩)
      rintro D j e ⟨rfl, he⟩
      refine Kk 3 O ?_
      first
        | (refine Qu (k := 0) O O ?_
           refine GV fun w1 hs1 => ?_
           first | exact ⟨by rw [hfo, ← he]; rfl, hs1.keep⟩ | exact ⟨by rw [hfo, hz]; rfl, hs1.keep⟩)
        | (refine Jf O O (.cons (Qw O (kn 0 O) O O) .nil) (fun w1 hs1 => ?_)
           first | exact ⟨by rw [Qd, if_pos m5]; rfl, hs1.keep⟩ | exact ⟨by rw [Qd, if_neg m5, if_pos m9]; rfl, hs1.keep⟩)
        | (refine Jf O O (.cons (Qw O (kn 1 O) O O) .nil) (fun w1 hs1 => ?_)
           first | exact ⟨by rw [Qd, if_pos m5]; rfl, hs1.keep⟩ | exact ⟨by rw [Qd, if_neg m5, if_pos m9]; rfl, hs1.keep⟩)
      skip)
   skip)
theorem Jsr (ht : t.In R) (hv : v.In R) : PureR Tryz.prog 99 [t.val, v.val].toArray (.int .i64 (VF t v)) R := by
 have h1 := Jly ht
 have h2 := J16 hv t 0 ht
 obtain ⟨k, n, p, ins⟩ := t
 obtain ⟨a, b, c, d, bits, pb, items, pi, pick⟩ := v
 refine Jc Tryz.func99 O O fun w => NB fun r1 r2 => ?_; refine Gu ?_; refine LR O (Jz (vs := [_, _, _]) O (kn 1 O) O O O O) (Ji O O O (enters_of Tryz.func157 m6 O) h1 oR (H2 ?_)); refine cD (fun g => ?_) fun g => ?_
 refine Ej fun w1 hs1 => ?_; rw [VF, if_neg m9]; rfl
 ·refine Qy 6 [1, 0] O O (Ji O O O Jr1 (h2 m9) oR (DE fun w1 hs1 => ?_)); rw [VF, if_pos m9]; rfl
theorem zE {n : Nat} (h : n < 256) : UInt8.ofNat n = 0 ↔ n = 0 := by
 constructor
 ·intro e
  have := congrArg UInt8.toNat e
  rw [UInt8.toNat_ofNat', Nat.mod_eq_of_lt h] at this; exact this
 ·rintro rfl; rfl
theorem zF (l : List Nat) : ∀ n k, (Lib.trimLeftB (Yw l n) 0).length ≤ k ↔ ∀ t, k ≤ t → t < n → dg l t = 0
 | 0, k => by simp [Yw, Lib.trimLeftB]
 | n + 1, k => by
  have ih := zF l n k
  by_cases hz : dg l n = 0
  ·have e : Lib.trimLeftB (Yw l (n + 1)) 0 = Lib.trimLeftB (Yw l n) 0 := by simp [Yw, Lib.trimLeftB, hz]
   rw [e, ih]
   constructor
   ·intro h t h1 h2
    by_cases ht : t = n
    ·rw [ht]; exact hz
    ·exact h t h1 m5
   ·intro h t h1 h2; exact h t h1 m5
  ·have hne : ¬ UInt8.ofNat (dg l n) = 0 := fun e => hz ((zE (Jks l n)).1 e)
   have e : Lib.trimLeftB (Yw l (n + 1)) 0 = Yw l (n + 1) := by simp [Yw, Lib.trimLeftB, hne]
   rw [e, Q2]
   constructor
   ·intro h t h1 h2; omega
   ·intro h
    rcases Nat.lt_or_ge n k with hk | hk
    ·omega
    ·exact absurd (h n hk m5) hz
theorem Joo {l : List Nat} (hl : WOk l) : Jcg l = decide ((WF l).length ≤ 8) := by
 unfold Jcg WF
 rw [decide_eq_decide, zF]
 constructor
 ·intro h t h1 h2
  have hj : t / 8 = 1 ∨ t / 8 = 2 ∨ t / 8 = 3 := by omega
  rw [h]
  rcases hj with e | e | e <;> simp [dg, e]
 ·intro h
  have hz : ∀ j, 1 ≤ j → j < 4 → l.getD j 0 = 0 := fun j h1 h2 => by
   rw [← Je9 hl h2]
   have : ∀ m, m ≤ 8 → pw (dg l) j m = 0 := by
    intro m
    induction m with
    | zero => intro _; rfl
    | succ m ih => intro hm; simp only [pw]; rw [ih m5, h (8 * j + m) m5 m5]; simp
   exact this 8 m5
  obtain ⟨a, b, c, d, rfl, _⟩ := hl.four
  have e1 := hz 1 m7 m7
  have e2 := hz 2 m7 m7
  have e3 := hz 3 m7 m7
  simp only [List.getD_cons_zero, List.getD_cons_succ] at e1 e2 e3 ⊢; rw [e1, e2, e3]
theorem zG : ∀ n, Lib.repeatL [0] n = List.replicate n 0
 | 0 => rfl
 | n + 1 => by rw [Lib.repeatL, zG n]; rfl
theorem Jgn (t : List UInt8) : ∃ k, t = List.replicate k 0 ++ Lib.trimLeftB t 0 := by
 induction t with
 | nil => exact ⟨0, rfl⟩
 | cons x t ih =>
  by_cases hx : x = 0
  ·subst hx
   obtain ⟨k, hk⟩ := ih
   refine ⟨k + 1, ?_⟩; simp only [Lib.trimLeftB, if_true, List.replicate_succ, List.cons_append] at hk ⊢
   simpa using hk
  ·exact ⟨0, by simp [Lib.trimLeftB, hx]⟩
theorem Jjb (l : List Nat) : (WF l).length ≤ 32 := by
 obtain ⟨k, hk⟩ := Jgn (Yw l 32)
 have h := congrArg List.length hk
 rw [Q2, List.length_append, List.length_replicate] at h
 unfold WF; omega
theorem Jss (n : Nat) : Jcg [n, 0, 0, 0] = true := by simp [Jcg]
theorem Jop {n : Nat} (h : n < 18446744073709551616) : WOk [n, 0, 0, 0] := ⟨rfl, fun x hx => by simp at hx; rcases hx with rfl | rfl <;> simp_all⟩
def beN (n : Nat) : List UInt8 := WF [n, 0, 0, 0]
theorem Jjc {n t : Nat} (h : t < 8) : dg [n, 0, 0, 0] t = n / 256 ^ t % 256 := by
 have e : t / 8 = 0 := by omega
 have e2 : t % 8 = t := by omega
 simp only [dg, e, e2, List.getD_cons_zero]; rw [show (256 : Nat) = 2 ^ 8 from rfl, ← Nat.pow_mul, Nat.mul_comm]
theorem Jst {n t : Nat} (h : 8 ≤ t) (h2 : t < 32) : dg [n, 0, 0, 0] t = 0 := by
 have hj : t / 8 = 1 ∨ t / 8 = 2 ∨ t / 8 = 3 := by omega
 rcases hj with e | e | e <;> simp [dg, e]
theorem Jl1 {n k : Nat} (hn : n < 18446744073709551616) (hk : k ≤ 8) : (beN n).length ≤ k ↔ n < 256 ^ k := by
 unfold beN WF
 rw [zF]
 constructor
 ·intro h
  have h' : ∀ t, k ≤ t → t < 8 → n / 256 ^ t % 256 = 0 := fun t h1 h2 => by rw [← Jjc h2]; exact h t h1 m5
  have key : ∀ j, k ≤ j → j ≤ 8 → n < 256 ^ j → n < 256 ^ k := by
   intro j
   induction j with
   | zero => intro h1 _ h3; rw [show k = 0 from by omega]; exact h3
   | succ j ih =>
    intro h1 h2 h3
    by_cases e : k = j + 1
    ·rw [e]; exact h3
    ·refine ih m5 m5 ?_
     have h4 := h' j m5 m5
     have h5 : n / 256 ^ j < 256 := by
      rw [Nat.div_lt_iff_lt_mul (Nat.pow_pos m7)]; rw [Nat.pow_succ, Nat.mul_comm] at h3; exact h3
     rw [Nat.mod_eq_of_lt h5] at h4
     rcases Nat.div_eq_zero_iff.1 h4 with h6 | h6
     ·have := Nat.pow_pos (n := j) (show 0 < 256 by decide); omega
     ·exact h6
  exact key 8 hk (Nat.le_refl _) hn
 ·intro h t h1 h2
  by_cases ht : t < 8
  ·rw [Jjc ht, Nat.div_eq_of_lt (Nat.lt_of_lt_of_le h (Nat.pow_le_pow_right m7 h1))]
  ·exact Jst m5 h2
theorem Jsu {n : Nat} (hn : n < 18446744073709551616) : Pure Tryz.prog 138 [uV n].toArray (.string (bs (beN n))) := by
 refine Jl Tryz.func138 O O fun w => Gi ?_; refine Jn O O O wu (Wu n) (Jn O O O (enters_of Tryz.func200 m6 O) (qK (Jop hn)) ?_); exact NU
theorem Jsv {n : Nat} (hn : n < 18446744073709551616) : Pure Tryz.prog 147 [uV n].toArray (.string (bs (beN n))) := by
 refine Jl Tryz.func147 O O fun w => Gi ?_; refine kD ?_; refine Jn O O O (enters_of Tryz.func204 m6 O) (Jgf (l := [n, 0, 0, 0]) (Jop hn)) ?_; exact NU
def jZ (n : Nat) (w : Int) : List UInt8 × Int := if w < 1 ∨ w > 8 ∨ ((beN n).length : Int) > w then ([], 1) else (Y2 n w.toNat, 0)
def Wm (p : List UInt8 × Int) : Value := .tuple #[.string (bs p.1), .int .i64 p.2]
theorem Jyc {n k : Nat} (h : i < k) : ((Y2 n i ++ List.replicate (k - i) 0).map bV).set i (bV (UInt8.ofNat (n / 2 ^ (8 * i) % 256))) = (Y2 n (i + 1) ++ List.replicate (k - (i + 1)) 0).map bV := by
 rw [← List.map_set, List.set_append_right _ _ (by rw [Qk]; exact Nat.le_refl _), Qk, Nat.sub_self, show k - i = (k - (i + 1)) + 1 from by omega, List.replicate_succ, List.set_cons_zero, yU, List.append_assoc]; rw [show (256 : Nat) ^ i = 2 ^ (8 * i) from by rw [show (256 : Nat) = 2 ^ 8 from rfl, ← Nat.pow_mul]]
 rfl
theorem qM {n : Nat} (hn : n < 18446744073709551616) (k : Int) : Pure Tryz.prog 88 [uV n, .int .i64 k].toArray (Wm (jZ n k)) := by
  refine Jl Tryz.func88 O O fun w => JJ (Jt 12 O ?_)
  refine Jv 10 O (fun gb => ?_) (fun gb => ?_) <;> (try simp only [ZZ] at gb) <;> first | (refine Q1 O ?_) | (refine LK O ?_)
  all_goals refine LW 3 [] O O ?_
  all_goals first | refine LK O ?_ | (refine Jv 14 O (fun gb => ?_) (fun gb => ?_) <;> (try simp only [ZZ] at gb) <;> first | (refine Q1 O ?_) | (refine LK O ?_))
  all_goals first | (refine Jn O O O (enters_of Tryz.func138 m6 O) (Jsu hn) ?_) | refine LK O ?_
  all_goals refine gc ?_
  all_goals (
   refine HX ?_; refine J7 O (fun g => ?_) (fun g => ?_)
   try simp only [ZZ] at g
   exact I2
   · try exact Bool.noConfusion g
     all_goals try simp only [ZZ] at g
     all_goals (
      refine GU ?_
      have hk1 : 1 ≤ k ∧ k ≤ 8 ∧ ((beN n).length : Int) ≤ k := by omega
      have hlr : jZ n k = (Y2 n k.toNat, 0) := by unfold jZ; rw [if_neg m5]
      obtain ⟨k, rfl⟩ : ∃ j : Nat, k = j := ⟨k.toNat, by omega⟩
      rw [Int.toNat_natCast] at hlr; refine kE ?_; refine V2 (n := k) (b := 1) O O O O O O O O O m5 m5 fun r2 => gY ?_; refine kF ?_; refine Gb ?_; refine Jw (σ := Nat) (fun i => i ≤ k) (fun i => [(0, uV n), (6, .slice (some ⟨r2, 0, none⟩) k k), (24, .int .i64 (k : Int)), (25, .int .i64 (i : Int))]) (fun i => [(r2, .cells ((Y2 n i ++ List.replicate (k - i) 0).map bV).toArray 5 (0, 0))]) (fun _ _ _ => True) (fun i => k - i) 0 (Nat.zero_le _) (lK O) (by simp [Y2, bV]) (fun _ _ h => h) ?_; intro i hi; refine NO ?_; refine cD (fun g => ?_) fun g => ?_
      refine Jt 16 O (Jq (show _ = Value.int .i64 ((8 * i : Nat) : Int) from congrArg (Value.int .i64) mc) (LR rfl (jE (n := 8 * i) rfl rfl m5 mM m5 (Za _ _)) (QN rfl (Jq (show _ = bV (UInt8.ofNat (n / 2 ^ (8 * i) % 256)) from yT _) (LR rfl (JO (j := i) (m := 1) (off' := i) rfl rfl rfl rfl m5 m5 m5) ?_))))); refine KF (k := 0) (off := i) (xs := (Y2 n i ++ List.replicate (k - i) 0).map bV) (ys := (Y2 n (i + 1) ++ List.replicate (k - (i + 1)) 0).map bV) O O O O O O (by simp [Qk]; omega) (Jyc m5) rfl (kL ?_); exact DN
      refine NO ?_
      have hik : k = i := by omega
      subst hik; refine kE ?_; refine LR O (Kw (b := Y2 n k) (row := some (r2, k, [])) (e := 5) (show _ = some (J9 (Y2 n k).length (some (r2, k, []))) from by rw [Qk]; rfl) ⟨by simp [Qk], by simp [Qk]⟩ (fun p hp => .inl ML) rfl rfl rfl) (gy ?_); refine NA fun w1 hs1 => ?_; rw [hlr]; rfl
      skip)
   skip)
theorem Jsw (n d i : Nat) : n / d ^ (i + 1) = n / d ^ i / d := by rw [Nat.pow_succ, Nat.div_div_eq_div_mul]
theorem Joq (n i : Nat) : (Y2 n (i + 1)).map bV = (Y2 n i).map bV ++ [bV (UInt8.ofNat (n / 256 ^ i % 256))] := by rw [yU]; simp
theorem zH {n : Nat} (hn : n < 18446744073709551616) (k : Int) : Pure Tryz.prog 92 [uV n, .int .i64 k].toArray (Wm (jZ n k)) := by
  refine Jl Tryz.func92 O O fun w => JJ (Jt 12 O ?_)
  refine Jv 10 O (fun gb => ?_) (fun gb => ?_) <;> (try simp only [ZZ] at gb) <;> first | (refine Q1 O ?_) | (refine LK O ?_)
  all_goals refine LW 3 [] O O ?_
  all_goals first | refine LK O ?_ | (refine Jv 14 O (fun gb => ?_) (fun gb => ?_) <;> (try simp only [ZZ] at gb) <;> first | (refine Q1 O ?_) | (refine LK O ?_))
  all_goals first | (refine Jn O O O (enters_of Tryz.func147 m6 O) (Jsv hn) ?_) | refine LK O ?_
  all_goals refine gc ?_
  all_goals (
   refine HX ?_; refine J7 O (fun g => ?_) (fun g => ?_)
   try simp only [ZZ] at g
   exact I2
   · try exact Bool.noConfusion g
     all_goals try simp only [ZZ] at g
     all_goals (
      refine JC 9 O ?_
      have hk1 : 1 ≤ k ∧ k ≤ 8 ∧ ((beN n).length : Int) ≤ k := by omega
      have hlr : jZ n k = (Y2 n k.toNat, 0) := by unfold jZ; rw [if_neg m5]
      obtain ⟨k, rfl⟩ : ∃ j : Nat, k = j := ⟨k.toNat, by omega⟩
      rw [Int.toNat_natCast] at hlr; refine gk ?_; refine Jw (σ := Nat × List Value × QC) (fun q => q.1 ≤ k ∧ q.2.1 = (Y2 n q.1).map bV ∧ rowOk 1 q.1 q.2.1 q.2.2) (fun q => [(0, uV (n / 256 ^ q.1)), (1, .int .i64 (k : Int)), (6, J9 q.1 q.2.2), (7, .int .i64 (q.1 : Int))]) (fun q => JE 5 q.2.1 q.2.2) (fun _ _ _ => True) (fun q => k - q.1) (0, [], none) ⟨by simp, rfl, ⟨rfl, rfl⟩⟩ (.cons (by simp only [Nat.pow_zero, Nat.div_one]; rfl) (lK rfl)) (List.nil_sublist _) (fun _ _ h => h) ?_; rintro ⟨i, xs, row⟩ ⟨hi, hxs, hrow⟩; simp only at hi hxs hrow ⊢; refine JC 8 O (cD (fun g => ?_) fun g => ?_)
      refine Jt 9 O (Jq (show _ = uV (n / 256 ^ i % 256) from congrArg (Value.int .u64) (KT _ 256)) (QN rfl (Jq (show _ = bV (UInt8.ofNat (n / 256 ^ i % 256)) from Jcc (Nat.mod_lt _ m7)) ?_))); refine kj fun r1 => ?_; refine JA (L0 := [_]) (xs := xs) (row := row) (n := i) (sz := 1) (b := 1) (news := [_]) (List.perm_append_comm (l₁ := [_])) O O O O (kn 0 O) O O O O O m7 O O O m7 hrow m5 m5 fun ra cap sp hra => Gu ?_; refine Jq (show _ = uV (n / 256 ^ (i + 1)) from congrArg (Value.int .u64) (by rw [Jsw]; exact J5h (by have := Nat.div_le_self n (256 ^ i); omega))) (D8 ?_); refine KU [0] (L' := [_]) m7 O ?_; exact Jo (i + 1, xs ++ [bV (UInt8.ofNat (n / 256 ^ i % 256))], some (ra, cap, sp)) ⟨by simp only; omega, by simp only; rw [Joq, hxs], hra⟩ mh (lK rfl) (List.Sublist.refl _) (fun _ _ h => h)
      refine NO ?_
      have hik : k = i := by omega
      subst hik; refine kE ?_; refine LR O (Kw (b := Y2 n k) (row := row) (e := 5) (show _ = some (J9 (Y2 n k).length row) from by rw [Qk]; rfl) (by rw [Qk, ← hxs]; exact hrow) (fun p hp => .inl (by rw [hxs]; exact hp)) O O O) (gy ?_); refine NA fun w1 hs1 => ?_; rw [hlr]; rfl
      skip)
   skip)
mutual
def Yy : Vl → Nat
 | .mk _ _ _ _ bits _ items _ _ => 1 + bits.length / 8 + wL items
def wL : List Vl → Nat
 | [] => 0
 | x :: xs => Yy x + wL xs
end
def YD (head : Nat) : List (Ty × List UInt8) → List UInt8 → List UInt8 → List UInt8
 | [], f, th => f ++ th
 | (x, s) :: l, f, th => if VD x then YD head l (f ++ s) th else YD head l (f ++ (jZ (head + th.length) 4).1) (th ++ s)
def xR (x : Ty) : Int := if VD x then KX x else 4
def Vc : List Ty → Int
 | [] => 0
 | x :: l => xR x + Vc l
mutual
def Vj : Vl → Ty → List UInt8
 | .mk a b c d bits _ items _ pick, t =>
  if t.k = 1 then yY [a, b, c, d] t.n.toNat else if t.k = 2 then yY [a, b, c, d] 1 else if t.k = 5 then WB bits else if t.k = 6 then WB (bits ++ [true])
  else if t.k = 8 then UInt8.ofNat pick.toNat :: ((Qr items t.k pick t.ins 0).headD (default, [])).2
  else YD (Vc ((Qr items t.k pick t.ins 0).map Prod.fst)).toNat (Qr items t.k pick t.ins 0) [] []
def Qr : List Vl → Int → Int → List Ty → Nat → List (Ty × List UInt8)
 | [], _, _, _, _ => []
 | x :: xs, k, pick, ins, i => (JT k pick ins i, Vj x (JT k pick ins i)) :: Qr xs k pick ins (i + 1)
end
theorem zI (n : Nat) : (jZ n 4).1.length ≤ 4 := by
 unfold jZ
 split
 ·exact Nat.zero_le _
 ·rw [Qk]; decide
theorem zJ (head : Nat) : ∀ (l : List (Ty × List UInt8)) (f th : List UInt8), (YD head l f th).length ≤ f.length + th.length + (l.map fun p => p.2.length + 4).sum
 | [], f, th => by rw [YD, List.length_append]; simp
 | (x, s) :: l, f, th => by
  rw [YD, List.map_cons, List.sum_cons]
  have h4 := zI (head + th.length)
  split
  ·have := zJ head l (f ++ s) th
   rw [List.length_append] at this
   simp only
   omega
  ·have := zJ head l (f ++ (jZ (head + th.length) 4).1) (th ++ s)
   rw [List.length_append, List.length_append] at this
   simp only
   omega
theorem qN (v : Vl) : ∀ t : Ty, (Vj v t).length + 4 ≤ 40 * Yy v := by
 induction v using Vl.ind with
 | h a b c d bits pb items pi pick ih =>
  intro t
  have key : ∀ (l : List Vl) (i : Nat), (∀ x ∈ l, x ∈ items) → ((Qr l t.k pick t.ins i).map fun p => p.2.length + 4).sum ≤ 40 * wL l := by
   intro l
   induction l with
   | nil => intro i _; rw [Qr, wL]; exact Nat.zero_le _
   | cons x xs ihl =>
    intro i hs; rw [Qr, wL, List.map_cons, List.sum_cons]
    have h1 := ih x (hs x List.mem_cons_self) (JT t.k pick t.ins i)
    have h2 := ihl (i + 1) fun y hy => hs y (List.mem_cons_of_mem _ hy)
    simp only at h1 ⊢; omega
  have hk := key items 0 fun _ h => h
  have hle : ∀ n, (yY [a, b, c, d] n).length ≤ 32 := fun n => by unfold yY; rw [List.length_take, List.length_reverse, Q2]; omega
  rw [Vj, Yy]
  split
  ·have := hle t.n.toNat; omega
  ·split
   ·have := hle 1; omega
   ·split
    ·rw [Y8]; omega
    ·split
     ·rw [Y8, List.length_append]; simp only [List.length_cons, List.length_nil]; omega
     ·split
      ·rw [List.length_cons]
       cases items with
       | nil => rw [Qr]; simp only [List.headD_nil, List.length_nil]; omega
       | cons x xs =>
        rw [Qr, List.headD_cons]
        have h1 := ih x List.mem_cons_self (JT t.k pick t.ins 0)
        rw [wL]
        simp only
        omega
      ·have h1 := zJ (Vc ((Qr items t.k pick t.ins 0).map Prod.fst)).toNat (Qr items t.k pick t.ins 0) [] []
       simp only [List.length_nil] at h1; omega
def Jyd (t : Ty) (v : Vl) : List UInt8 × Int := if VF t v ≠ 0 then ([], VF t v) else if (Vj v t).length > 65536 then ([], 5) else (Vj v t, 0)
theorem Jye {n : Nat} (hn : n < 18446744073709551616) : (beN n).length ≤ 8 := (Jl1 hn (Nat.le_refl 8)).2 hn
theorem J0u {n k : Nat} (hn : n < 18446744073709551616) (hk : k < 9223372036854775808) : Pure Tryz.prog 238 [uV n, .int .i64 (k : Int)].toArray (uV (Jp n k)) := by
 refine Jl Tryz.func238 O O fun w => JJ ?_
 have hk6 : k % 64 < 64 := Nat.mod_lt _ m7
 refine Jt 9 O (Jq (show _ = uV k from congrArg (Value.int .u64) (wrap_u64 m5 m5)) (LR rfl (Qp (op := .and) (b := ((k % 64 : Nat) : Int)) rfl rfl rfl m5 m7 (congrArg (fun z : Nat => (z : Int)) (Nat.and_two_pow_sub_one_eq_mod k 6))) (gY ?_))); refine EE ?_; refine Jq (show _ = uV (64 - k % 64) from congrArg (Value.int .u64) Mv) (LR rfl (jE (n := 64 - k % 64) rfl rfl rfl mM m5 (Za _ _)) ?_); exact HN
theorem Jda : Pure Tryz.prog 237 [].toArray (.func (.func 313) #[] #[]) := by
 refine Jl Tryz.func237 O O fun w => JJ (Kk 11 O ?_); exact Nz
def Jsx (i : Nat) : List Value := [.int .i64 (i : Int), .agg [.int .i64 ((i % 5 : Nat) : Int), .int .i64 ((i / 5 : Nat) : Int)].toArray]
theorem Jdb : ql Tryz.prog 313 [] [] 0 (nxN Jsx 25) (xO 25) := by
  refine VA Tryz.func313 O O fun q xids w2 XI XF hY => FA ?_; refine Jw (σ := Nat) (fun i => i ≤ 25) (fun i => [(0, .func (.yield q) #[] #[]), (3, .int .i64 (i : Int))]) (fun _ => []) (fun i => XI i) (fun i => 25 - i) 0 (Nat.zero_le _) (lK O) (List.nil_sublist _) (fun _ _ h => h) ?_; intro i hi; refine NO ?_; refine cD (fun g => ?_) fun g => ?_
  · refine Jt 16 O (Jq (show _ = Value.int .i64 ((i % 5 : Nat) : Int) from congrArg (Value.int .i64) (KT _ 5)) (ko ?_)); refine Jq nj (Gj ?_); refine VV (XT := XI (i + 1)) (XF := XF) O O O O (hY i (Jsx i) (i + 1) ⟨by omega, rfl, rfl⟩) ?_ ?_
    all_goals (
     refine D5 ?_; refine J7 O (fun g => ?_) (fun g => ?_)
     · try exact Bool.noConfusion g
       all_goals try simp only [ZZ] at g
       all_goals (
        exact Nr
        skip)
     · try exact Bool.noConfusion g
       all_goals try simp only [ZZ] at g
       all_goals (
        refine Gz ?_; exact kI
        skip)
     skip)
  · refine gs fun w1 hs1 => ?_
    obtain ⟨xs1, hx1⟩ := hs1.now
    exact ⟨⟨_, rfl⟩, hs1.keep, .inl ⟨i, _, (by show i = 25; omega), hx1⟩⟩
def kO (a : List Nat) : Obj := .cells (a.map uV).toArray 148 (0, 0)
def cO (c : List Nat) : Obj := .cells (c.map uV).toArray 285 (0, 0)
theorem Jor {a : List Nat} (ha : SOk 25 a) (r : Nat) : PureM Tryz.prog 236 [.pointer (some ⟨r, 0, none⟩)].toArray (.tuple #[]) r (kO a) (kO (Jcn a)) := by
 refine wi Tryz.func236 O O fun w => ?_; refine JJ ?_
 have hal := ha.1
 obtain ⟨cc, hcc⟩ : ∃ c, c = cS a 25 := ⟨_, rfl⟩
 have hc : SOk 5 cc := by rw [hcc]; exact ze ha 25
 have hmx : Jcn a = mS cc a 25 := by rw [hcc]; rfl
 refine Jt 2 O ?_; refine LN O fun r1 => ?_; refine JH 4 O ?_; refine KL (cs := ((cS a 0).map uV).toArray) O O O O fun r2 => ?_; refine JH 5 O ?_; refine Jn O O O Jlo Jda ?_; refine JN 3 O ?_; refine XN (τ := Unit) (fun i (s : List Nat) => s = cS a i ∧ i ≤ 25) (fun s => [(r2, cO s)]) (fun _ _ => False) (fun _ => []) [(r1, _), (r, kO a)] (cS a 0) O O Jlu Jdb (by rintro _ _ _ ⟨_, rfl, _⟩; rfl) rfl (by simp) rfl ⟨rfl, by decide⟩ ?_ ?_ ?_
 rintro q Xr Xb w3 i _ _ s ⟨hi, rfl, rfl⟩ ⟨hs, -⟩ Kr hKr; refine inR ?_
 have hsk : SOk 5 s := by rw [hs]; exact ze ha i
 have hsl := hsk.1
 refine Jt 6 O ?_; refine LN O fun r2 => ?_
 refine LT 0 O O ?_; refine J1 1 O ?_; refine hKr _ _ ?_; refine JJ ?_; clear hKr; refine JC 1 O ?_; refine JK 11 (by kernel_rfl) (by kernel_rfl) ?_
 refine Ja O O O (JD (j := 0) O O O O O (by first | decide | omega) (by first | (simp only [Nat.zero_add, Nat.reduceAdd, Nat.reduceMul, Nat.zero_mul, Nat.mul_one, Nat.add_zero]; exact rfl) | exact rfl)) ?_; refine Ja O O O (Je O (kn 0 O) O O) ?_; refine Ja O O O (JD (j := i % 5) (m := 1) (off' := i % 5) O O O O (by omega) (by omega) (by omega)) ?_; refine Ja O O O (Kf O (kn 1 O) O (Kt (by rw [hsl]; omega))) ?_; refine Ja O O O (Je O (JF (k := 0) O) O O) ?_; refine Ja O O O (Jg O) ?_; refine Ja O O O (J2 O O O) ?_; refine Ja O O O (JD (j := i) (m := 1) (off' := i) O O O O (by omega) (by omega) (by omega)) ?_; refine Ja O O O (Kf O (JF (k := 1) O) O (Kt (by rw [hal]; omega))) ?_; refine Ja O O O (Qp (op := .xor) (b := ((s.getD (i % 5) 0 ^^^ a.getD i 0 : Nat) : Int)) O O O (hsk.get _) (ha.get _) O) ?_; refine Ja O O O (JD (j := i % 5) (m := 1) (off' := i % 5) O O O O (by omega) (by omega) (by omega)) ?_; refine JS ?_; refine KF (k := 1) (off := i % 5) (xs := s.map uV) (ys := (cS a (i + 1)).map uV) O O O O O O (by rw [List.length_map, hsl]; omega) (QU (by rw [hs]; rfl)) rfl ?_; refine J1 2 O ?_; refine KU [1] (L' := [_]) (by decide) rfl ?_; exact Qa (cS a (i + 1)) ⟨rfl, by omega⟩ rfl
 rintro D i s hfi ⟨hs, -⟩
 have hi25 : i = 25 := hfi
 subst hi25; rw [← hcc] at hs
 have hs := hs.symm
 subst hs; refine gqo 4 O ?_; refine Jn O O O Jlo Jda ?_; refine JN 3 O ?_; refine Vz [3, 0, 1, 2] (by decide) rfl ?_; refine XN (τ := Unit) (fun i (s : List Nat) => s = mS cc a i ∧ i ≤ 25) (fun s => [(r, kO s)]) (fun _ _ => False) (fun _ => []) [(D, _), (r2, cO cc), (r1, _)] (a) O O Jlu Jdb (by rintro _ _ _ ⟨_, rfl, _⟩; rfl) rfl (by simp) rfl ⟨rfl, by decide⟩ ?_ ?_ ?_
 rintro q Xr Xb w3 i _ _ s ⟨hi, rfl, rfl⟩ ⟨hs, -⟩ Kr hKr; refine inR ?_
 have hsk : SOk 25 s := by rw [hs]; exact Jfg hc ha i
 have hsl := hsk.1
 refine Jt 6 O ?_; refine LN O fun r3 => ?_
 refine LT 0 O O ?_; refine J1 1 O ?_; refine hKr _ _ ?_; refine JJ ?_; clear hKr; refine Jt 3 O ?_
 refine LR O (JD (j := 0) O O O O O (by first | decide | omega) (by first | (simp only [Nat.zero_add, Nat.reduceAdd, Nat.reduceMul, Nat.zero_mul, Nat.mul_one, Nat.add_zero]; exact rfl) | exact rfl)) ?_; refine Goc 4 [0] O O ?_; refine JK 21 (by kernel_rfl) (by kernel_rfl) ?_; refine Ja O O O (Je O (JF (k := 2) O) O O) ?_; refine Ja O O O (Jg O) ?_; refine Ja O O O (J2 O O O) ?_; refine Ja O O O (JD (j := i) (m := 1) (off' := i) O O O O (by omega) (by omega) (by omega)) ?_; refine Ja O O O (Kf O (kn 1 O) O (Kt (by rw [hsl]; omega))) ?_; refine Ja O O O (Jg O) ?_; refine Ja O O O (J2 O O O) ?_; refine Ks (show _ = Value.int .i64 ((i % 5 + 5 : Nat) : Int) from congrArg (Value.int .i64) (by rw [wrap_i64 (by omega) (by omega)]; omega)) ?_; refine Ja O O O (J2 O O O) ?_; refine Ks (show _ = Value.int .i64 ((i % 5 + 5 - 1 : Nat) : Int) from congrArg (Value.int .i64) (by rw [wrap_i64 (by omega) (by omega)]; omega)) ?_; refine Ja O O O (J2 O O O) ?_; refine Ks (show _ = Value.int .i64 (((i % 5 + 5 - 1) % 5 : Nat) : Int) from congrArg (Value.int .i64) (by rw [Int.tmod_eq_emod_of_nonneg (by omega)]; omega)) ?_; refine Ja O O O (JD (j := (i % 5 + 5 - 1) % 5) (m := 1) (off' := (i % 5 + 5 - 1) % 5) O O O O (by omega) (by omega) (by omega)) ?_; refine Ja O O O (Kf O (JF (k := 1) O) O (Kt (by rw [hc.1]; omega))) ?_; refine Ja O O O (Jg O) ?_; refine Ja O O O (J2 O O O) ?_; refine Ks (show _ = Value.int .i64 ((i % 5 + 1 : Nat) : Int) from congrArg (Value.int .i64) (by rw [wrap_i64 (by omega) (by omega)]; omega)) ?_; refine Ja O O O (J2 O O O) ?_; refine Ks (show _ = Value.int .i64 (((i % 5 + 1) % 5 : Nat) : Int) from congrArg (Value.int .i64) (by rw [Int.tmod_eq_emod_of_nonneg (by omega)]; omega)) ?_; refine Ja O O O (JD (j := (i % 5 + 1) % 5) (m := 1) (off' := (i % 5 + 1) % 5) O O O O (by omega) (by omega) (by omega)) ?_; refine Ja O O O (Kf O (JF (k := 1) O) O (Kt (by rw [hc.1]; omega))) ?_; refine KI O O O (enters_of Tryz.func238 (by kernel_rfl) O) (J0u (k := 1) (hc.get _) (by decide)) ?_; refine Ja O O O (Qp (op := .xor) (b := ((cc.getD ((i % 5 + 5 - 1) % 5) 0 ^^^ Jp (cc.getD ((i % 5 + 1) % 5) 0) 1 : Nat) : Int)) O O O (hc.get _) (jn (hc.get _) 1) O) ?_; refine Ja O O O (Qp (op := .xor) (b := ((s.getD i 0 ^^^ (cc.getD ((i % 5 + 5 - 1) % 5) 0 ^^^ Jp (cc.getD ((i % 5 + 1) % 5) 0) 1) : Nat) : Int)) O O O (hsk.get _) (Wa (hc.get _) (jn (hc.get _) 1)) O) ?_; refine Ja O O O (J2 O O O) ?_; refine Ja O O O (JD (j := i) (m := 1) (off' := i) O O O O (by omega) (by omega) (by omega)) ?_; refine JS ?_; refine KF (k := 1) (off := i) (xs := s.map uV) (ys := (mS cc a (i + 1)).map uV) O O O O O O (by rw [List.length_map, hsl]; omega) (QU (by rw [hs]; rfl)) rfl ?_; refine J1 2 O ?_; refine KU [1] (L' := [_]) (by decide) rfl ?_; exact Qa (mS cc a (i + 1)) ⟨rfl, by omega⟩ rfl
 rintro D2 i s hfi ⟨hs, -⟩
 have hi25 : i = 25 := hfi
 subst hi25; refine Xk 1 O ?_; refine Qu (k := 0) O O ?_; refine Qu (k := 2) O O ?_; refine Jf O O .nil (fun w1 hs1 => ?_); exact ⟨rfl, _, List.mem_cons_of_mem _ (by rw [hmx, ← hs]; exact List.mem_cons_self), hs1⟩
 exact fun _ _ _ h => h.elim
 ·exact fun _ _ _ h => h.elim
theorem Jyf (ha : SOk 25 a) {n : Nat} (hn : n < 18446744073709551616) {by_ : List Nat} (hbl : by_.length = 25) (hby : ∀ i, by_.getD i 0 < 9223372036854775808) (r : Nat) :
  PureM Tryz.prog 178 [.pointer (some ⟨r, 0, none⟩), uV n, .agg (by_.map iV).toArray].toArray (.tuple #[]) r (kO a) (kO (zf by_ a n)) := by
 refine wi Tryz.func178 O O fun w => JJ ?_
 obtain ⟨m, hm⟩ : ∃ m, m = Jcn a := ⟨_, rfl⟩
 have hmk : SOk 25 m := by rw [hm]; exact Zd ha
 have hml := hmk.1
 have hbk := Jam by_ hmk 25
 obtain ⟨b, hb⟩ : ∃ b, b = rS m by_ 25 := ⟨_, rfl⟩
 have hbk : SOk 25 b := by rw [hb]; exact Jam by_ hmk 25
 have hbln := hbk.1
 have hra : zf by_ a n = Jkz (xS b m 25) n := by rw [hb, hm]; rfl
 refine kE ?_; refine LN O fun r1 => JX (cs := (by_.map iV).toArray) O O O O fun r2 => Ge ?_; refine Eu ?_; refine Jfb (k := 2) O O O (enters_of Tryz.func236 m6 O) O (Jor ha r) O ?_; rw [← hm]; refine Ge ?_; refine F1 fun r3 => ?_; refine kL ?_; refine Jn O O O Jlo Jda (ki ?_); refine XN (τ := Unit) (fun i (s : List Nat) => s = rS m by_ i ∧ i ≤ 25) (fun s => [(r3, kO s)]) (fun _ _ => False) (fun _ => []) [(r2, _), (r1, _), (r, kO m)] (z25) O O Jlu Jdb mE O ml O ⟨rfl, by decide⟩ ?_ ?_ ?_
 rintro q Xr Xb w3 i _ _ s ⟨hi, rfl, rfl⟩ ⟨hs, -⟩ Kr hKr; refine inR ?_
 have hsk : SOk 25 s := by rw [hs]; exact Jam by_ hmk i
 have hsl := hsk.1
 refine Gq ?_; refine LN O fun r2 => ?_
 refine NQ ?_; refine gE ?_; clear hKr; refine JC 2 O (JK 6 m6 m6 ?_)
 refine k9 ?_
 refine Hf ?_; refine HW ?_; refine H9 ?_; refine JK 19 m6 m6 (k5 ?_); refine Nn ?_; refine Ks nh (gr ?_); refine Ks ni (Nn ?_); refine Ks n8 (Nn ?_); refine Ks mU (Nn ?_); refine Ks mV (Nn ?_); refine Ks mQ (Ja O O O (Je O (JF (k := 1) O) O O) (gr ?_)); refine k7 ?_; refine Ja O O O (Kf O (JF (k := 2) O) O (Kt (by rw [hml]; omega))) (Nm ?_); refine k7 ?_; refine Ja O O O (Kf O (JF (k := 0) O) O (Jqx (by rw [hbl]; omega))) (KI rfl rfl rfl (enters_of Tryz.func238 m6 rfl) (J0u (k := by_.getD i 0) (hmk.get _) (hby i)) (Ja rfl rfl rfl (JD (j := (i / 5 + 5 * ((2 * (i % 5) + 3 * (i / 5)) % 5))) (m := 1) (off' := (i / 5 + 5 * ((2 * (i % 5) + 3 * (i / 5)) % 5))) rfl rfl rfl rfl m5 m5 m5) (JS (KF (k := 1) (off := i / 5 + 5 * ((2 * (i % 5) + 3 * (i / 5)) % 5)) (xs := s.map uV) (ys := (rS m by_ (i + 1)).map uV) rfl rfl rfl rfl rfl rfl nX (QU (by rw [hs]; rfl)) rfl (J1 2 rfl (KU [1] (L' := [_]) m7 rfl ?_)))))); exact Qa (rS m by_ (i + 1)) ⟨rfl, by omega⟩ rfl
 rintro D i s hfi ⟨hs, -⟩
 have hi25 : i = 25 := hfi
 subst hi25; rw [← hb] at hs
 have hs := hs.symm
 subst hs; refine gqo 5 O (Jn O O O Jlo Jda (ki ?_)); refine Vz [4, 0, 1, 2, 3] m7 O (XN (τ := Unit) (fun i (s : List Nat) => s = xS b m i ∧ i ≤ 25) (fun s => [(r, kO s)]) (fun _ _ => False) (fun _ => []) [(D, _), (r3, kO b), (r2, _), (r1, _)] (m) O O Jlu Jdb mE O ml O ⟨rfl, by decide⟩ ?_ ?_ ?_)
 rintro q Xr Xb w3 i _ _ s ⟨hi, rfl, rfl⟩ ⟨hs, -⟩ Kr hKr; refine inR ?_
 have hsk : SOk 25 s := by rw [hs]; exact Jan hbk hmk i
 have hsl := hsk.1
 refine Gq ?_; refine LN O fun r3 => ?_
 refine NQ ?_; refine gE ?_; clear hKr; refine JC 2 O (JK 8 m6 m6 ?_)
 refine k9 ?_; refine Nm ?_
 refine k9 ?_; refine Nn ?_; refine Ks (show _ = Value.int .i64 ((i - i % 5 : Nat) : Int) from congrArg (Value.int .i64) mc) (HW ?_); refine H9 ?_; refine JK 24 m6 m6 (Ja O O O (Je O (JF (k := 3) O) O O) (k5 ?_)); refine k7 ?_; refine E4 ?_; refine k5 ?_; refine Nn ?_; refine Ks mI (Nn ?_); refine Ks mG (Nn ?_); refine Ks (show _ = Value.int .i64 ((i - i % 5 + (i % 5 + 1) % 5 : Nat) : Int) from congrArg (Value.int .i64) mc) (Ja rfl rfl rfl (JD (j := (i - i % 5 + (i % 5 + 1) % 5)) (m := 1) (off' := (i - i % 5 + (i % 5 + 1) % 5)) rfl rfl rfl rfl m5 m5 m5) (E4 ?_)); refine Ja O O O (Jw7 O (hbk.get _)) (k5 ?_); refine Nn ?_; refine Ks (show _ = Value.int .i64 ((i % 5 + 2 : Nat) : Int) from congrArg (Value.int .i64) mc) (Nn ?_); refine Ks (show _ = Value.int .i64 (((i % 5 + 2) % 5 : Nat) : Int) from congrArg (Value.int .i64) mi) (Nn ?_); refine Ks (show _ = Value.int .i64 ((i - i % 5 + (i % 5 + 2) % 5 : Nat) : Int) from congrArg (Value.int .i64) mc) (Ja rfl rfl rfl (JD (j := (i - i % 5 + (i % 5 + 2) % 5)) (m := 1) (off' := (i - i % 5 + (i % 5 + 2) % 5)) rfl rfl rfl rfl m5 m5 m5) (E4 ?_)); refine Ja O O O (Qp (op := .and) (b := (((18446744073709551615 ^^^ b.getD (i - i % 5 + (i % 5 + 1) % 5) 0) &&& b.getD (i - i % 5 + (i % 5 + 2) % 5) 0 : Nat) : Int)) O O O (Wa m7 (hbk.get _)) (hbk.get _) O) (Ja O O O (Qp (op := .xor) (b := ((WC b i : Nat) : Int)) O O O (hbk.get _) (yZ (hbk.get _)) O) (Nn ?_)); refine k7 ?_; refine JS (KF (k := 1) (off := i) (xs := s.map uV) (ys := (xS b m (i + 1)).map uV) O O O O O O nX (QU (by rw [hs]; rfl)) rfl (J1 2 rfl (KU [1] (L' := [_]) m7 rfl ?_))); exact Qa (xS b m (i + 1)) ⟨rfl, by omega⟩ rfl
 rintro D2 i s hfi ⟨hs, -⟩
 have hi25 : i = 25 := hfi
 subst hi25
 have hsk : SOk 25 s := by rw [hs]; exact Jan hbk hmk 25
 have hsl := hsk.1
 refine XC 2 O (JK 8 m6 m6 (Ja O O O (Je O (kn 5 O) O O) (Nn ?_)))
 refine Dr ?_; refine Ja O O O (Kf O (kn 1 O) O (Kt (by rw [hsl]; omega))) (Nm ?_); refine Ja O O O (Qp (op := .xor) (b := ((s.getD 0 0 ^^^ n : Nat) : Int)) O O O (hsk.get _) (hn) O) (Nn ?_)
 refine Dr ?_; refine JS (KF (k := 1) (off := 0) (xs := s.map uV) (ys := (Jkz s n).map uV) O O O O O O nX (QU O) O (J1 1 O (HK ?_))); refine Qu (k := 2) O O (Jf O O .nil (fun w1 hs1 => ?_)); exact ⟨rfl, _, List.mem_cons_of_mem _ (by rw [hra, ← hs]; exact List.mem_cons_self), hs1⟩
 exact Gh
 ·exact Gh
end Go.Proofs.YtfaagelglpgpkaaGreatDoor
