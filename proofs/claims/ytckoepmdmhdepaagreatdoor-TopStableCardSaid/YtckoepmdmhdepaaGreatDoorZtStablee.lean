import Derived.Test.YtckoepmdmhdepaaGreatDoorZtStabled
import Derived.Lay
import Derived.LaidHandle
open Go.Proofs.Tryz (prog)
set_option maxRecDepth 100000
namespace Go.Proofs.YtckoepmdmhdepaaGreatDoor
set_option linter.all false
open Go.SL Go.RowKit Go.Shelf
variable {af : Array Edge} {at_ : Array TypeId} {args : Array Value} {pr : AxL → Bool} {id s : BS} {v : Bool} {fn : Func} {g : FuncId} {e hi lo : Int} {Z : Int × List It} {it : It} {x y : ItL} {F R Rl : J3} {kv : List (Value × Value)} {acc : List AxE} {ys : List ItL} {ts : List Nat} {caps cs vs : List Value} {α : Type} {a cap ch f i q r r1 r2 r5 sz u : Nat} {gd : Option (Nat × Bool)} {P : Program} {OK ok1 : Prop} {row : QZ} {ps : String} {t : TxL} {ty : TypeId} {c : UInt8} {bad : Value → Prop} {w : World} {LL : α → J3} {V : α → Value}
def Qq (a b : Int) : Value := .agg [.int .i64 a, .int .i64 b].toArray
def Jge (v : Value) : Prop := ∃ a b, v = Qq a b
def Jgf : Value → List Int
 | .agg cs => cs.toList.map fun | .int _ n => n | _ => 0
 | _ => []
def WD (x y : Value) : Bool := decide (Jgf x = Jgf y)
theorem xc (a b c d : Int) : WD (Qq a b) (Qq c d) = (a == c && b == d) := by
 unfold WD Qq Jgf
 by_cases h1 : a = c <;> by_cases h2 : b = d <;> simp [h1, h2]
theorem Jpq : KeyL prog 308 Jge WD where
 now := ⟨_, rfl, fun a b ⟨a1, a2, ha⟩ ⟨b1, b2, hb⟩ => by subst ha hb; exact .inl O⟩
 equal := by
  rintro _ _ w ⟨a, b, rfl⟩ ⟨c, d, rfl⟩; rw [xc]
  show (Op.equalIn (9999 + 1) _ (.agg _) (.agg _)).run _ _ = _
  rw [run_equalIn_struct w 9999 _ _ _ m4 m4]
  simp [go_sem]
  by_cases h1 : a = c <;> by_cases h2 : b = d <;> simp [h1, h2]
 check := by
  rintro _ b w ⟨x, y, rfl⟩; exact jv m4 mf b 9998 w
def tableKV : List (Value × Value) :=
 [(Qq 1 0, Qq 0 5), (Qq 1 1, Qq 0 5), (Qq 1 2, Qq 0 5), (Qq 1 126, Qq 0 5), (Qq 1 4, Qq 5 5), (Qq 2 0, Qq 0 0), (Qq 2 1, Qq 1 1), (Qq 2 2, Qq 2 5),
  (Qq 3 0, Qq 0 5), (Qq 3 1, Qq 3 5), (Qq 4 0, Qq 0 5), (Qq 4 2, Qq 4 5), (Qq 5 0, Qq 0 4), (Qq 5 1, Qq 5 5)]
def J2s : Type := { p : Nat × Array MapEntry // (p.2.toList.map Yc).Perm tableKV ∧ p.2.toList.map (·.born) = List.range p.2.size }
theorem yN : PureE (α := J2s) prog 217 [].toArray (fun x => .map (some x.1.1)) (fun x => [(x.1.1, .map x.1.2 x.1.2.size)]) := by
 refine Qm Tryz.func217 O O fun w => Kl (gv ?_); refine Jka (t := 305) 1 [(1, 2, .agg [.int .i64 1, .int .i64 0].toArray), (2, 3, .agg [.int .i64 0, .int .i64 5].toArray), (4, 4, .agg [.int .i64 1, .int .i64 1].toArray), (5, 5, .agg [.int .i64 0, .int .i64 5].toArray), (7, 6, .agg [.int .i64 1, .int .i64 2].toArray), (8, 7, .agg [.int .i64 0, .int .i64 5].toArray), (10, 8, .agg [.int .i64 1, .int .i64 126].toArray), (11, 9, .agg [.int .i64 0, .int .i64 5].toArray), (13, 10, .agg [.int .i64 1, .int .i64 4].toArray), (14, 11, .agg [.int .i64 5, .int .i64 5].toArray), (16, 12, .agg [.int .i64 2, .int .i64 0].toArray), (17, 13, .agg [.int .i64 0, .int .i64 0].toArray), (19, 14, .agg [.int .i64 2, .int .i64 1].toArray), (20, 15, .agg [.int .i64 1, .int .i64 1].toArray), (22, 16, .agg [.int .i64 2, .int .i64 2].toArray), (23, 17, .agg [.int .i64 2, .int .i64 5].toArray), (25, 18, .agg [.int .i64 3, .int .i64 0].toArray), (26, 19, .agg [.int .i64 0, .int .i64 5].toArray), (28, 20, .agg [.int .i64 3, .int .i64 1].toArray), (29, 21, .agg [.int .i64 3, .int .i64 5].toArray), (31, 22, .agg [.int .i64 4, .int .i64 0].toArray), (32, 23, .agg [.int .i64 0, .int .i64 5].toArray), (34, 24, .agg [.int .i64 4, .int .i64 2].toArray), (35, 25, .agg [.int .i64 4, .int .i64 5].toArray), (37, 26, .agg [.int .i64 5, .int .i64 0].toArray), (38, 27, .agg [.int .i64 0, .int .i64 4].toArray), (40, 28, .agg [.int .i64 5, .int .i64 1].toArray), (41, 29, .agg [.int .i64 5, .int .i64 5].toArray)] [(3, .agg [.int .i64 1, .int .i64 0].toArray, .agg [.int .i64 0, .int .i64 5].toArray), (6, .agg [.int .i64 1, .int .i64 1].toArray, .agg [.int .i64 0, .int .i64 5].toArray), (9, .agg [.int .i64 1, .int .i64 2].toArray, .agg [.int .i64 0, .int .i64 5].toArray), (12, .agg [.int .i64 1, .int .i64 126].toArray, .agg [.int .i64 0, .int .i64 5].toArray), (15, .agg [.int .i64 1, .int .i64 4].toArray, .agg [.int .i64 5, .int .i64 5].toArray), (18, .agg [.int .i64 2, .int .i64 0].toArray, .agg [.int .i64 0, .int .i64 0].toArray), (21, .agg [.int .i64 2, .int .i64 1].toArray, .agg [.int .i64 1, .int .i64 1].toArray), (24, .agg [.int .i64 2, .int .i64 2].toArray, .agg [.int .i64 2, .int .i64 5].toArray), (27, .agg [.int .i64 3, .int .i64 0].toArray, .agg [.int .i64 0, .int .i64 5].toArray), (30, .agg [.int .i64 3, .int .i64 1].toArray, .agg [.int .i64 3, .int .i64 5].toArray), (33, .agg [.int .i64 4, .int .i64 0].toArray, .agg [.int .i64 0, .int .i64 5].toArray), (36, .agg [.int .i64 4, .int .i64 2].toArray, .agg [.int .i64 4, .int .i64 5].toArray), (39, .agg [.int .i64 5, .int .i64 0].toArray, .agg [.int .i64 0, .int .i64 4].toArray), (42, .agg [.int .i64 5, .int .i64 1].toArray, .agg [.int .i64 5, .int .i64 5].toArray)] [(43, 30), (44, 0)] [] Jpq O m4 ?hops m4 O m7 O (fun i v h => by cases h) m7 rfl (by simp only [List.forall_mem_cons]; exact ⟨⟨_, _, rfl⟩, ⟨_, _, rfl⟩, ⟨_, _, rfl⟩, ⟨_, _, rfl⟩, ⟨_, _, rfl⟩, ⟨_, _, rfl⟩, ⟨_, _, rfl⟩, ⟨_, _, rfl⟩, ⟨_, _, rfl⟩, ⟨_, _, rfl⟩, ⟨_, _, rfl⟩, ⟨_, _, rfl⟩, ⟨_, _, rfl⟩, ⟨_, _, rfl⟩, by simp⟩) m7 ?_
 case hops =>
  intro i o h
  match i, h with
  | 0, h => cases J' h; exact MLit.mk
  | 1, h => cases J' h; exact MLit.pure (s := 2) (v := .agg [.int .i64 1, .int .i64 0].toArray) (J0 (n := 0) O) O O O (Jo (r := [_, _]) O O)
  | 2, h => cases J' h; exact MLit.pure (s := 3) (v := .agg [.int .i64 0, .int .i64 5].toArray) (J0 (n := 1) O) O O O (Jo (r := [_, _]) O O)
  | 3, h => cases J' h; exact MLit.ins (j1 := 1) (j2 := 2) (k := .agg [.int .i64 1, .int .i64 0].toArray) (v := .agg [.int .i64 0, .int .i64 5].toArray) (J0 (n := 0) O) (J0 (n := 0) O) (J0 (n := 1) O) O O O
  | 4, h => cases J' h; exact MLit.pure (s := 4) (v := .agg [.int .i64 1, .int .i64 1].toArray) (J0 (n := 2) O) O O O (Jo (r := [_, _]) O O)
  | 5, h => cases J' h; exact MLit.pure (s := 5) (v := .agg [.int .i64 0, .int .i64 5].toArray) (J0 (n := 3) O) O O O (Jo (r := [_, _]) O O)
  | 6, h => cases J' h; exact MLit.ins (j1 := 4) (j2 := 5) (k := .agg [.int .i64 1, .int .i64 1].toArray) (v := .agg [.int .i64 0, .int .i64 5].toArray) (J0 (n := 1) O) (J0 (n := 2) O) (J0 (n := 3) O) O O O
  | 7, h => cases J' h; exact MLit.pure (s := 6) (v := .agg [.int .i64 1, .int .i64 2].toArray) (J0 (n := 4) O) O O O (Jo (r := [_, _]) O O)
  | 8, h => cases J' h; exact MLit.pure (s := 7) (v := .agg [.int .i64 0, .int .i64 5].toArray) (J0 (n := 5) O) O O O (Jo (r := [_, _]) O O)
  | 9, h => cases J' h; exact MLit.ins (j1 := 7) (j2 := 8) (k := .agg [.int .i64 1, .int .i64 2].toArray) (v := .agg [.int .i64 0, .int .i64 5].toArray) (J0 (n := 2) O) (J0 (n := 4) O) (J0 (n := 5) O) O O O
  | 10, h => cases J' h; exact MLit.pure (s := 8) (v := .agg [.int .i64 1, .int .i64 126].toArray) (J0 (n := 6) O) O O O (Jo (r := [_, _]) O O)
  | 11, h => cases J' h; exact MLit.pure (s := 9) (v := .agg [.int .i64 0, .int .i64 5].toArray) (J0 (n := 7) O) O O O (Jo (r := [_, _]) O O)
  | 12, h => cases J' h; exact MLit.ins (j1 := 10) (j2 := 11) (k := .agg [.int .i64 1, .int .i64 126].toArray) (v := .agg [.int .i64 0, .int .i64 5].toArray) (J0 (n := 3) O) (J0 (n := 6) O) (J0 (n := 7) O) O O O
  | 13, h => cases J' h; exact MLit.pure (s := 10) (v := .agg [.int .i64 1, .int .i64 4].toArray) (J0 (n := 8) O) O O O (Jo (r := [_, _]) O O)
  | 14, h => cases J' h; exact MLit.pure (s := 11) (v := .agg [.int .i64 5, .int .i64 5].toArray) (J0 (n := 9) O) O O O (Jo (r := [_, _]) O O)
  | 15, h => cases J' h; exact MLit.ins (j1 := 13) (j2 := 14) (k := .agg [.int .i64 1, .int .i64 4].toArray) (v := .agg [.int .i64 5, .int .i64 5].toArray) (J0 (n := 4) O) (J0 (n := 8) O) (J0 (n := 9) O) O O O
  | 16, h => cases J' h; exact MLit.pure (s := 12) (v := .agg [.int .i64 2, .int .i64 0].toArray) (J0 (n := 10) O) O O O (Jo (r := [_, _]) O O)
  | 17, h => cases J' h; exact MLit.pure (s := 13) (v := .agg [.int .i64 0, .int .i64 0].toArray) (J0 (n := 11) O) O O O (Jo (r := [_, _]) O O)
  | 18, h => cases J' h; exact MLit.ins (j1 := 16) (j2 := 17) (k := .agg [.int .i64 2, .int .i64 0].toArray) (v := .agg [.int .i64 0, .int .i64 0].toArray) (J0 (n := 5) O) (J0 (n := 10) O) (J0 (n := 11) O) O O O
  | 19, h => cases J' h; exact MLit.pure (s := 14) (v := .agg [.int .i64 2, .int .i64 1].toArray) (J0 (n := 12) O) O O O (Jo (r := [_, _]) O O)
  | 20, h => cases J' h; exact MLit.pure (s := 15) (v := .agg [.int .i64 1, .int .i64 1].toArray) (J0 (n := 13) O) O O O (Jo (r := [_, _]) O O)
  | 21, h => cases J' h; exact MLit.ins (j1 := 19) (j2 := 20) (k := .agg [.int .i64 2, .int .i64 1].toArray) (v := .agg [.int .i64 1, .int .i64 1].toArray) (J0 (n := 6) O) (J0 (n := 12) O) (J0 (n := 13) O) O O O
  | 22, h => cases J' h; exact MLit.pure (s := 16) (v := .agg [.int .i64 2, .int .i64 2].toArray) (J0 (n := 14) O) O O O (Jo (r := [_, _]) O O)
  | 23, h => cases J' h; exact MLit.pure (s := 17) (v := .agg [.int .i64 2, .int .i64 5].toArray) (J0 (n := 15) O) O O O (Jo (r := [_, _]) O O)
  | 24, h => cases J' h; exact MLit.ins (j1 := 22) (j2 := 23) (k := .agg [.int .i64 2, .int .i64 2].toArray) (v := .agg [.int .i64 2, .int .i64 5].toArray) (J0 (n := 7) O) (J0 (n := 14) O) (J0 (n := 15) O) O O O
  | 25, h => cases J' h; exact MLit.pure (s := 18) (v := .agg [.int .i64 3, .int .i64 0].toArray) (J0 (n := 16) O) O O O (Jo (r := [_, _]) O O)
  | 26, h => cases J' h; exact MLit.pure (s := 19) (v := .agg [.int .i64 0, .int .i64 5].toArray) (J0 (n := 17) O) O O O (Jo (r := [_, _]) O O)
  | 27, h => cases J' h; exact MLit.ins (j1 := 25) (j2 := 26) (k := .agg [.int .i64 3, .int .i64 0].toArray) (v := .agg [.int .i64 0, .int .i64 5].toArray) (J0 (n := 8) O) (J0 (n := 16) O) (J0 (n := 17) O) O O O
  | 28, h => cases J' h; exact MLit.pure (s := 20) (v := .agg [.int .i64 3, .int .i64 1].toArray) (J0 (n := 18) O) O O O (Jo (r := [_, _]) O O)
  | 29, h => cases J' h; exact MLit.pure (s := 21) (v := .agg [.int .i64 3, .int .i64 5].toArray) (J0 (n := 19) O) O O O (Jo (r := [_, _]) O O)
  | 30, h => cases J' h; exact MLit.ins (j1 := 28) (j2 := 29) (k := .agg [.int .i64 3, .int .i64 1].toArray) (v := .agg [.int .i64 3, .int .i64 5].toArray) (J0 (n := 9) O) (J0 (n := 18) O) (J0 (n := 19) O) O O O
  | 31, h => cases J' h; exact MLit.pure (s := 22) (v := .agg [.int .i64 4, .int .i64 0].toArray) (J0 (n := 20) O) O O O (Jo (r := [_, _]) O O)
  | 32, h => cases J' h; exact MLit.pure (s := 23) (v := .agg [.int .i64 0, .int .i64 5].toArray) (J0 (n := 21) O) O O O (Jo (r := [_, _]) O O)
  | 33, h => cases J' h; exact MLit.ins (j1 := 31) (j2 := 32) (k := .agg [.int .i64 4, .int .i64 0].toArray) (v := .agg [.int .i64 0, .int .i64 5].toArray) (J0 (n := 10) O) (J0 (n := 20) O) (J0 (n := 21) O) O O O
  | 34, h => cases J' h; exact MLit.pure (s := 24) (v := .agg [.int .i64 4, .int .i64 2].toArray) (J0 (n := 22) O) O O O (Jo (r := [_, _]) O O)
  | 35, h => cases J' h; exact MLit.pure (s := 25) (v := .agg [.int .i64 4, .int .i64 5].toArray) (J0 (n := 23) O) O O O (Jo (r := [_, _]) O O)
  | 36, h => cases J' h; exact MLit.ins (j1 := 34) (j2 := 35) (k := .agg [.int .i64 4, .int .i64 2].toArray) (v := .agg [.int .i64 4, .int .i64 5].toArray) (J0 (n := 11) O) (J0 (n := 22) O) (J0 (n := 23) O) O O O
  | 37, h => cases J' h; exact MLit.pure (s := 26) (v := .agg [.int .i64 5, .int .i64 0].toArray) (J0 (n := 24) O) O O O (Jo (r := [_, _]) O O)
  | 38, h => cases J' h; exact MLit.pure (s := 27) (v := .agg [.int .i64 0, .int .i64 4].toArray) (J0 (n := 25) O) O O O (Jo (r := [_, _]) O O)
  | 39, h => cases J' h; exact MLit.ins (j1 := 37) (j2 := 38) (k := .agg [.int .i64 5, .int .i64 0].toArray) (v := .agg [.int .i64 0, .int .i64 4].toArray) (J0 (n := 12) O) (J0 (n := 24) O) (J0 (n := 25) O) O O O
  | 40, h => cases J' h; exact MLit.pure (s := 28) (v := .agg [.int .i64 5, .int .i64 1].toArray) (J0 (n := 26) O) O O O (Jo (r := [_, _]) O O)
  | 41, h => cases J' h; exact MLit.pure (s := 29) (v := .agg [.int .i64 5, .int .i64 5].toArray) (J0 (n := 27) O) O O O (Jo (r := [_, _]) O O)
  | 42, h => cases J' h; exact MLit.ins (j1 := 40) (j2 := 41) (k := .agg [.int .i64 5, .int .i64 1].toArray) (v := .agg [.int .i64 5, .int .i64 5].toArray) (J0 (n := 13) O) (J0 (n := 26) O) (J0 (n := 27) O) O O O
  | 43, h => cases J' h; exact MLit.mv (s := 30) (x := 1) (J0 (n := 0) O) O O (Or.inl O) O (Or.inl O)
  | 44, h => cases J' h; exact MLit.mv (s := 0) (x := 30) (J0 (n := 1) O) O O (Or.inr O) O (Or.inr ⟨43, J0 (n := 0) O, rfl⟩)
  | n + 45, h => simp at h
 intro mr mes hmes hborn; refine vf 2 O (N3 fun w1 hs1 => ?_); exact ⟨⟨(mr, mes), hmes, hborn⟩, rfl, hs1⟩
def Jax (k v : Int) : Bool := (Jd9 k v).2.2
def loI (k v : Int) : Int := if Jax k v then (Jd9 k v).1 else 0
def hiI (k v : Int) : Int := if Jax k v then (Jd9 k v).2.1 else 0
theorem Jay {x y z : Value} (h1 : WD x y = true) (h2 : WD x z = true) : WD y z = true := by
 unfold WD at *
 simp only [decide_eq_true_eq] at *; rw [← h1, h2]
theorem table_dist : tableKV.Pairwise fun p q => WD p.1 q.1 = false := by decide
theorem Jgg : ∀ p ∈ tableKV, Jge p.1 := by
 unfold tableKV
 simp only [List.forall_mem_cons]; exact ⟨⟨_, _, rfl⟩, ⟨_, _, rfl⟩, ⟨_, _, rfl⟩, ⟨_, _, rfl⟩, ⟨_, _, rfl⟩, ⟨_, _, rfl⟩, ⟨_, _, rfl⟩, ⟨_, _, rfl⟩, ⟨_, _, rfl⟩, ⟨_, _, rfl⟩, ⟨_, _, rfl⟩, ⟨_, _, rfl⟩, ⟨_, _, rfl⟩, ⟨_, _, rfl⟩, by simp⟩
theorem Jgh (k v : Int) : Qx WD (Qq k v) tableKV = if Jax k v then some (Qq (loI k v) (hiI k v)) else none := by
 simp only [tableKV, Qx, xc, loI, hiI, Jax, Jd9]
 by_cases h1 : k = 1
 ·subst h1; by_cases a0 : v = 0 <;> by_cases a1 : v = 1 <;> by_cases a2 : v = 2 <;> by_cases a3 : v = 126 <;> by_cases a4 : v = 4 <;> simp_all
 ·by_cases h2 : k = 2
  ·subst h2; by_cases a0 : v = 0 <;> by_cases a1 : v = 1 <;> by_cases a2 : v = 2 <;> simp_all
  ·by_cases h3 : k = 3
   ·subst h3; by_cases a0 : v = 0 <;> by_cases a1 : v = 1 <;> simp_all <;> rfl
   ·by_cases h4 : k = 4
    ·subst h4; by_cases a0 : v = 0 <;> by_cases a1 : v = 2 <;> simp_all <;> rfl
    ·by_cases h5 : k = 5
     ·subst h5; by_cases a0 : v = 0 <;> by_cases a1 : v = 1 <;> simp_all <;> rfl
     ·simp_all
theorem Jla (hp : kv.Perm tableKV) (k v : Int) : Qx WD (Qq k v) kv = if Jax k v then some (Qq (loI k v) (hiI k v)) else none := by
 rw [← Jgh, Jb7 hp.symm]; refine table_dist.imp fun {p q} h ⟨h1, h2⟩ => ?_; rw [Jay h1 h2] at h; cases h
theorem Jlb (hp : kv.Perm tableKV) (k v : Int) :
  (if true = true then Value.tuple #[((Qx WD (Qq k v) kv).getD (Qq 0 0)), .bool (Qx WD (Qq k v) kv).isSome] else (Qx WD (Qq k v) kv).getD (Qq 0 0)) =
   .tuple #[.agg [.int .i64 (loI k v), .int .i64 (hiI k v)].toArray, .bool (Jax k v)] := by
 rw [Jla hp, if_pos rfl]
 cases h : Jax k v <;> simp [loI, hiI, Qq, h]
theorem Jlc {mes : Array MapEntry} (hp : (mes.toList.map Yc).Perm tableKV) : ∀ e ∈ mes.toList, Jge e.key := fun e he =>
 Jgg (Yc e) (hp.subset (I' he))
theorem WG (f k v : Int) : Pure prog 139 [.int .i64 f, .int .i64 k, .int .i64 v].toArray (.bool (Jax k v && decide (f ≥ loI k v) && decide (f ≤ hiI k v))) := by
 refine JA Tryz.func139 O O fun w => Kl (DE ?_); refine KG O O O (enters_of Tryz.func217 m4 O) yN fun x1 => ?_
 obtain ⟨⟨mr, mes⟩, hmes, hborn⟩ := x1
 change HL _ _ _ [(mr, .map mes mes.size)] _ _ _ _; refine gu ?_; refine D6 ?_; refine LR O (Qk Jpq O O (kn 0 O) O O ⟨_, _, rfl⟩ (Jlc hmes) (Jlb hmes k v)) (MR ?_); refine LN O fun r1 => ?_
 refine J2 (k := 0) (n := 2) (cs' := #[_, _]) (vs := #[_, _]) O O O O O O O m8 O m5 (g8 ?_)
 refine J8 18 O (fun gb => ?_) (fun gb => ?_) <;> (try simp only [ZZ] at gb) <;> first | (refine JI O ?_) | (refine LK O ?_)
 all_goals refine G9 ?_
 all_goals refine Nh ?_
 all_goals refine GZ ?_
 all_goals first | refine LK O ?_ | (refine J8 24 O (fun gb => ?_) (fun gb => ?_) <;> (try simp only [ZZ] at gb) <;> first | (refine JI O ?_) | (refine LK O ?_))
 all_goals refine G9 ?_
 all_goals refine Nh ?_
 all_goals refine MQ ?_
 all_goals (
  refine Ha ?_; refine N3 fun w1 hs1 => ?_; exact ⟨by (try simp_all [QD]); try omega, hs1.keep⟩
  skip)
def jP : List Nat → Bool
 | x :: y :: l => decide (x ≤ y) && jP (y :: l)
 | _ => true
theorem Jiz : ∀ {l : List Nat} {i x y : Nat}, l[i]? = some x → l[i + 1]? = some y → y < x → jP l = false
 | [], i, x, y, h, _, _ => by simp at h
 | [a], i, x, y, _, h, _ => by simp at h
 | a :: b :: l, 0, x, y, h1, h2, h => by
  simp only [List.getElem?_cons_zero, List.getElem?_cons_succ, Nat.zero_add, Option.some.injEq] at h1 h2; subst h1 h2
  unfold jP
  rw [decide_eq_false m3]; rfl
 | a :: b :: l, i + 1, x, y, h1, h2, h => by
  rw [List.getElem?_cons_succ] at h1 h2
  unfold jP
  rw [Jiz h1 h2 h, Bool.and_false]
theorem Jea : ∀ {l : List Nat}, (∀ i x y, l[i]? = some x → l[i + 1]? = some y → x ≤ y) → jP l = true
 | [], _ => rfl
 | [a], _ => rfl
 | a :: b :: l, h => by
  unfold jP
  rw [decide_eq_true (h 0 a b rfl rfl), Jea fun i x y h1 h2 => h (i + 1) x y (by rw [List.getElem?_cons_succ]; exact h1) (by rw [List.getElem?_cons_succ]; exact h2)]; rfl
theorem Jaz : ∀ {l : List Nat}, jP l = true → ∀ {i j x y : Nat}, i ≤ j → l[i]? = some x → l[j]? = some y → x ≤ y
 | [], _, i, j, x, y, _, h, _ => by simp at h
 | [a], _, i, j, x, y, hij, h1, h2 => by
  cases i with
  | zero => cases j with
   | zero => rw [h1] at h2; cases h2; exact Lc'
   | succ j => simp at h2
  | succ i => simp at h1
 | a :: b :: l, h, i, j, x, y, hij, h1, h2 => by
  unfold jP at h
  obtain ⟨ha, hr⟩ := Bool.and_eq_true_iff.1 h
  have ha := of_decide_eq_true ha
  cases j with
  | zero =>
   obtain rfl : i = 0 := by omega
   rw [h1] at h2; cases h2; exact Lc'
  | succ j =>
   rw [List.getElem?_cons_succ] at h2
   cases i with
   | zero =>
    simp only [List.getElem?_cons_zero, Option.some.injEq] at h1; subst h1; exact Lb' ha (Jaz hr (Z') (i := 0) O h2)
   | succ i => rw [List.getElem?_cons_succ] at h1; exact Jaz hr m3 h1 h2
def YX (t : Nat) : List Nat → Nat
 | x :: l => if x ≤ t then YX t l + 1 else 0
 | [] => 0
theorem vJ (t : Nat) : ∀ l : List Nat, YX t l ≤ l.length
 | [] => Lc'
 | x :: l => by
  have := vJ t l
  unfold YX
  split <;> simp only [List.length_cons] <;> omega
theorem Ji0 {t : Nat} : ∀ {l : List Nat} {i x : Nat}, i < YX t l → l[i]? = some x → x ≤ t
 | [], i, x, h, _ => by unfold YX at h; omega
 | a :: l, i, x, h, hx => by
  unfold YX at h
  split at h
  ·cases i with
   | zero => simp only [List.getElem?_cons_zero, Option.some.injEq] at hx; subst hx; assumption
   | succ i => rw [List.getElem?_cons_succ] at hx; exact Ji0 m3 hx
  ·omega
theorem Ji1 {t : Nat} : ∀ {l : List Nat} {x : Nat}, l[YX t l]? = some x → t < x
 | [], x, h => by simp at h
 | a :: l, x, h => by
  unfold YX at h
  split at h
  ·rw [List.getElem?_cons_succ] at h; exact Ji1 h
  ·simp only [List.getElem?_cons_zero, Option.some.injEq] at h; subst h; omega
theorem Jpr {t : Nat} {l : List Nat} (hr : jP l = true) {x : Nat} (hx : l[i]? = some x) : decide (t < x) = decide (YX t l ≤ i) := by
 by_cases h : YX t l ≤ i
 ·have hl := (La'.1 hx).1
  obtain ⟨y, hy⟩ : ∃ y, l[YX t l]? = some y := ⟨_, List.getElem?_eq_getElem m3⟩
  have h1 := Ji1 hy
  have h2 := Jaz hr h hy hx
  rw [decide_eq_true h, decide_eq_true m3]
 ·have := Ji0 (t := t) (l := l) (i := i) m3 hx
  rw [decide_eq_false h, decide_eq_false m3]
def Ja0 (ts : List Nat) : Int := if ts.length < 1 ∨ ts.length > 6 then 2 else if jP ts = false then 11 else 0
def Ys (ts : List Nat) (t : Nat) : Int × Int := if Ja0 ts ≠ 0 then (0, Ja0 ts) else if YX t ts = 0 then (0, 10) else ((YX t ts : Int) - 1, 0)
def Jgi (n : Nat) (p : Pl) : Value := .agg #[Km n p]
abbrev unC (ts : List Nat) : List Value := ts.map uV
theorem Ja1  {x : Nat} (h : ts[i]? = some x) : (unC ts)[i]? = some (uV x) := by rw [List.getElem?_map, h]; rfl
theorem Jys (h : i < ts.length) : ∃ x, ts[i]? = some x ∧ x ∈ ts := ⟨ts[i], List.getElem?_eq_getElem h, List.getElem_mem h⟩
theorem Jps (a : Nat) : Pure prog 246 [uV a].toArray (.bool false) := by
 refine JA Tryz.func246 O O fun w => Kl (KF 14 O (MW fun w1 hs1 => ?_))
 simp [QD]
theorem Juk (a b : Nat) : Pure prog 216 [uV a, uV b].toArray (.bool (decide (a < b))) := by
 refine JA Tryz.func216 O O fun w => G7 ?_; refine JC O O O (enters_of Tryz.func246 m4 O) (Jps _) (kV ?_); refine EB ?_; refine kV ?_; refine EB ?_; refine gA ?_; refine MW fun w1 hs1 => ?_
 simp_all [QD]
theorem Jgj {p : Pl} (hl : ts.length ≤ 9223372036854775807) (h1 : 1 ≤ ts.length) (hs : Seg R ts.length (unC ts) p) : PureR prog 134 [Km ts.length p].toArray (.bool (jP ts)) R := by
 refine J1 Tryz.func134 O O fun w => Gm ?_; refine GO ?_; refine KC O (JT m3 m3 ?_); refine J4 (show _ = Value.int .i64 ((ts.length - 1 : Nat) : Int) from by rw [Int.ofNat_sub h1]; rfl) (G5 ?_); refine JQ (σ := Nat) (fun j => j < ts.length ∧ ∀ i x y, j ≤ i → ts[i]? = some x → ts[i + 1]? = some y → x ≤ y) (fun j => [(0, Km ts.length p), (3, .int .i64 (j : Int))]) (fun _ => []) (fun _ _ _ => True) (fun j => j) (ts.length - 1) ⟨by omega, fun i x y hi _ hy => absurd (La'.1 hy).1 m3⟩ (lK rfl) (S') (fun _ _ h => h) ?_; rintro j ⟨hj1, hinv⟩; refine Ku 7 O (cD (fun g => ?_) fun g => ?_)
 refine Hu ?_
 obtain ⟨i, rfl⟩ : ∃ i, j = i + 1 := ⟨j - 1, by omega⟩
 obtain ⟨x, hx, hmx⟩ := Jys (show i < ts.length by omega)
 obtain ⟨y, hy, hmy⟩ := Jys (show i + 1 < ts.length by omega)
 refine KB 10 m4 m4 (kr ?_); refine kr ?_
 refine Jt O O O (JG (j := (i + 1)) O hs O O O mg m3) (Jt O O O (Qr oR O hs m3 O (Ja1 hy)) (kr ?_)); refine N0 ?_; refine QA m3 m3 ?_
 refine Ej ?_; refine Vu O O O (enters_of Tryz.func216 m4 O) (Juk _ _) (KR (Dt ?_)); refine cD (fun g => ?_) fun g => ?_
 refine KF 11 O (MW fun w1 hs1 => ?_); rw [Jiz hx hy mF]; rfl
 refine Hq ?_; refine JT m3 m3 (J4 (show _ = Value.int .i64 (i : Int) from by congr 1; omega) (Nd ?_))
 exact JL i ⟨by omega, fun q u v hq hu hv => by
  rcases Nat.eq_or_lt_of_le hq with rfl | hq
  rw [hx] at hu; rw [hy] at hv; cases hu; cases hv; simp_all
  exact hinv q u v m3 hu hv⟩ m3 (lK O) (S') (fun _ _ h => h)
 ·refine KF 11 O (MW fun w1 hs1 => ?_); rw [Jea fun i x y hx hy => hinv i x y m3 hx hy]; rfl
theorem Jld {p : Pl} (hl : ts.length ≤ 9223372036854775807) (hs : Seg R ts.length (unC ts) p) : PureR prog 59 [Jgi ts.length p].toArray (.int .i64 (Ja0 ts)) R := by
  have hE : Ja0 ts = if decide ((ts.length : Int) < 1) = true ∨ (ts.length : Int) > 6 then 2 else if jP ts = false then 11 else 0 := by
    unfold Ja0
    exact ite_congr (propext (by rw [decide_eq_true_eq]; omega)) (fun _ => rfl) (fun _ => rfl)
  refine J1 Tryz.func59 O O fun w => kT fun r1 => ?_; refine g8 ?_
  refine N5 ?_; refine GO ?_; refine gu ?_
  refine J8 8 O (fun gb => ?_) (fun gb => ?_) <;> (try simp only [ZZ] at gb) <;> first | (refine LR O (Ja O O m0) ?_) | (refine LK O ?_)
  all_goals refine Nh ?_
  all_goals first | refine LR O (JZ O hs O) ?_ | refine LK O ?_
  all_goals refine MQ ?_
  all_goals (
   refine kW ?_; refine Jl O (fun g => ?_) (fun g => ?_)
   try simp only [ZZ] at g
   refine EK fun w1 hs1 => ?_; rw [hE]; simp only [QD]
   simp_all
   · try exact Bool.noConfusion g
     all_goals try simp only [ZZ] at g
     all_goals (
      refine F0 ?_; refine Ju O O O (enters_of Tryz.func134 m4 O) (Jgj hl m3 hs) oR (G5 ?_); refine cD (fun g => ?_) fun g => ?_
      refine EK fun w1 hs1 => ?_; rw [hE]; simp only [QD]
      simp_all
      refine KF 9 O (MW fun w1 hs1 => ?_); rw [hE]; simp only [QD]
      simp_all
      skip)
   skip)
theorem Jpt {n k : Nat} (hn : n ≤ 1000) (hk : k ≤ n) (eg : Enters prog g) (hg : ∀ i, i < n → PureR prog g (.int .i64 (i : Int) :: caps).toArray (.bool (decide (k ≤ i))) R) :
  PureR prog 60 [.int .i64 (n : Int), .func (.func g) #[] caps.toArray].toArray (.int .i64 (k : Int)) R := by
 refine J1 Tryz.func60 O O fun w => Kl (Ku 14 O (JQ (σ := Nat × Nat) (fun s => s.1 ≤ k ∧ k ≤ s.2 ∧ s.2 ≤ n) (fun s => [(1, .func (.func g) #[] caps.toArray), (5, .int .i64 (s.1 : Int)), (6, .int .i64 (s.2 : Int))]) (fun _ => []) (fun _ _ _ => True) (fun s => s.2 - s.1) (0, n) ⟨Z', hk, Lc'⟩ (lK O) (S') (fun _ _ h => h) ?_)); rintro ⟨i, j⟩ ⟨hi0, hj0, hj1⟩; simp only at hi0 hj0 hj1; change HC _ _ [(1, _), (5, .int .i64 (i : Int)), (6, .int .i64 (j : Int))] _ _ _ _; refine Ku 8 O (cD (fun h6 => ?_) fun h6 => ?_)
 refine Jv 8 O (JT m3 m3 (KC O (Ql m3 m3 (J4 (show _ = Value.int .u64 ((i + j : Nat) : Int) from by rw [Int.natCast_add]) ?_)))); refine LR O (Jb9 (n := 1) (b := (((i + j) / 2 : Nat) : Int)) O O O m7 m3 m3) (KC O (JT m3 m3 (J5 7 O ?_))); refine Ju O O O eg (hg ((i + j) / 2) m3) oR (NQ ?_); refine cD (fun h9 => ?_) fun h9 => ?_
 refine gz ?_; refine JT m3 m3 (GN ?_); refine JS ?_; exact JL ((i + j) / 2 + 1, j) ⟨by simp only; simp at *; omega, hj0, hj1⟩ mj (lK rfl) (S') (fun _ _ h => h)
 refine KF 5 O (JS ?_); exact JL (i, (i + j) / 2) ⟨hi0, by simp only; simp at *; omega, by simp only; omega⟩ mj (lK rfl) (S') (fun _ _ h => h)
 ·refine KF 12 O (MW fun w1 hs1 => ?_); rw [show i = k by omega]; rfl
theorem Jyt {p : Pl} (hs : Seg R ts.length (unC ts) p) {rs rt es et : Nat} {t : Nat} (h1 : (rs, Obj.cells #[Km ts.length p] es (0, 0)) ∈ R) (h2 : (rt, Obj.cells #[uV t] et (0, 0)) ∈ R) (hr : jP ts = true) (hi : i < ts.length) :
  PureR prog 61 [.int .i64 (i : Int), .pointer (some ⟨rs, 0, none⟩), .pointer (some ⟨rt, 0, none⟩)].toArray (.bool (decide (YX t ts ≤ i))) R := by
 obtain ⟨x, hx, hmx⟩ := Jys hi
 refine J1 Tryz.func61 O O fun w => Kl (gv ?_); refine KB 8 m4 m4 ?_
 refine Jt O O O (Ja O O m0) (Jt O O O (Jc O (Or.inr h1) O O) (kr ?_))
 refine Ej ?_; refine Jt O O O (Jc O (Or.inr h2) O O) (gP ?_); refine Gk ?_; refine GN ?_; refine MW fun w1 hs1 => ?_; rw [← Jpr hr hx]
 simp [QD]
theorem wZ {p : Pl} (hl : ts.length ≤ 9223372036854775807) (hs : Seg R ts.length (unC ts) p) (t : Nat) : PureR prog 15 [Jgi ts.length p, uV t].toArray (.tuple #[.int .i64 (Ys ts t).1, .int .i64 (Ys ts t).2]) R := by
 refine J1 Tryz.func15 O O fun w => Hn fun r1 r2 => ?_; refine g8 ?_; refine LR O (Ki (vs := [_]) O (kn 1 O) O O O O) (Ju O O O (enters_of Tryz.func59 m4 O) (Jld hl hs) oR (JP 9 O (cD (fun g => ?_) fun g => ?_)))
 refine HV fun w1 hs1 => ?_; simp only [QD, Ys]
 simp_all
 ·refine D5 ?_
  have hz : Ja0 ts = 0 := by assumption
  have h6 : 1 ≤ ts.length ∧ ts.length ≤ 6 ∧ jP ts = true := by
   unfold Ja0 at hz
   split at hz
   cases hz
   split at hz
   cases hz
   refine ⟨by omega, by omega, ?_⟩; simp_all
  refine HI ?_
  refine Gb ?_; refine GO ?_; refine NR ?_; refine Ju (Rl := (r1, Obj.cells #[Km ts.length p] 59 (0, 0)) :: (r2, Obj.cells #[uV t] 22 (0, 0)) :: R) O O O (enters_of Tryz.func60 m4 O) (Jpt (caps := [.pointer (some ⟨r1, 0, none⟩), .pointer (some ⟨r2, 0, none⟩)]) m3 (vJ t ts) (enters_of Tryz.func61 m4 O) (fun i hi => Jyt (hs.mono fun q hq => M' (M' hq)) N' (M' N') h6.2.2 hi)) (fun q hq => (F'.1 hq).elim (fun h => Or.inl (by rw [h]; simp)) fun hq => (F'.1 hq).elim (fun h => Or.inl (by rw [h]; simp)) Or.inr) (E8 ?_); refine cD (fun g => ?_) fun g => ?_
  refine GL ?_; refine Np fun w1 hs1 => ?_; simp only [QD, Ys]
  simp_all
  ·refine D5 ?_
   have hc6 := vJ t ts
   refine gz ?_; refine JT m3 m3 (G4 ?_); refine Np fun w1 hs1 => ?_; simp only [QD, Ys]
   simp_all
open Go.Proofs (Enters enters_of)
def XY (ch : Nat) : Value := .agg #[uV ch]
def qz (ch r : Nat) : Nat × Obj := (r, .map #[⟨.int .i64 1, .agg #[.func (.func 135) #[] #[], .func (.func 136) #[] #[], .func (.func 137) #[XY ch] #[], .func (.func 138) #[] #[]], 0⟩, ⟨.int .i64 2, .agg #[.func (.func 140) #[] #[], .func (.func 141) #[] #[], .func (.func 143) #[XY ch] #[], .func (.func 144) #[] #[]], 1⟩, ⟨.int .i64 3, .agg #[.func (.func 146) #[] #[], .func (.func 147) #[XY ch] #[], .func (.func 148) #[XY ch] #[], .func (.func 149) #[] #[]], 2⟩, ⟨.int .i64 4, .agg #[.func (.func 150) #[] #[], .func (.func 151) #[] #[], .func (.func 152) #[XY ch] #[], .func (.func 149) #[] #[]], 3⟩, ⟨.int .i64 5, .agg #[.func (.func 153) #[] #[], .func (.func 154) #[] #[], .func (.func 156) #[XY ch] #[], .func (.func 149) #[] #[]], 4⟩] 5)
theorem Wx (ch : Nat) : PureE (α := Nat) prog 62 [XY ch].toArray (fun r => .map (some r)) (fun r => [qz ch r]) := by
 refine Qm Tryz.func62 O O fun w => MZ ?_; refine JR (cs := List.toArray ([uV ch])) O O O O fun r1 => kB ?_; refine ZX O O fun rm => g7 ?_; refine QU (q := 0) (key := .int .i64 1) (val := .agg #[.func (.func 135) #[] #[], .func (.func 136) #[] #[], .func (.func 137) #[XY ch] #[], .func (.func 138) #[] #[]]) (VP (t := 3) m4) O O O O O O ⟨_, rfl⟩ MF O O (g7 ?_)
 refine QU (q := 0) (key := .int .i64 2) (val := .agg #[.func (.func 140) #[] #[], .func (.func 141) #[] #[], .func (.func 143) #[XY ch] #[], .func (.func 144) #[] #[]]) (VP (t := 3) m4) O O O O O O ⟨_, rfl⟩ nE O O (LR O (Ki (vs := [_]) O (kn 1 O) O O O O) (NR ?_)); refine g7 ?_
 refine QU (q := 0) (key := .int .i64 3) (val := .agg #[.func (.func 146) #[] #[], .func (.func 147) #[XY ch] #[], .func (.func 148) #[XY ch] #[], .func (.func 149) #[] #[]]) (VP (t := 3) m4) O O O O O O ⟨_, rfl⟩ nu O O (g7 ?_)
 refine QU (q := 0) (key := .int .i64 4) (val := .agg #[.func (.func 150) #[] #[], .func (.func 151) #[] #[], .func (.func 152) #[XY ch] #[], .func (.func 149) #[] #[]]) (VP (t := 3) m4) O O O O O O ⟨_, rfl⟩ nY O O (g7 ?_)
 refine QU (q := 0) (key := .int .i64 5) (val := .agg #[.func (.func 153) #[] #[], .func (.func 154) #[] #[], .func (.func 156) #[XY ch] #[], .func (.func 149) #[] #[]]) (VP (t := 3) m4) O O O O O O ⟨_, rfl⟩ nP O O (EN fun w1 hs1 => ?_); exact ⟨rm, rfl, hs1.weakL (.cons_cons _ (S'))⟩
def aH : BS := List.replicate 32 0
def aB : BaL := ⟨aH, 0, aH, 5, none, []⟩
theorem J1b : aB.In R := ⟨Z', Seg.nil⟩
def aS : BS := 0 :: QP (Yq aB.er)
theorem u5 : VL 5 := by show (5 : Nat) < 18446744073709551616; decide
theorem Jpu : YO aB.er = 0 := by decide +kernel
theorem Ji2 : (QP (Yq aB.er)).length = 71 := by decide +kernel
theorem Ja2 : aS.length = 72 := by unfold aS; rw [List.length_cons, Ji2]
theorem Ji3 : Ym (Yq aB.er) = 0 := by unfold Ym; rw [Ji2]; rfl
theorem Jyu : yM aB.er = (aS, 0) := by unfold yM; rw [if_neg (by rw [Jpu]; decide), if_neg (by rw [Ji3]; decide)]; rfl
theorem Jpv : X1 aS = (aB.er, 0) := Jt6 Jpu u0 u5 Ji3
theorem Jpw : (aS.getD 0 0).toNat = 0 := rfl
theorem Jyv : W7 [aS] = 0 := by
 have h : QQ 72 = 0 := rfl
 unfold W7
 rw [if_neg (by simp [Ja2, h]), if_neg (by simp [Ja2, h])]
def aW : BS := Jd1 [aS]
theorem Jgk : aW.length = 75 := by decide +kernel
def aId : BS := [48, 49, 50, 51, 52, 53, 54, 55, 56, 57, 97, 98, 99, 100, 101, 102]
theorem Ji4 : (Yr aId aW).flatMap FrE.data = aW := Jpo (by rw [Jgk]; decide)
def Jul (l : List TxL) : List BS := l.map fun t => J0v t.er
structure OneS (l : List TxL) (k : Nat) (row : QZ) (lg : Bool) : Prop where
  le : k ≤ l.length
  ok : rowOk 1 k ((Jul (l.take k)).map Jk) row
  sm : lg = false → ∀ s ∈ Jul (l.take k), s.length ≤ 4096
theorem OneS.next {l : List TxL} {k : Nat} {row' : QZ} {lg lg' : Bool} (h : OneS l k row lg) (ht : l[k]? = some t) (hr : rowOk 1 (k + 1) ((Jul (l.take (k + 1))).map Jk) row') (hl : lg' = false → lg = false ∧ (J0v t.er).length ≤ 4096) : OneS l (k + 1) row' lg' where
 le := (La'.1 ht).1
 ok := hr
 sm := fun h0 s hs => by
  obtain ⟨h1, h2⟩ := hl h0
  unfold Jul at hs
  rw [List.take_add_one, ht, Option.toList_some, List.map_append, G'] at hs
  rcases hs with hs | hs
  ·exact h.sm h1 s hs
  ·rw [List.map_singleton, U'] at hs; rw [hs]; exact h2
def VM (fs : Array Field) (i : Nat) : Option (TypeId × Nat) := (fs[i]?).map (fun f => (f.type, f.offset))
structure SpTy (P : Program) (tI tN tS tW tu tB tL tX tXS tU tUS tT tTS tK tKS tP : Nat) (fx fu ft fk fp : Array Field) : Prop where
  I : P.underlying tI = some (.int .u64)
  Ic : P.cellsOf tI = 1
  N : P.underlying tN = some (.int .i64)
  Nc : P.cellsOf tN = 1
  S : P.underlying tS = some .string
  Sc : P.cellsOf tS = 1
  W : P.underlying tW = some (.array 4 tu)
  Wc : P.cellsOf tW = 4
  u : P.underlying tu = some (.int .u64)
  uc : P.cellsOf tu = 1
  B : P.underlying tB = some .bool
  Bc : P.cellsOf tB = 1
  L : P.underlying tL = some (.slice tS)
  Lc : P.cellsOf tL = 1
  X : P.underlying tX = some (.struct fx)
  Xc : P.cellsOf tX = 2
  x0 : VM fx 0 = some (tS, 0)
  x1 : VM fx 1 = some (tL, 1)
  XS : P.underlying tXS = some (.slice tX)
  XSc : P.cellsOf tXS = 1
  U : P.underlying tU = some (.struct fu)
  Uc : P.cellsOf tU = 12
  u0 : VM fu 0 = some (tI, 0)
  u1 : VM fu 1 = some (tS, 1)
  u2 : VM fu 2 = some (tI, 2)
  u3 : VM fu 3 = some (tI, 3)
  u4 : VM fu 4 = some (tW, 4)
  u5 : VM fu 5 = some (tW, 8)
  US : P.underlying tUS = some (.slice tU)
  USc : P.cellsOf tUS = 1
  T : P.underlying tT = some (.struct ft)
  Tc : P.cellsOf tT = 36
  t0 : VM ft 0 = some (tN, 0)
  t1 : VM ft 1 = some (tI, 1)
  t2 : VM ft 2 = some (tI, 2)
  t3 : VM ft 3 = some (tW, 3)
  t4 : VM ft 4 = some (tW, 7)
  t5 : VM ft 5 = some (tI, 11)
  t6 : VM ft 6 = some (tS, 12)
  t7 : VM ft 7 = some (tW, 13)
  t8 : VM ft 8 = some (tS, 17)
  t9 : VM ft 9 = some (tXS, 18)
  t10 : VM ft 10 = some (tUS, 19)
  t11 : VM ft 11 = some (tI, 20)
  t12 : VM ft 12 = some (tW, 21)
  t13 : VM ft 13 = some (tW, 25)
  t14 : VM ft 14 = some (tS, 29)
  t15 : VM ft 15 = some (tS, 30)
  t16 : VM ft 16 = some (tW, 31)
  t17 : VM ft 17 = some (tB, 35)
  TS : P.underlying tTS = some (.slice tT)
  TSc : P.cellsOf tTS = 1
  K : P.underlying tK = some (.struct fk)
  Kc : P.cellsOf tK = 2
  k0 : VM fk 0 = some (tB, 0)
  k1 : VM fk 1 = some (tTS, 1)
  KS : P.underlying tKS = some (.slice tK)
  KSc : P.cellsOf tKS = 1
  P_ : P.underlying tP = some (.struct fp)
  Pc : P.cellsOf tP = 5
  p0 : VM fp 0 = some (tI, 0)
  p1 : VM fp 1 = some (tI, 1)
  p2 : VM fp 2 = some (tS, 2)
  p3 : VM fp 3 = some (tS, 3)
  p4 : VM fp 4 = some (tKS, 4)
section
variable {H : Type} {enc : TypeId × Value → H} {P : Program} {w : World} {base : Nat} {sp : Nat → Bool} {held : Bool} {fuel : Nat} {cs : List Value} {x : DataW H × List MemPlace}
variable {tI tN tS tW tu tB tL tX tXS tU tUS tT tTS tK tKS tP : Nat} {fx fu ft fk fp : Array Field} (Y : SpTy P tI tN tS tW tu tB tL tX tXS tU tUS tT tTS tK tKS tP fx fu ft fk fp)
include Y
end
noncomputable def holdH (P : Program) (os : Os) (u ty k : Nat) : World :=
  let w0 := World.holding P os ⟨#[], #[], []⟩
  { w0 with heap := w0.heap.modify k fun
      | .cells _ t fr => .cells #[.iface u (.agg #[.pointer (some ⟨P.globals.size, ty, none⟩)])] t fr
      | o => o }
def XU (l : List (String × DataW Unit)) : List (String × DataW Unit) := l.filter fun x => x.2.handleName?.isNone
noncomputable def laidH (P : Program) (os : Os) (l : List (String × DataW Unit)) (u ty k : Nat) : World := (holdH P os u ty k).layVars P (XU l)
theorem laidH_os (P : Program) (os : Os) (l : List (String × DataW Unit)) (u ty k : Nat) : (laidH P os l u ty k).os = os := World.layVars_os _ _ _
theorem laidMetH_laidH {os : Os} {l : List (String × DataW Unit)} {ty k : Nat} (args : Array Value)
  (hf : (holdH P os u ty k).layFits P (XU l) [] = true) (hi : (holdH P os u ty k).layIfaces P (XU l) (laidH P os l u ty k) = true)
  (hh : (l.filter fun x => x.2.handleName?.isSome).all (handleAtB P ((laidH P os l u ty k).forCall (fun _ _ => 0) ⟨#[], args, []⟩).memory) = true) :
  laidMetH P l ((laidH P os l u ty k).forCall (fun _ _ => 0) ⟨#[], args, []⟩).memory := by
 refine laidMetH_of_parts ?_ hh
 have e1 : ((XU l).filter fun x => ((XU l).map (·.1)).contains x.1) = XU l := List.filter_eq_self.2 fun x hx => List.contains_iff_mem.2 (List.mem_map.2 ⟨x, hx, rfl⟩)
 have e2 : ((XU l).filter fun x => !((XU l).map (·.1)).contains x.1) = [] := List.filter_eq_nil_iff.2 fun x hx => by rw [List.contains_iff_mem.2 (List.mem_map.2 ⟨x, hx, rfl⟩)]; simp
 have h : laidMet P (XU l) (laidH P os l u ty k) := laidMet_layVars (w0 := holdH P os u ty k) ((XU l).map (·.1)) [] (by rw [e1]; rfl) (by rw [e1]; exact hf) (by rw [e1]; exact hi) (by rw [e2]; exact LaidIn.none)
 exact h.of_heap (by simp [World.memory, World.forCall, Input.heap])
structure PureXT {α : Type} (P : Program) (f : FuncId) (args : Array Value) (ok : Prop) (bad : Value → Prop) (V : α → Value) (T : J3) (LL : α → J3) (Rl : J3) : Prop where
  run : ∀ w, jn T w → jn Rl w → (T.Pairwise fun p q => p.1 ≠ q.1) → (∀ p ∈ Rl, ∀ q ∈ T, p.1 ≠ q.1) → Calls P f args w fun e w' =>
    (ok ∧ ∃ x, e = .returned (V x) ∧ Keep (T.map (·.1)) w w' ∧ (∀ p ∈ LL x, (p.1 ∈ T.map (·.1) ∨ w.heap.size ≤ p.1) ∧ w'.heap[p.1]? = some p.2) ∧ (LL x).Pairwise fun p q => p.1 ≠ q.1) ∨ (∃ v, bad v ∧ e = .panicked (ja v) ∧ Keep (T.map (·.1)) w w')
def Jpx {α : Type} (c : Cx) (ok : Prop) (bad : Value → Prop) (V : α → Value) (LL : α → J3) : Ending → World → Prop := fun e w' =>
 (ok ∧ ∃ x, e = .returned (V x) ∧ St c (LL x) (fun _ _ => True) w') ∨ (∃ v, bad v ∧ e = .panicked (ja v) ∧ Keep c.ids c.w1 w')
theorem Qj {f : FuncId} {code : Code} {ok : Prop} {T : J3} (hf : P.funcs[f]? = some fn) (hb : fn.body = some code) (hlen : Nat.ble vs.length fn.ntmps = true)
  (h : ∀ w, HC (yz P w T Rl fn.ntmps) [] (Wd 0 vs) T (fun _ _ => True) code (bodyPostM (FW none) 0 P fn (Jpx (yz P w T Rl fn.ntmps) ok bad V LL))) : PureXT P f vs.toArray ok bad V T LL Rl := ⟨fun w hT hR hd hne =>
 (Vj (yz P w T Rl fn.ntmps) hf hb rfl rfl rfl hlen (St.startT hT hR hd hne) (h w)).mono fun _ _ h => h.imp
  (fun ⟨ho, x, he, hs⟩ => ⟨ho, x, he, by have := hs.keep; simpa [yz] using this, fun p hp => ⟨(hs.own p hp).1, (hs.own p hp).2.2⟩, hs.distinct⟩)
  (fun ⟨v, hv, he, hk⟩ => ⟨v, hv, he, hk⟩)⟩
theorem xT {f : FuncId} (h : PureT P f args V [] LL Rl) : PureX P f args True bad V LL Rl :=
 ⟨fun w hR => (h.run w (fun _ h => nomatch h) hR .nil (fun _ _ _ h => nomatch h)).mono fun _ _ ⟨x, he, hk, h1, h2⟩ => .inl ⟨trivial, x, he, hk, fun p hp => ⟨(h1 p hp).1.elim (fun h => nomatch h) id, (h1 p hp).2⟩, h2⟩⟩
theorem xR {f : FuncId} {v : Value} (h : PureR P f args v Rl) : PureX (α := Unit) P f args True bad (fun _ => v) (fun _ => []) Rl := xT h.toT
theorem WO {f : FuncId} {ok : Prop} (h : PureXT P f args ok bad V [] LL Rl) : PureX P f args ok bad V LL Rl :=
 ⟨fun w hR => (h.run w (fun _ h => nomatch h) hR .nil (fun _ _ _ h => nomatch h)).mono fun _ _ h => h.imp (fun ⟨ho, x, he, hk, h1, h2⟩ => ⟨ho, x, he, hk, fun p hp => ⟨(h1 p hp).1.elim (fun h => nomatch h) id, (h1 p hp).2⟩, h2⟩) id⟩
section
variable {c : Cx} {l : KY} {L : J3} {X : XP} {Q : Exit → Act → World → Prop} {d : List Deferred}
variable {ops : Array Oper} {rest : List Oper} {i : Nat} {v : Value} {t : TypeId} {ps : String} {af : Array Edge} {gd : Option (Nat × Bool)} {ty : TypeId}
theorem JB {ok : Prop} {T L0 : J3} {f : Operand} {args : Array Operand}
  (hp : L.Perm (T ++ L0)) (hg : KW l ops ⟨some i, .call ⟨.value f, args, at_⟩, ty, ps, af, gd⟩ = some true) (hi : Nat.ble (i + 1) c.n = true) (hca : Qw l f args = some (g, vs)) (eg : Enters c.P g)
  (hpt : PureXT c.P g vs.toArray ok bad V T LL Rl) (hR : ∀ p ∈ Rl, known c L0 p.1 p.2) (h : ok → ∀ x, HL c d ((i, V x) :: l) (LL x ++ L0) X ops rest Q) (hb : ∀ v, bad v → HQ c d l L0 X (Q (.panic (ja v)))) :
  HL c d l L X ops (⟨some i, .call ⟨.value f, args, at_⟩, ty, ps, af, gd⟩ :: rest) Q := fun a w hf hs => by
 refine QX (Kh hf hg) O ?_; rw [VK hf hca c.P w _ rfl eg, Oper.uponIn_enter]; refine ⟨fun hdep => nW, ?_⟩
 have hs := hs.perm hp
 obtain ⟨hd1, _, hd3⟩ := List.pairwise_append.1 hs.distinct
 have hc := callsIn_wide (n := 0) |>.2 (hpt.run w (fun p hp => (hs.own p (W' hp)).2.2) (fun p hp => (hR p hp).elim (fun h => (hs.own _ (Y' h)).2.2) hs.readR) hd1 (fun p hp q hq => by
  rcases hR p hp with h | h
  ·exact fun e => hd3 q hq _ h e.symm
  ·rintro e
   obtain ⟨h1, _, h3⟩ := hs.ext _ h
   have h3 := JM h3
   rcases (hs.own q (W' hq)).1 with h4 | h4
   ·exact h1 (e ▸ h4)
   ·simp only at h3 e; omega))
 refine CallsIn.mono mT ?_
 rintro e w' (⟨ho, x, rfl, hk, h1, h2⟩ | ⟨v, hv, rfl, hk⟩)
 ·exact h ho x _ w' (hf.put (H' hi)) (hs.turnT hk h1 h2)
 ·exact hb v hv a w' hf (by have := hs.turnT (LL := []) hk (fun _ h => nomatch h) .nil; exact this)
theorem JF {ok : Prop} (hc2 : c.xids = []) (h : bad v) : HQ c [] l L X (bodyPostM (FW none) 0 P fn (Jpx c ok bad V LL) (.panic (ja v))) :=
 Jh1 fun w hs => .inr ⟨v, h, rfl, by have := hs.keep; rw [hc2, List.append_nil] at this; exact this⟩
end
def wgV (e : Int) : Value := .iface 113 (.agg #[.int .i64 e])
def badW (ok : Prop) (v : Value) : Prop := ¬ ok ∧ ∃ e, e ≠ 0 ∧ v = wgV e
theorem badW.mono {p q : Prop} {v : Value} (h : badW p v) (hq : q → p) : badW q v := ⟨fun hh => h.1 (hq hh), h.2⟩
theorem VR (e : Int) : PureX (α := Unit) prog 51 [.int .i64 e].toArray (e = 0) (fun v => e ≠ 0 ∧ v = wgV e) (fun _ => .tuple #[]) (fun _ => []) [] := by
 refine Vk Tryz.func51 O O fun w => Kl (gv ?_); refine cD (fun g => ?_) fun g => ?_
 exact D1
 ·exact Dm
theorem QI {r : List ItL} {p : Pl} (hs : Seg R (y :: r).length (Kq (y :: r)) p) (hl : (y :: r).length ≤ 1000000) (eg : Enters prog g) (hg : PureX (α := α) prog g (y.val :: caps).toArray ok1 (badW OK) (fun x => .tuple #[V x, .int .i64 e]) LL R) (h1 : ok1 → e = 0 → OK) (h2 : e ≠ 0 → ¬ OK) : PureXT (α := α) prog 123 [Kj q, .func (.func g) #[] caps.toArray].toArray OK (badW OK) V (QE q (y :: r).length p) (fun x => QE q r.length (JU 3 1 p) ++ LL x) R := by
 refine Qj Tryz.func123 O O fun w => Gm ?_; refine Jx (T := QE q (y :: r).length p) (L0 := []) (O') O O O wF (jg hs hl) oR fun _ => ?_; rw [List.append_nil]
 refine KD O O O eg hg oR (fun hk1 x => ?_) (fun v hv => by (repeat (first | refine J6 ?_ | refine Jz ?_)); exact JF O (hv)); refine HR ?_
 refine KD O O O ZJ (VR _) oN (fun hok0 _ => ?_) (fun v hv => by (repeat (first | refine J6 ?_ | refine Jz ?_)); exact JF O (⟨h2 hv.1, e, hv.1, hv.2⟩)); exact kC
theorem V9 {r : List ItL} {p : Pl} (hs : Seg R (y :: r).length (Kq (y :: r)) p) (hl : (y :: r).length ≤ 1000000) (eg : Enters prog g) (hg : PureX (α := α) prog g (y.val :: caps).toArray ok1 (badW OK) (fun x => .tuple #[V x, .int .i64 e]) LL R) (h1 : ok1 → e = 0 → OK) (h2 : e ≠ 0 → ¬ OK) : PureXT (α := α) prog 118 [Kj q, .func (.func g) #[] caps.toArray].toArray OK (badW OK) V (QE q (y :: r).length p) (fun x => QE q r.length (JU 3 1 p) ++ LL x) R := by
 refine Qj Tryz.func118 O O fun w => Gm ?_; refine Jx (T := QE q (y :: r).length p) (L0 := []) (O') O O O wF (jg hs hl) oR fun _ => ?_; rw [List.append_nil]
 refine KD O O O eg hg oR (fun hk1 x => ?_) (fun v hv => by (repeat (first | refine J6 ?_ | refine Jz ?_)); exact JF O (hv)); refine HR ?_
 refine KD O O O ZJ (VR _) oN (fun hok0 _ => ?_) (fun v hv => by (repeat (first | refine J6 ?_ | refine Jz ?_)); exact JF O (⟨h2 hv.1, e, hv.1, hv.2⟩)); exact kC
theorem Jum {r : List ItL} {p : Pl} (hs : Seg R (y :: r).length (Kq (y :: r)) p) (hl : (y :: r).length ≤ 1000000) (eg : Enters prog g) (hg : PureX (α := α) prog g (y.val :: caps).toArray ok1 (badW OK) (fun x => .tuple #[V x, .int .i64 e]) LL R) (h1 : ok1 → e = 0 → OK) (h2 : e ≠ 0 → ¬ OK) : PureXT (α := α) prog 124 [Kj q, .func (.func g) #[] caps.toArray].toArray OK (badW OK) V (QE q (y :: r).length p) (fun x => QE q r.length (JU 3 1 p) ++ LL x) R := by
 refine Qj Tryz.func124 O O fun w => Gm ?_; refine Jx (T := QE q (y :: r).length p) (L0 := []) (O') O O O wF (jg hs hl) oR fun _ => ?_; rw [List.append_nil]
 refine KD O O O eg hg oR (fun hk1 x => ?_) (fun v hv => by (repeat (first | refine J6 ?_ | refine Jz ?_)); exact JF O (hv)); refine HR ?_
 refine KD O O O ZJ (VR _) oN (fun hok0 _ => ?_) (fun v hv => by (repeat (first | refine J6 ?_ | refine Jz ?_)); exact JF O (⟨h2 hv.1, e, hv.1, hv.2⟩)); exact kC
theorem Ja3 {r : List ItL} {p : Pl} (hs : Seg R (y :: r).length (Kq (y :: r)) p) (hl : (y :: r).length ≤ 1000000) (eg : Enters prog g) (hg : PureX (α := α) prog g (y.val :: caps).toArray ok1 (badW OK) (fun x => .tuple #[V x, .int .i64 e]) LL R) (h1 : ok1 → e = 0 → OK) (h2 : e ≠ 0 → ¬ OK) : PureXT (α := α) prog 127 [Kj q, .func (.func g) #[] caps.toArray].toArray OK (badW OK) V (QE q (y :: r).length p) (fun x => QE q r.length (JU 3 1 p) ++ LL x) R := by
 refine Qj Tryz.func127 O O fun w => Gm ?_; refine Jx (T := QE q (y :: r).length p) (L0 := []) (O') O O O wF (jg hs hl) oR fun _ => ?_; rw [List.append_nil]
 refine KD O O O eg hg oR (fun hk1 x => ?_) (fun v hv => by (repeat (first | refine J6 ?_ | refine Jz ?_)); exact JF O (hv)); refine HR ?_
 refine KD O O O ZJ (VR _) oN (fun hok0 _ => ?_) (fun v hv => by (repeat (first | refine J6 ?_ | refine Jz ?_)); exact JF O (⟨h2 hv.1, e, hv.1, hv.2⟩)); exact kC
theorem Jun {r : List ItL} {p : Pl} (hs : Seg R (y :: r).length (Kq (y :: r)) p) (hl : (y :: r).length ≤ 1000000) (eg : Enters prog g) (hg : PureX (α := α) prog g (y.val :: caps).toArray ok1 (badW OK) (fun x => .tuple #[V x, .int .i64 e]) LL R) (h1 : ok1 → e = 0 → OK) (h2 : e ≠ 0 → ¬ OK) : PureXT (α := α) prog 130 [Kj q, .func (.func g) #[] caps.toArray].toArray OK (badW OK) V (QE q (y :: r).length p) (fun x => QE q r.length (JU 3 1 p) ++ LL x) R := by
 refine Qj Tryz.func130 O O fun w => Gm ?_; refine Jx (T := QE q (y :: r).length p) (L0 := []) (O') O O O wF (jg hs hl) oR fun _ => ?_; rw [List.append_nil]
 refine KD O O O eg hg oR (fun hk1 x => ?_) (fun v hv => by (repeat (first | refine J6 ?_ | refine Jz ?_)); exact JF O (hv)); refine HR ?_
 refine KD O O O ZJ (VR _) oN (fun hok0 _ => ?_) (fun v hv => by (repeat (first | refine J6 ?_ | refine Jz ?_)); exact JF O (⟨h2 hv.1, e, hv.1, hv.2⟩)); exact kC
theorem Juo {r : List ItL} {p : Pl} (hs : Seg R (y :: r).length (Kq (y :: r)) p) (hl : (y :: r).length ≤ 1000000) (eg : Enters prog g) (hg : PureX (α := α) prog g (y.val :: caps).toArray ok1 (badW OK) (fun x => .tuple #[V x, .int .i64 e]) LL R) (h1 : ok1 → e = 0 → OK) (h2 : e ≠ 0 → ¬ OK) : PureXT (α := α) prog 212 [Kj q, .func (.func g) #[] caps.toArray].toArray OK (badW OK) V (QE q (y :: r).length p) (fun x => QE q r.length (JU 3 1 p) ++ LL x) R := by
 refine Qj Tryz.func212 O O fun w => Gm ?_; refine Jx (T := QE q (y :: r).length p) (L0 := []) (O') O O O wF (jg hs hl) oR fun _ => ?_; rw [List.append_nil]
 refine KD O O O eg hg oR (fun hk1 x => ?_) (fun v hv => by (repeat (first | refine J6 ?_ | refine Jz ?_)); exact JF O (hv)); refine HR ?_
 refine KD O O O ZJ (VR _) oN (fun hok0 _ => ?_) (fun v hv => by (repeat (first | refine J6 ?_ | refine Jz ?_)); exact JF O (⟨h2 hv.1, e, hv.1, hv.2⟩)); exact kC
theorem Q1 {r : List ItL} {p : Pl} {x : W4} (hs : Seg R (y :: r).length (Kq (y :: r)) p) (hl : (y :: r).length ≤ 1000000) (eg : Enters prog g)
  (hg : PureR prog g (y.val :: caps).toArray (.tuple #[.agg (wC x).toArray, .int .i64 e]) R) (h1 : e = 0 → OK) (h2 : e ≠ 0 → ¬ OK) :
  PureXT (α := Unit) prog 121 [Kj q, .func (.func g) #[] caps.toArray].toArray OK (badW OK) (fun _ => .agg (wC x).toArray) (QE q (y :: r).length p) (fun _ => QE q r.length (JU 3 1 p)) R := by
 refine Qj Tryz.func121 O O fun w => MZ ?_; refine LN O fun r4 => gp ?_; refine Jx (T := QE q (y :: r).length p) (L0 := [(r4, _)]) (B' (l₁ := [_])) O O O wF (jg hs hl) oR fun _ => Ju O O O eg hg oR (MR ?_); refine LN O fun r5 => Je (k := 0) (n := 4) (ys := wC x) O O O O O O O O O (gp ?_)
 refine KD O O O ZJ (VR _) oN (fun hok0 _ => ?_) (fun v hv => by (repeat (first | refine J6 ?_ | refine Jz ?_)); exact JF O (⟨h2 hv.1, e, hv.1, hv.2⟩)); refine kV ?_; refine LR O (Ji (xs := wC x) (n := 4) O (kn 0 O) O O O) ?_; refine Je (k := 2) (n := 4) (ys := wC x) O O O O O O O O O ?_; refine GN ?_; refine Jh O O (.cons (Jj (vs := wC x) O (kn 2 O) O O) .nil) (fun w1 hs1 => ?_); exact .inl ⟨h1 hok0, (), rfl, hs1.weakL (.cons _ (.cons_cons _ (S')))⟩
theorem Jeb (n : Nat) (hx : x.In R) : PureXT (α := Nat) prog 52 [x.val, .int .i64 (n : Int)].toArray (Ka x.er n n = 0) (badW (Ka x.er n n = 0)) (fun q => Kj q) [] (fun q => QE q x.xs.length x.p) R := by
 have hgl := Wi hx n n
 refine Qj Tryz.func52 O O fun w => MZ ?_; refine JR (cs := List.toArray (x.cells)) O O O O fun r2 => kB ?_; refine H7 ?_; refine gu ?_; refine Ju O O O vh hgl oR (HR ?_)
 refine KD O O O ZJ (VR _) oN (fun hok0 _ => ?_) (fun v hv => by (repeat (first | refine J6 ?_ | refine Jz ?_)); exact JF O (⟨hv.1, _, hv.1, hv.2⟩)); rw [if_pos hok0]; refine kB ?_; refine LR O (Jo (r := [_]) O O) ?_; refine LN O fun r1 => ?_; refine gA ?_; refine N3 fun w1 hs1 => ?_; exact .inl ⟨hok0, _, rfl, hs1.weakL (.cons_cons _ (S'))⟩
def Q0 (n : Nat) (it : It) : BS × Int := if it.l = true ∨ it.b.length ≠ n then ([], 2) else (it.b, 0)
def Jn (it : It) : W4 × Int := (W4.of (if it.l = true then [0, 0, 0, 0] else if (Q3 it.b).2 ≠ 0 then [0, 0, 0, 0] else (Q3 it.b).1), if it.l = true then 2 else if (Q3 it.b).2 ≠ 0 then (Q3 it.b).2 else 0)
theorem Qz (it : It) : (Jn it).1.ok := by
 refine W4.ok_of ?_
 have h0 : WOk [0, 0, 0, 0] := w40_ok.wok
 split
 ·exact h0
 ·split
  ·exact h0
  ·exact Xd _
theorem Vd (it : It) : VL (Jf it).1 := by
 unfold Jf
 dsimp only
 split
 ·exact QS
 ·split
  ·exact QS
  ·exact Jtj _
theorem Ji5 {n : Nat} (h : (Q0 n it).2 = 0) : (Q0 n it).1 = it.b ∧ it.b.length = n := by
 unfold Q0 at h ⊢
 by_cases hc : it.l = true ∨ it.b.length ≠ n
 ·rw [if_pos hc] at h; exact absurd h m7
 ·rw [if_neg hc]; exact ⟨rfl, Classical.byContradiction fun e => hc (.inr e)⟩
theorem Ja4 (n : Nat) (it : It) : (Q0 n it).1.length ≤ n := by
 unfold Q0
 split
 ·exact Gw
 ·rename_i h; exact Nat.le_of_eq (Classical.byContradiction fun e => h (.inr e))
theorem VG (it : It) {hi : Nat} : (Js it 0 hi).1.length ≤ hi := by
 unfold Js
 dsimp only
 split
 ·exact Gw
 ·split
  ·exact Gw
  ·rename_i h
   unfold WT at h
   split at h
   ·exact absurd h m7
   ·split at h
    ·exact absurd h m7
    ·omega
theorem WP (it : It) : (JK it).1.length ≤ 20 := by
 have h1 : (ZQ it.b).1.length ≤ 20 := by
  unfold ZQ
  by_cases h2 : it.b ≠ [] ∧ it.b.length ≠ 20
  ·rw [if_pos h2]; exact Gw
  ·rw [if_neg h2]
   by_cases h3 : it.b = []
   ·show it.b.length ≤ 20; rw [h3]; exact Gw
   ·exact Nat.le_of_eq (Classical.byContradiction fun e => h2 ⟨h3, e⟩)
 unfold JK
 dsimp only
 split
 ·exact Gw
 ·split
  ·exact Gw
  ·exact h1
theorem QC (h : Ka it lo hi = 0) : it.l = true ∧ lo ≤ it.xs.length ∧ (it.xs.length : Int) ≤ hi := by
 unfold Ka at h
 by_cases h1 : it.l ≠ true
 ·rw [if_pos h1] at h; exact absurd h m7
 rw [if_neg h1] at h
 by_cases h2 : WT it.xs.length lo hi ≠ 0
 ·rw [if_pos h2] at h; exact absurd h h2
 have h2 : WT it.xs.length lo hi = 0 := Classical.byContradiction h2
 unfold WT at h2
 by_cases h3 : (it.xs.length : Int) < lo
 ·rw [if_pos h3] at h2; exact absurd h2 m7
 rw [if_neg h3] at h2
 by_cases h4 : (it.xs.length : Int) > hi
 ·rw [if_pos h4] at h2; exact absurd h2 m7
 exact ⟨Classical.byContradiction h1, by omega, by omega⟩
theorem Yt  {n : Nat} (x : ItL) (h : YR r n ∈ R) : PureR prog 206 [x.val, Kj r].toArray (.tuple #[Jk (Q0 n x.er).1, .int .i64 (Q0 n x.er).2]) R := by
  obtain ⟨l, b, p, xs⟩ := x
  unfold Q0
  rw [er_l, er_b]; refine J1 Tryz.func206 O O fun w => MZ ?_; refine JR (cs := List.toArray (ItL.cells (.mk l b p xs))) O O O O fun r2 => g8 ?_
  refine N5 ?_; refine gl ?_
  refine J8 7 O (fun gb => ?_) (fun gb => ?_) <;> (try simp only [ZZ] at gb) <;> first | (refine LR O (Ja O O m0) ?_) | (refine LK O ?_)
  all_goals refine Nh ?_
  all_goals refine ko ?_
  all_goals first | refine LR O (Jc O (Or.inr h) O O) ?_ | refine LK O ?_
  all_goals first | (refine KC O ?_; refine J4 (congrArg Value.bool (J0y b.length n)) ?_) | refine LK O ?_
  all_goals refine N4 ?_
  all_goals (
   refine kN ?_; refine Jl O (fun g => ?_) (fun g => ?_)
   try simp only [ZZ] at g
   refine GL ?_; refine Np fun w1 hs1 => ?_
   first | (rw [if_pos (.inl ma)]; rfl) | (rw [if_pos (.inr ma)]; rfl)
   · try exact Bool.noConfusion g
     all_goals try simp only [ZZ] at g
     all_goals (
      refine DK ?_; refine G4 ?_; refine Np fun w1 hs1 => ?_
      (rw [if_neg (by intro h; rcases h with h | h
                      rw [Bool.eq_false_iff] at *; exact absurd h ma
                      omega)]; rfl)
      skip)
   skip)
theorem Yu (x : ItL) : PureR prog 126 [x.val].toArray (.tuple #[Jk (Js x.er 0 (4096 : Nat)).1, .int .i64 (Js x.er 0 (4096 : Nat)).2]) R := by
 have hgt := WB (R := R) x 0 (4096 : Nat)
 refine J1 Tryz.func126 O O fun w => MZ ?_; refine JR (cs := List.toArray (x.cells)) O O O O fun r2 => gp ?_; refine H7 ?_; refine Ju O O O Jft hgt oR (kg ?_); exact gk
theorem Kx (x : ItL) : PureR prog 122 [x.val].toArray (.tuple #[.agg (wC (Jn x.er).1).toArray, .int .i64 (Jn x.er).2]) R := by
 obtain ⟨l, b, p, xs⟩ := x
 have h0 : Pure prog 203 (Jk b :: []).toArray (Jkc (Q3 b)) := jF _
 have h1 := Jf7 (l := l) (p := p) (xs := xs) (r := (Q3 b).1) (e := (Q3 b).2) (R := R) (Xd b).1 h0.toR
 unfold Jn
 rw [er_l, er_b]
 obtain ⟨z, hz⟩ : ∃ z, (if l = true then [0, 0, 0, 0] else if (Q3 b).2 ≠ 0 then [0, 0, 0, 0] else (Q3 b).1) = z := ⟨_, rfl⟩
 have hz4 : z.length = 4 := by rw [← hz]; split <;> (try split) <;> first | rfl | exact (Xd b).1
 rw [hz] at h1 ⊢
 obtain ⟨a1, a2, a3, a4, rfl⟩ := w4 hz4
 exact h1
theorem J1d (x : ItL) : PureX (α := Unit) prog 214 [x.val].toArray ((Q0 32 x.er).2 = 0) (badW ((Q0 32 x.er).2 = 0)) (fun _ => Jk (Q0 32 x.er).1) (fun _ => []) R := by
 obtain ⟨l, b, p, xs⟩ := x
 refine Vk Tryz.func214 O O fun w => MZ ?_; refine JR (cs := List.toArray (ItL.cells (.mk l b p xs))) O O O O fun r1 => G5 ?_; refine Kk [(r1, .cells (List.toArray (ItL.cells (.mk l b p xs))) 91 (0, 0))] [(0, .grow (V1 0 (fun r => .func (.func 206) #[] #[Kj r]) (fun r => [YR r 32]))), (1, .pure), (2, .turn), (3, .pure), (4, .pure), (5, .pure), (6, .pure), (7, .pure)] 8 [1, 0, 2, 3, 4, 5, 6, 7] m4 m4 (fun p hp => hp) (Jr (k := 1) O O O O O (fun _ hS => (Ki (vs := [_, _, _]) O (.inl (hS _ (J0 (n := 0) O))) O O O O)) (QV (k := 0) O O O O O Jc2 (jM 32) fun re => KH (k := 2) (T0 := []) (L0 := [YR re 32, (r1, .cells (List.toArray (ItL.cells (.mk l b p xs))) 91 (0, 0))]) (E' := fun _ => [YR re 32, (r1, .cells (List.toArray (ItL.cells (.mk l b p xs))) 91 (0, 0))]) (O') (fun _ => O') O O O O O Jc7 (Yt (R := [YR re 32]) (.mk l b p xs) (r := re) (n := 32) N').toT (fun q hq => .inl mB) (fun x q hq => M' hq) fun y => D4 ?_)); refine Jr (k := 4) O O O O O (fun _ hS => (Jb O O)) (Jr (k := 5) O O O O O (fun _ hS => (Jb O O)) (Jr (k := 6) O O O O O (fun _ hS => (J7 O)) (Jr (k := 7) O O O O O (fun _ hS => (J7 O)) (KJ (kB ?_)))))
 refine KD O O O ZJ (VR _) oN (fun hok0 _ => ?_) (fun v hv => by (repeat (first | refine J6 ?_ | refine Jz ?_)); exact Va O O (⟨hv.1, _, hv.1, hv.2⟩)); refine JD 9 O ?_; refine N3 fun w1 hs1 => ?_; exact .inl ⟨hok0, (), rfl, hs1.weakL (S')⟩
def WQ (n : Nat) (it : It) : List BS := if Ka it 0 n = 0 then it.xs.map It.b else []
def Jgl (n : Nat) (it : It) : Prop := Ka it 0 n = 0 ∧ ∀ y ∈ it.xs, (Q0 32 y).2 = 0
theorem Jpy {n : Nat} (hn : n ≤ 1000) : (WQ n it).length ≤ 1000 := by
 unfold WQ
 split
 ·exact Ds
 ·exact Gw
theorem Jup (xs : List ItL) (l : Bool) (b : BS) (p : Pl) : ((ItL.er (.mk l b p xs)).xs.map It.b).map Jk = xs.map fun x => Jk x.b := by
 rw [er_xs, List.map_map, List.map_map]; exact List.map_congr_left fun x _ => congrArg Jk (ItL.er_b x)
structure KeyI (xs : List ItL) (i : Nat) (row : QZ) : Prop where
  le : i ≤ xs.length
  row : rowOk 1 i ((xs.take i).map fun x => Jk x.b) row
  ok : ∀ y ∈ xs.take i, (Q0 32 y.er).2 = 0
theorem Jgm {xs : List ItL} {y : It} (h : y ∈ xs.map ItL.er) : ∃ x ∈ xs, x.er = y := List.mem_map.1 h
theorem Jpz  {n : Nat} (hx : x.In R) (hn : n ≤ 1000) (h1 : YR r1 n ∈ R) (h2 : yB r2 196 214 ∈ R) :
  PureX (α := { row : QZ // rowOk 1 (WQ n x.er).length ((WQ n x.er).map Jk) row }) prog 245 (x.val :: [Kj r1, Kj r2]).toArray (Ka x.er 0 n = 0 → ∀ y ∈ x.er.xs, (Q0 32 y).2 = 0) (badW (Jgl n x.er))
   (fun y => .tuple #[JV (WQ n x.er).length y.1, .int .i64 (Ka x.er 0 n)]) (fun y => J9 9 ((WQ n x.er).map Jk) y.1) R := by
 have hgl := Wi hx 0 n
 obtain ⟨l, b, p, xs⟩ := x
 refine Vk Tryz.func245 O O fun w => Kl ?_
 by_cases hG : Ka (ItL.er (.mk l b p xs)) 0 n = 0
 ·rw [if_pos hG, hG] at hgl
  have hs : Seg R xs.length (Kq xs) p := hx.seg
  have hxl : xs.length ≤ 1000 := by have h := (QC hG).2.2; rw [er_xs, D'] at h; omega
  have hK : WQ n (ItL.er (.mk l b p xs)) = (ItL.er (.mk l b p xs)).xs.map It.b := if_pos hG
  rw [hG, hK, Jup, D', er_xs, D']; refine NG ?_; refine Na fun r3 => ?_; refine No ?_; refine JQ (σ := Nat × QZ) (fun z => KeyI xs z.1 z.2) (fun z => [(1, Kj r1), (2, Kj r2), (7, .int .i64 0), (8, JV z.1 z.2), (17, Km xs.length p), (18, .int .i64 (xs.length : Int)), (19, .int .i64 (z.1 : Int))]) (fun z => J9 9 ((xs.take z.1).map fun x => Jk x.b) z.2) (fun _ _ _ => True) (fun z => xs.length - z.1) (0, none) ⟨Z', ⟨rfl, rfl⟩, fun _ h => nomatch h⟩ (lK O) (S') (fun _ _ h => h) ?_; rintro ⟨i, row⟩ hI; simp only at hI
  have hi1 := hI.le
  refine gv ?_; refine Jl O (fun h8 => ?_) (fun h8 => ?_)
  ·try simp only [ZZ] at h8
   refine Hu ?_
   obtain ⟨y, hy, hmy⟩ := Vh mz
   refine kD fun rx => ?_
   refine KD O O O (enters_of Tryz.func214 m4 O) (J1d (R := []) y) oN (fun hok0 _ => ?_) (fun v hv => by (repeat (first | refine J6 ?_ | refine Jz ?_)); exact Va O O (hv.mono fun h => h.2 y.er (by rw [er_xs]; exact List.mem_map.2 ⟨y, hmy, rfl⟩))); rw [(Ji5 hok0).1, ItL.er_b]; refine Gs fun rb => ?_; refine Kw (L0 := [(rb, _), (rx, _)]) (xs := (xs.take i).map fun x => Jk x.b) (row := row) (n := i) (sz := 1) (b := 16) (news := [Jk y.b]) (B' (l₁ := [_, _])) O O O O (kn 0 O) O O O O O m7 O O O m7 hI.row m3 m3 fun ra cap sp hra => ?_; refine Dr ?_; rw [wX hy] at hra
   exact JL (i + 1, some (ra, cap, sp)) ⟨by simp only; omega, hra, fun z hz => by simp only at hz; rw [List.take_add_one, hy, Option.toList_some] at hz; rcases G'.1 hz with h | h; exact hI.ok z h; rw [U'.1 h]; exact hok0⟩ mj (lK O) Mj (fun _ _ h => h)
  try simp only [ZZ] at h8
  refine ET fun w1 hs1 => ?_
  have hiM : i = xs.length := by omega
  have hrow := hI.row
  have hok := hI.ok
  rw [hiM, List.take_length] at hrow hok hs1; exact .inl ⟨fun _ y hy => (by obtain ⟨x, hx, rfl⟩ := Jgm hy; exact hok x hx), ⟨row, hrow⟩, congrArg (fun n => Ending.returned (Value.tuple #[JV n row, Value.int IntKind.i64 0])) hiM, hs1.weakL (T')⟩
 ·rw [if_neg hG] at hgl
  have hK : WQ n (ItL.er (.mk l b p xs)) = [] := if_neg hG
  refine ki fun r3 => ?_; intro _ _; refine gv ?_; refine Jl O (fun h8 => ?_) (fun h8 => ?_)
  exact absurd h8 (m7)
  ·try simp only [ZZ] at h8
   exact Hw
def axE (it : It) : AxE := ⟨(Q0 20 (it.xs.getD 0 KE)).1, WQ 16 (it.xs.getD 1 KE)⟩
structure AxOk (it : It) : Prop where
  l : Ka it (2 : Nat) (2 : Nat) = 0
  a : (Q0 20 (it.xs.getD 0 KE)).2 = 0
  k : Jgl 16 (it.xs.getD 1 KE)
def auE (it : It) : AuE := ⟨(Jf (it.xs.getD 0 KE)).1, (Q0 20 (it.xs.getD 1 KE)).1, (Jf (it.xs.getD 2 KE)).1, (Jf (it.xs.getD 3 KE)).1, (Jn (it.xs.getD 4 KE)).1, (Jn (it.xs.getD 5 KE)).1⟩
structure AuOk (it : It) : Prop where
  l : Ka it (6 : Nat) (6 : Nat) = 0
  c : (Jf (it.xs.getD 0 KE)).2 = 0
  a : (Q0 20 (it.xs.getD 1 KE)).2 = 0
  n : (Jf (it.xs.getD 2 KE)).2 = 0
  y : (Jf (it.xs.getD 3 KE)).2 = 0
  r : (Jn (it.xs.getD 4 KE)).2 = 0
  s : (Jn (it.xs.getD 5 KE)).2 = 0
theorem Ji6 {xs : List ItL} (h : xs.length = 2) : ∃ y z, xs = [y, z] := by
 match xs, h with
 | [y, z], _ => exact ⟨y, z, rfl⟩
theorem Juq {xs : List ItL} (h : xs.length = 6) : ∃ a b c d e f, xs = [a, b, c, d, e, f] := by
 match xs, h with
 | [a, b, c, d, e, f], _ => exact ⟨a, b, c, d, e, f, rfl⟩
theorem Jp0 {l : Bool} {b : BS} {p : Pl} {xs : List ItL} {n : Nat} (h : Ka (ItL.er (.mk l b p xs)) n n = 0) : xs.length = n := by
 have h := QC h
 rw [er_xs, D'] at h; omega
theorem qV (l : Bool) (b : BS) (p : Pl) (xs : List ItL) : ItL.er (.mk l b p xs) = .mk l b (xs.map ItL.er) := by rw [ItL.er]
theorem Jyw (hx : x.In R) :
  PureX (α := AxN (axE x.er)) prog 129 [x.val].toArray (AxOk x.er) (badW (AxOk x.er)) (fun z => z.x.val) (fun z => z.L) R := by
 obtain ⟨l, b, p, xs⟩ := x
 refine Vk Tryz.func129 O O fun w => Dh fun r1 r2 => ?_
 refine KD O O O Jni (WO (Jeb 2 hx)) oR (fun hok0 q => ?_) (fun v hv => by (repeat (first | refine J6 ?_ | refine Jz ?_)); exact Va O O (hv.mono fun h => h.l))
 obtain ⟨y, z, rfl⟩ := Ji6 (Jp0 hok0)
 have hs := hx.seg
 change Seg R [y, z].length (Kq [y, z]) p at hs
 have hy0 : (ItL.er (.mk l b p [y, z])).xs.getD 0 KE = y.er := by rw [qV]; rfl
 have hz0 : (ItL.er (.mk l b p [y, z])).xs.getD 1 KE = z.er := by rw [qV]; rfl
 have hzI : z.In R := hx.sub z (by simp [ItL.xs])
 refine gp ?_; refine KG O O O Jc2 (jM 20) fun re => ?_
 refine JB (T := QE q 2 p) (L0 := [YR re 20, (r2, _), (r1, _)]) (Rl := YR re 20 :: R) (P') O O O X8 (V9 (ok1 := True) (OK := (Q0 20 y.er).2 = 0) (hs.mono fun q hq => M' hq) mf Jc7 (xR (Yt y (r := re) (n := 20) N')) (fun _ h => h) (fun h => h)) (fun q hq => (F'.1 hq).elim (fun h => Or.inl (h ▸ N')) Or.inr) (fun hok1 _ => ?_) (fun v hv => by (repeat (first | refine J6 ?_ | refine Jz ?_)); exact Va O O (hv.mono fun h => by rw [← hy0]; exact h.a)); refine JI O (KG O O O (enters_of Tryz.func213 m4 O) (Jt7 16 214) fun zz => ?_)
 have hg2 := Jpz (R := yB zz.2 196 214 :: YR zz.1 16 :: R) (n := 16) (hzI.mono fun q hq => M' (M' hq)) m7 (M' N') N'
 refine JB (T := QE q 1 (JU 3 1 p)) (L0 := [yB zz.2 196 214, YR zz.1 16, YR re 20, (r2, _), (r1, _)]) (Rl := yB zz.2 196 214 :: YR zz.1 16 :: R) (V3 _ _ _ _) O O O (enters_of Tryz.func212 m4 O) (Juo (OK := Jgl 16 z.er) ((Jd hs).mono fun q hq => M' (M' hq)) mf (enters_of Tryz.func245 m4 O) hg2 (fun h1 h2 => ⟨h2, h1 h2⟩) (fun h h2 => h h2.1)) (fun q hq => (F'.1 hq).elim (fun h => Or.inl (h ▸ N')) fun hq => (F'.1 hq).elim (fun h => Or.inl (h ▸ M' N')) Or.inr) (fun hok2 row => ?_) (fun v hv => by (repeat (first | refine J6 ?_ | refine Jz ?_)); exact Va O O (hv.mono fun h => by rw [← hz0]; exact h.k))
 obtain ⟨row, hrow⟩ := row
 refine J4 (show _ = Km (WQ 16 z.er).length (Ke row) from KK hrow) (JY (B' (l₁ := QE q 0 (JU 3 1 (JU 3 1 p)) ++ J9 9 ((WQ 16 z.er).map Jk) row)) ?_); change HL _ _ _ (_ :: _ :: _ :: (r2, _) :: (r1, _) :: (_ :: J9 9 ((WQ 16 z.er).map Jk) row)) _ _ _ _; refine D6 ?_; refine Je (k := 3) (n := 2) (ys := [Jk (Q0 20 y.er).1, Km (WQ 16 z.er).length (Ke row)]) O O O O O O O O O (GN ?_); refine Jh O O (.cons (Jj (vs := [_, _]) O (kn 3 O) O O) .nil) (fun w1 hs1 => ?_)
 have hkl := Jpy (it := z.er) (n := 16) m7
 exact .inl ⟨⟨hok0, by rw [hy0]; exact hok1, by rw [hz0]; exact hok2⟩, ⟨⟨(Q0 20 y.er).1, Ke row, WQ 16 z.er⟩, J9 9 ((WQ 16 z.er).map Jk) row, ⟨(by have := Ja4 20 y.er; show (Q0 20 y.er).1.length ≤ _; omega), (by show (WQ 16 z.er).length ≤ _; omega), Ks (e := 9) hrow m7, fun s hs => by
  have hks : WQ 16 z.er = z.er.xs.map It.b := if_pos hok2.1
  rw [hks] at hs
  obtain ⟨u, hu, rfl⟩ := List.mem_map.1 hs
  rw [(Ji5 (hok2.2 u hu)).2]; decide⟩, by unfold axE; rw [hy0, hz0]; rfl⟩, rfl, hs1.weakL (.cons _ (.cons _ (.cons _ (.cons _ (.cons _ (.cons _ (T')))))))⟩
theorem Jyx (hx : x.In R) :
  PureX (α := Unit) prog 132 [x.val].toArray (AuOk x.er) (badW (AuOk x.er)) (fun _ => .agg (AuE.cells (auE x.er)).toArray) (fun _ => []) R := by
 obtain ⟨l, b, p, xs⟩ := x
 refine Vk Tryz.func132 O O fun w => Dh fun r1 r2 => ?_
 refine KD O O O Jni (WO (Jeb 6 hx)) oR (fun hok0 q => ?_) (fun v hv => by (repeat (first | refine J6 ?_ | refine Jz ?_)); exact Va O O (hv.mono fun h => h.l))
 obtain ⟨a0, a1, a2, a3, a4, a5, rfl⟩ := Juq (Jp0 hok0)
 have hs := hx.seg
 change Seg R [a0, a1, a2, a3, a4, a5].length (Kq [a0, a1, a2, a3, a4, a5]) p at hs
 have ha0 : (ItL.er (.mk l b p [a0, a1, a2, a3, a4, a5])).xs.getD 0 KE = a0.er := by rw [qV]; rfl
 have ha1 : (ItL.er (.mk l b p [a0, a1, a2, a3, a4, a5])).xs.getD 1 KE = a1.er := by rw [qV]; rfl
 have ha2 : (ItL.er (.mk l b p [a0, a1, a2, a3, a4, a5])).xs.getD 2 KE = a2.er := by rw [qV]; rfl
 have ha3 : (ItL.er (.mk l b p [a0, a1, a2, a3, a4, a5])).xs.getD 3 KE = a3.er := by rw [qV]; rfl
 have ha4 : (ItL.er (.mk l b p [a0, a1, a2, a3, a4, a5])).xs.getD 4 KE = a4.er := by rw [qV]; rfl
 have ha5 : (ItL.er (.mk l b p [a0, a1, a2, a3, a4, a5])).xs.getD 5 KE = a5.er := by rw [qV]; rfl
 refine gp ?_
 refine JB (T := QE q 6 p) (L0 := [(r2, _), (r1, _)]) (Rl := R) (O') O O O Wt (QI (ok1 := True) (OK := (Jf a0.er).2 = 0) hs mf XQ (xR (Kz a0)) (fun _ h => h) (fun h => h)) oR (fun hk0 _ => ?_) (fun v hv => by (repeat (first | refine J6 ?_ | refine Jz ?_)); exact Va O O (hv.mono fun h => by rw [← ha0]; exact h.c)); refine JI O (KG O O O Jc2 (jM 20) fun re => ?_)
 refine JB (T := QE q 5 (JU 3 1 p)) (L0 := [YR re 20, (r2, _), (r1, _)]) (Rl := YR re 20 :: R) (P') O O O X8 (V9 (ok1 := True) (OK := (Q0 20 a1.er).2 = 0) ((Jd hs).mono fun q hq => M' hq) mf Jc7 (xR (Yt a1 (r := re) (n := 20) N')) (fun _ h => h) (fun h => h)) (fun q hq => (F'.1 hq).elim (fun h => Or.inl (h ▸ N')) Or.inr) (fun hk1 _ => ?_) (fun v hv => by (repeat (first | refine J6 ?_ | refine Jz ?_)); exact Va O O (hv.mono fun h => by rw [← ha1]; exact h.a)); refine gl ?_
 refine JB (T := QE q 4 (JU 3 1 (JU 3 1 p))) (Rl := R) (O') O O O Wt (QI (ok1 := True) (OK := (Jf a2.er).2 = 0) (Jd (Jd hs)) mf XQ (xR (Kz a2)) (fun _ h => h) (fun h => h)) oR (fun hk2 _ => ?_) (fun v hv => by (repeat (first | refine J6 ?_ | refine Jz ?_)); exact Va O O (hv.mono fun h => by rw [← ha2]; exact h.n)); refine gl ?_
 refine JB (T := QE q 3 (JU 3 1 (JU 3 1 (JU 3 1 p)))) (Rl := R) (O') O O O Wt (QI (ok1 := True) (OK := (Jf a3.er).2 = 0) (Jd (Jd (Jd hs))) mf XQ (xR (Kz a3)) (fun _ h => h) (fun h => h)) oR (fun hk3 _ => ?_) (fun v hv => by (repeat (first | refine J6 ?_ | refine Jz ?_)); exact Va O O (hv.mono fun h => by rw [← ha3]; exact h.y)); refine LR O (Jo (r := [uV (Jf a0.er).1, Jk (Q0 20 a1.er).1, uV (Jf a2.er).1, uV (Jf a3.er).1, uV 0, uV 0, uV 0, uV 0, uV 0, uV 0, uV 0, uV 0]) O m4) ?_; refine LN O fun r4 => ?_; refine Je (k := 0) (n := 12) (ys := [uV (Jf a0.er).1, Jk (Q0 20 a1.er).1, uV (Jf a2.er).1, uV (Jf a3.er).1, uV 0, uV 0, uV 0, uV 0, uV 0, uV 0, uV 0, uV 0]) O O O O O O O O O ?_; refine kB ?_
 refine JB (T := QE q 2 (JU 3 1 (JU 3 1 (JU 3 1 (JU 3 1 p))))) (Rl := R) (P') O O O VN (Q1 (OK := (Jn a4.er).2 = 0) (Jd (Jd (Jd (Jd hs)))) mf Vw (Kx a4) (fun h => h) (fun h => h)) oR (fun hk4 _ => ?_) (fun v hv => by (repeat (first | refine J6 ?_ | refine Jz ?_)); exact Va O O (hv.mono fun h => by rw [← ha4]; exact h.r)); refine gl ?_
 refine JB (T := QE q 1 (JU 3 1 (JU 3 1 (JU 3 1 (JU 3 1 (JU 3 1 p)))))) (Rl := R) (O') O O O VN (Q1 (OK := (Jn a5.er).2 = 0) (Jd (Jd (Jd (Jd (Jd hs))))) mf Vw (Kx a5) (fun h => h) (fun h => h)) oR (fun hk5 _ => ?_) (fun v hv => by (repeat (first | refine J6 ?_ | refine Jz ?_)); exact Va O O (hv.mono fun h => by rw [← ha5]; exact h.s))
 refine MP ?_; refine J2 (k := 1) (n := 4) (cs' := List.toArray ([uV (Jf a0.er).1, Jk (Q0 20 a1.er).1, uV (Jf a2.er).1, uV (Jf a3.er).1, uV (Jn a4.er).1.a, uV (Jn a4.er).1.b, uV (Jn a4.er).1.c, uV (Jn a4.er).1.d, uV 0, uV 0, uV 0, uV 0])) (vs := #[_, _, _, _]) O O O O O O O m8 m4 O ?_
 refine MP ?_; refine J2 (k := 1) (n := 4) (cs' := List.toArray ([uV (Jf a0.er).1, Jk (Q0 20 a1.er).1, uV (Jf a2.er).1, uV (Jf a3.er).1, uV (Jn a4.er).1.a, uV (Jn a4.er).1.b, uV (Jn a4.er).1.c, uV (Jn a4.er).1.d, uV (Jn a5.er).1.a, uV (Jn a5.er).1.b, uV (Jn a5.er).1.c, uV (Jn a5.er).1.d])) (vs := #[_, _, _, _]) O O O O O O O m8 m4 O (kV ?_); refine LR O (Ji (xs := [uV (Jf a0.er).1, Jk (Q0 20 a1.er).1, uV (Jf a2.er).1, uV (Jf a3.er).1, uV (Jn a4.er).1.a, uV (Jn a4.er).1.b, uV (Jn a4.er).1.c, uV (Jn a4.er).1.d, uV (Jn a5.er).1.a, uV (Jn a5.er).1.b, uV (Jn a5.er).1.c, uV (Jn a5.er).1.d]) (n := 12) O (kn 1 O) O O O) (Je (k := 3) (n := 12) (ys := [uV (Jf a0.er).1, Jk (Q0 20 a1.er).1, uV (Jf a2.er).1, uV (Jf a3.er).1, uV (Jn a4.er).1.a, uV (Jn a4.er).1.b, uV (Jn a4.er).1.c, uV (Jn a4.er).1.d, uV (Jn a5.er).1.a, uV (Jn a5.er).1.b, uV (Jn a5.er).1.c, uV (Jn a5.er).1.d]) O O O O O O O O O (GN ?_)); refine Jh O O (.cons (Jj (vs := [uV (Jf a0.er).1, Jk (Q0 20 a1.er).1, uV (Jf a2.er).1, uV (Jf a3.er).1, uV (Jn a4.er).1.a, uV (Jn a4.er).1.b, uV (Jn a4.er).1.c, uV (Jn a4.er).1.d, uV (Jn a5.er).1.a, uV (Jn a5.er).1.b, uV (Jn a5.er).1.c, uV (Jn a5.er).1.d]) O (kn 3 O) O O) .nil) (fun w1 hs1 => ?_); exact .inl ⟨⟨hok0, by rw [ha0]; exact hk0, by rw [ha1]; exact hk1, by rw [ha2]; exact hk2, by rw [ha3]; exact hk3, by rw [ha4]; exact hk4, by rw [ha5]; exact hk5⟩, (), by unfold auE; rw [ha0, ha1, ha2, ha3, ha4, ha5]; rfl, hs1.weakL (S')⟩
def vi (n : Nat) (it : It) : List AxE := if Ka it 0 n = 0 then it.xs.map axE else []
def ya (n : Nat) (it : It) : Prop := Ka it 0 n = 0 ∧ ∀ y ∈ it.xs, AxOk y
def We (n : Nat) (it : It) : List AuE := if Ka it 0 n = 0 then it.xs.map auE else []
def Jp1 (n : Nat) (it : It) : Prop := Ka it 0 n = 0 ∧ ∀ y ∈ it.xs, AuOk y
theorem Ja5 {n : Nat} (it : It) : (vi n it).length ≤ n := by
 unfold vi
 split
 ·exact Ds
 ·exact Gw
theorem Jur {n : Nat} (it : It) : (We n it).length ≤ n := by
 unfold We
 split
 ·exact Ds
 ·exact Gw
structure AccX (xs : List ItL) (i : Nat) (row : QZ) (ys : List AxL) (F : J3) : Prop where
  le : i ≤ xs.length
  ok : rowOk 2 i (V2 ys) row
  len : ys.length = i
  er : ys.map AxL.er = ((xs.take i).map ItL.er).map axE
  inn : ∀ a ∈ ys, a.In F
  all : ∀ y ∈ xs.take i, AxOk y.er
theorem Jec {xs : List ItL} {M : ItL → Prop} (hy : xs[i]? = some y) (h : ∀ z ∈ xs.take i, M z) (h2 : M y) : ∀ z ∈ xs.take (i + 1), M z := fun z hz => by
 rw [List.take_add_one, hy, Option.toList_some] at hz
 rcases G'.1 hz with h3 | h3
 ·exact h z h3
 ·rw [U'.1 h3]; exact h2
theorem Ji7 {l : Bool} {b : BS} {p : Pl} {xs : List ItL} (h : y ∈ xs) : y.er ∈ (ItL.er (.mk l b p xs)).xs := by rw [er_xs]; exact List.mem_map.2 ⟨y, h, rfl⟩
open Classical in
theorem yc  {n : Nat} (hx : x.In R) (hn : n ≤ 1000) (h1 : YR r1 n ∈ R) (h2 : yB r2 222 129 ∈ R) :
  PureX (α := AxsN (vi n x.er)) prog 211 (x.val :: [Kj r1, Kj r2]).toArray (Ka x.er 0 n = 0 → ∀ y ∈ x.er.xs, AxOk y) (badW (ya n x.er)) (fun y => .tuple #[JV y.ys.length y.row, .int .i64 (Ka x.er 0 n)]) (fun y => y.L) R := by
 have hgl := Wi hx 0 n
 obtain ⟨l, b, p, xs⟩ := x
 refine Vk Tryz.func211 O O fun w => Kl ?_
 by_cases hG : Ka (ItL.er (.mk l b p xs)) 0 n = 0
 ·rw [if_pos hG, hG] at hgl
  have hs : Seg R xs.length (Kq xs) p := hx.seg
  have hxl : xs.length ≤ 1000 := by have h := (QC hG).2.2; rw [er_xs, D'] at h; omega
  have hK : vi n (ItL.er (.mk l b p xs)) = (xs.map ItL.er).map axE := by unfold vi; rw [if_pos hG, er_xs]
  rw [hG, hK]; refine NG ?_; refine Na fun r3 => ?_; refine No ?_; refine JQ (σ := Nat × QZ × List AxL × J3) (fun z => AccX xs z.1 z.2.1 z.2.2.1 z.2.2.2) (fun z => [(1, Kj r1), (2, Kj r2), (7, .int .i64 0), (8, JV z.1 z.2.1), (17, Km xs.length p), (18, .int .i64 (xs.length : Int)), (19, .int .i64 (z.1 : Int))]) (fun z => J9 175 (V2 z.2.2.1) z.2.1 ++ z.2.2.2) (fun _ _ _ => True) (fun z => xs.length - z.1) (0, none, [], []) ⟨Z', ⟨rfl, rfl⟩, rfl, rfl, (fun _ h => nomatch h), fun _ h => nomatch h⟩ (lK O) (S') (fun _ _ h => h) ?_; rintro ⟨i, row, ys, F⟩ hP; simp only at hP; change HC _ _ _ (J9 175 (V2 ys) row ++ F) _ _ _; refine gv ?_; refine Jl O (fun h8 => ?_) (fun h8 => ?_)
  ·try simp only [ZZ] at h8
   refine Hu ?_
   have hle := hP.le
   obtain ⟨y, hy, hmy⟩ := Vh mz
   refine kD fun rx => ?_
   refine KD O O O (enters_of Tryz.func129 m4 O) (Jyw (hx.sub y hmy)) oR (fun hok0 z => ?_) (fun v hv => by (repeat (first | refine J6 ?_ | refine Jz ?_)); exact Va O O (hv.mono fun h => h.2 y.er (Ji7 hmy)))
   obtain ⟨z, zL, zin, zer⟩ := z
   refine JO (n := 1) (sz := 2) (vs := [_]) (zs := [_, _]) (r := z.cells) O O O O O O O O O n5 O fun rb => Kw (L0 := (rb, _) :: (rx, _) :: (zL ++ F)) (xs := V2 ys) (row := row) (n := i) (sz := 2) (b := 40) (news := z.cells) (Jt8 _ _ _ _ _) O O O O (kn 0 O) O O O O O m7 O O O m7 hP.ok m3 m3 fun ra cap sp hra => Dr ?_; refine X6 (Jt9 _ _ _ _) ?_
   have hcat : V2 ys ++ z.cells = V2 (ys ++ [z]) := by rw [Jd0]; simp [V2]
   rw [hcat] at hra ⊢; exact JL (i + 1, some (ra, cap, sp), ys ++ [z], zL ++ F) ⟨by simp only; omega, hra, by simp only [C', hP.len]; rfl, by simp only; rw [List.map_append, hP.er, List.take_add_one, hy, Option.toList_some, List.map_append, List.map_append, List.map_singleton, List.map_singleton, List.map_singleton, zer], (fun b hb => (G'.1 hb).elim (fun h => (hP.inn b h).mono fun q hq => Y' hq) fun h => by rw [U'.1 h]; exact zin.mono fun q hq => W' hq), Jec hy hP.all hok0⟩ mj (lK O) (.cons_cons _ (List.sublist_append_left _ _)) (fun _ _ h => h)
  try simp only [ZZ] at h8
  refine ET fun w1 hs1 => ?_
  have hle := hP.le
  have hiM : i = xs.length := by omega
  have hok := hP.ok
  have her := hP.er
  have hall := hP.all
  rw [hiM, List.take_length] at her hall; rw [← hP.len] at hok; exact .inl ⟨fun _ y hy => M5, ⟨ys, row, J9 175 (V2 ys) row ++ F, hok, fun q hq => W' hq, fun b hb => (hP.inn b hb).mono fun q hq => Y' hq, her⟩, congrArg (fun n => Ending.returned (Value.tuple #[JV n row, Value.int IntKind.i64 0])) hP.len.symm, hs1.weakL (T')⟩
 ·rw [if_neg hG] at hgl
  have hK : vi n (ItL.er (.mk l b p xs)) = [] := if_neg hG
  refine ki fun r3 => ?_; intro _ _; refine gv ?_; refine Jl O (fun h8 => ?_) (fun h8 => ?_)
  exact absurd h8 (m7)
  ·try simp only [ZZ] at h8
   refine ET fun w1 hs1 => ?_; exact .inl ⟨fun h => absurd h hG, ⟨[], none, [], ⟨rfl, rfl⟩, (fun _ h => nomatch h), (fun _ h => nomatch h), rfl⟩, rfl, hs1.weakL (S')⟩
structure AccU (xs : List ItL) (i : Nat) (row : QZ) : Prop where
  le : i ≤ xs.length
  ok : rowOk 12 i (jd (((xs.take i).map ItL.er).map auE)) row
  all : ∀ y ∈ xs.take i, AuOk y.er
theorem Ji8 {xs : List ItL} (hy : xs[i]? = some y) : jd (((xs.take i).map ItL.er).map auE) ++ (auE y.er).cells = jd (((xs.take (i + 1)).map ItL.er).map auE) := by
 rw [List.take_add_one, hy, Option.toList_some, List.map_append, List.map_append]
 unfold jd
 rw [List.flatMap_append]
 simp
theorem Jus (n : Nat) (f : FuncId) : PureE (α := Nat × Nat) prog 131 [.int .i64 (n : Int), .func (.func f) #[] #[]].toArray (fun z => .func (.func 215) #[] #[Kj z.1, Kj z.2]) (fun z => [yB z.2 226 f, YR z.1 n]) := by
 refine Qm Tryz.func131 O O fun w => ?_; exact gV
theorem Jp2  {n : Nat} (hx : x.In R) (hn : n ≤ 1000) (h1 : YR r1 n ∈ R) (h2 : yB r2 226 132 ∈ R) :
  PureX (α := { row : QZ // rowOk 12 (We n x.er).length (jd (We n x.er)) row }) prog 215 (x.val :: [Kj r1, Kj r2]).toArray (Ka x.er 0 n = 0 → ∀ y ∈ x.er.xs, AuOk y) (badW (Jp1 n x.er)) (fun y => .tuple #[JV (We n x.er).length y.1, .int .i64 (Ka x.er 0 n)]) (fun y => J9 177 (jd (We n x.er)) y.1) R := by
 have hgl := Wi hx 0 n
 obtain ⟨l, b, p, xs⟩ := x
 refine Vk Tryz.func215 O O fun w => Kl ?_
 by_cases hG : Ka (ItL.er (.mk l b p xs)) 0 n = 0
 ·rw [if_pos hG, hG] at hgl
  have hs : Seg R xs.length (Kq xs) p := hx.seg
  have hxl : xs.length ≤ 1000 := by have h := (QC hG).2.2; rw [er_xs, D'] at h; omega
  have hK : We n (ItL.er (.mk l b p xs)) = (xs.map ItL.er).map auE := by unfold We; rw [if_pos hG, er_xs]
  rw [hG, hK, D', D']; refine NG ?_; refine Na fun r3 => ?_; refine No ?_; refine JQ (σ := Nat × QZ) (fun z => AccU xs z.1 z.2) (fun z => [(1, Kj r1), (2, Kj r2), (7, .int .i64 0), (8, JV z.1 z.2), (17, Km xs.length p), (18, .int .i64 (xs.length : Int)), (19, .int .i64 (z.1 : Int))]) (fun z => J9 177 (jd (((xs.take z.1).map ItL.er).map auE)) z.2) (fun _ _ _ => True) (fun z => xs.length - z.1) (0, none) ⟨Z', ⟨rfl, rfl⟩, fun _ h => nomatch h⟩ (lK O) (S') (fun _ _ h => h) ?_; rintro ⟨i, row⟩ hP; simp only at hP; refine gv ?_; refine Jl O (fun h8 => ?_) (fun h8 => ?_)
  ·try simp only [ZZ] at h8
   refine Hu ?_
   have hle := hP.le
   obtain ⟨y, hy, hmy⟩ := Vh mz
   refine kD fun rx => ?_
   refine KD O O O (enters_of Tryz.func132 m4 O) (Jyx (hx.sub y hmy)) oR (fun hok0 z => ?_) (fun v hv => by (repeat (first | refine J6 ?_ | refine Jz ?_)); exact Va O O (hv.mono fun h => h.2 y.er (Ji7 hmy))); refine JO (n := 1) (sz := 12) (vs := [_]) (zs := [_, _, _, _, _, _, _, _, _, _, _, _]) (r := (auE y.er).cells) O O O O O O O O O n5 O fun rb => ?_; refine Kw (L0 := [(rb, _), (rx, _)]) (xs := jd (((xs.take i).map ItL.er).map auE)) (row := row) (n := i) (sz := 12) (b := 104) (news := (auE y.er).cells) (B' (l₁ := [_, _])) O O O O (kn 0 O) O O O O O m7 O O O m7 hP.ok m3 m3 fun ra cap sp hra => ?_; refine Dr ?_; rw [Ji8 hy] at hra; exact JL (i + 1, some (ra, cap, sp)) ⟨by simp only; omega, hra, Jec hy hP.all hok0⟩ mj (lK rfl) (by rw [← Ji8 hy]; exact .cons_cons _ (S')) (fun _ _ h => h)
  try simp only [ZZ] at h8
  refine ET fun w1 hs1 => ?_
  have hle := hP.le
  have hiM : i = xs.length := by omega
  have hok := hP.ok
  have hall := hP.all
  rw [hiM, List.take_length] at hok hall hs1; exact .inl ⟨fun _ y hy => M5, ⟨row, hok⟩, congrArg (fun n => Ending.returned (Value.tuple #[JV n row, Value.int IntKind.i64 0])) hiM, hs1.weakL (T')⟩
 ·rw [if_neg hG] at hgl
  have hK : We n (ItL.er (.mk l b p xs)) = [] := if_neg hG
  refine ki fun r3 => ?_; intro _ _; refine gv ?_; refine Jl O (fun h8 => ?_) (fun h8 => ?_)
  exact absurd h8 (m7)
  ·try simp only [ZZ] at h8
   exact Hw
def Jyy (g : List It) : TxE := { tx0 with kind := 126, source := (Q0 32 (g.getD 0 KE)).1, from_ := (Q0 20 (g.getD 1 KE)).1, dest := (JK (g.getD 2 KE)).1, mint := (Jn (g.getD 3 KE)).1, value := (Jn (g.getD 4 KE)).1, gas := (Jf (g.getD 5 KE)).1, system := (Vc (g.getD 6 KE)).1, data := (Js (g.getD 7 KE) 0 (4096 : Nat)).1 }
structure DepOk (g : List It) : Prop where
  source : (Q0 32 (g.getD 0 KE)).2 = 0
  from_ : (Q0 20 (g.getD 1 KE)).2 = 0
  dest : (JK (g.getD 2 KE)).2 = 0
  mint : (Jn (g.getD 3 KE)).2 = 0
  value : (Jn (g.getD 4 KE)).2 = 0
  gas : (Jf (g.getD 5 KE)).2 = 0
  system : (Vc (g.getD 6 KE)).2 = 0
  data : (Js (g.getD 7 KE) 0 (4096 : Nat)).2 = 0
def Ja6 (g : List It) : TxE := { tx0 with kind := 0, nonce := (Jf (g.getD 0 KE)).1, price := (Jn (g.getD 1 KE)).1, gas := (Jf (g.getD 2 KE)).1, dest := (JK (g.getD 3 KE)).1, value := (Jn (g.getD 4 KE)).1, data := (Js (g.getD 5 KE) 0 (4096 : Nat)).1, r := (Jn (g.getD 7 KE)).1, s := (Jn (g.getD 8 KE)).1, chain := if (Jf (g.getD 6 KE)).1 = 27 ∨ (Jf (g.getD 6 KE)).1 = 28 then 0 else ((Jf (g.getD 6 KE)).1 - 35) / 2, y := if (Jf (g.getD 6 KE)).1 = 27 ∨ (Jf (g.getD 6 KE)).1 = 28 then (Jf (g.getD 6 KE)).1 - 27 else ((Jf (g.getD 6 KE)).1 - 35) % 2 }
structure LegOk (g : List It) : Prop where
  nonce : (Jf (g.getD 0 KE)).2 = 0
  price : (Jn (g.getD 1 KE)).2 = 0
  gas : (Jf (g.getD 2 KE)).2 = 0
  dest : (JK (g.getD 3 KE)).2 = 0
  value : (Jn (g.getD 4 KE)).2 = 0
  data : (Js (g.getD 5 KE) 0 (4096 : Nat)).2 = 0
  n : (Jf (g.getD 6 KE)).2 = 0
  r : (Jn (g.getD 7 KE)).2 = 0
  s : (Jn (g.getD 8 KE)).2 = 0
  v : ((Jf (g.getD 6 KE)).1 = 27 ∨ (Jf (g.getD 6 KE)).1 = 28) ∨ (37 ≤ (Jf (g.getD 6 KE)).1 ∧ (Jf (g.getD 6 KE)).1 ≤ 9223372036854775844)
theorem Jlf {xs : List ItL} (h : xs.length = 8) : ∃ y0 y1 y2 y3 y4 y5 y6 y7, xs = [y0, y1, y2, y3, y4, y5, y6, y7] := by
 match xs, h with
 | [y0, y1, y2, y3, y4, y5, y6, y7], _ => exact ⟨y0, y1, y2, y3, y4, y5, y6, y7, rfl⟩
theorem Jp3 {xs : List ItL} (h : xs.length = 9) : ∃ y0 y1 y2 y3 y4 y5 y6 y7 y8, xs = [y0, y1, y2, y3, y4, y5, y6, y7, y8] := by
 match xs, h with
 | [y0, y1, y2, y3, y4, y5, y6, y7, y8], _ => exact ⟨y0, y1, y2, y3, y4, y5, y6, y7, y8, rfl⟩
theorem Jgn {xs : List ItL} (h : xs.length = 11) : ∃ y0 y1 y2 y3 y4 y5 y6 y7 y8 y9 y10, xs = [y0, y1, y2, y3, y4, y5, y6, y7, y8, y9, y10] := by
 match xs, h with
 | [y0, y1, y2, y3, y4, y5, y6, y7, y8, y9, y10], _ => exact ⟨y0, y1, y2, y3, y4, y5, y6, y7, y8, y9, y10, rfl⟩
theorem Jgo {xs : List ItL} (h : xs.length = 12) : ∃ y0 y1 y2 y3 y4 y5 y6 y7 y8 y9 y10 y11, xs = [y0, y1, y2, y3, y4, y5, y6, y7, y8, y9, y10, y11] := by
 match xs, h with
 | [y0, y1, y2, y3, y4, y5, y6, y7, y8, y9, y10, y11], _ => exact ⟨y0, y1, y2, y3, y4, y5, y6, y7, y8, y9, y10, y11, rfl⟩
theorem Ja7 {xs : List ItL} (h : xs.length = 13) : ∃ y0 y1 y2 y3 y4 y5 y6 y7 y8 y9 y10 y11 y12, xs = [y0, y1, y2, y3, y4, y5, y6, y7, y8, y9, y10, y11, y12] := by
 match xs, h with
 | [y0, y1, y2, y3, y4, y5, y6, y7, y8, y9, y10, y11, y12], _ => exact ⟨y0, y1, y2, y3, y4, y5, y6, y7, y8, y9, y10, y11, y12, rfl⟩
theorem Jyz (g : List It) : (Jyy g).ok := ⟨QS, QS, w40_ok, w40_ok, Vd _, Qz _, (fun _ h => nomatch h), QS, w40_ok, w40_ok, Qz _⟩
theorem Ja8 (g : List It) : (Ja6 g).ok := by
 have hn : (Jf (g.getD 6 KE)).1 < 18446744073709551616 := Vd _
 refine ⟨?_, Vd _, w40_ok, Qz _, Vd _, Qz _, (fun _ h => nomatch h), ?_, Qz _, Qz _, w40_ok⟩
 ·unfold Ja6 VL; dsimp only; split <;> omega
 ·unfold Ja6 VL; dsimp only; split <;> omega
theorem Jlg {p : Pl} (hlen : ys.length = 8) (hs : Seg R ys.length (Kq ys) p) :
  PureXT (α := TxN (Jyy (ys.map ItL.er))) prog 53 [Kj q].toArray (DepOk (ys.map ItL.er)) (badW (DepOk (ys.map ItL.er))) (fun z => z.x.val) (QE q ys.length p) (fun z => z.L) R := by
 obtain ⟨y0, y1, y2, y3, y4, y5, y6, y7, rfl⟩ := Jlf hlen
 change PureXT _ _ _ _ _ _ (QE q 8 p) _ _; refine Qj Tryz.func53 O O fun w => DI fun r2 => ?_; refine kB ?_; refine KG O O O Jc2 (jM 32) fun re0 => ?_
 refine JB (T := QE q 8 p) (L0 := [YR re0 32, (r2, _)]) (Rl := YR re0 32 :: R) (V3 _ _ _ _) O O O X8 (V9 (ok1 := True) (OK := (Q0 32 y0.er).2 = 0) (hs.mono fun q hq => M' hq) mf Jc7 (xR (Yt y0 (r := re0) (n := 32) N')) (fun _ h => h) (fun h => h)) (fun q hq => (F'.1 hq).elim (fun h => Or.inl (h ▸ N')) Or.inr) (fun hk0 _ => ?_) (fun v hv => by (repeat (first | refine J6 ?_ | refine Jz ?_)); exact JF O (hv.mono fun h => h.source)); refine JI O (KG O O O Jc2 (jM 20) fun re1 => ?_)
 refine JB (T := QE q 7 (JU 3 1 p)) (L0 := [YR re1 20, YR re0 32, (r2, _)]) (Rl := YR re1 20 :: R) (P') O O O X8 (V9 (ok1 := True) (OK := (Q0 20 y1.er).2 = 0) ((Jd hs).mono fun q hq => M' hq) mf Jc7 (xR (Yt y1 (r := re1) (n := 20) N')) (fun _ h => h) (fun h => h)) (fun q hq => (F'.1 hq).elim (fun h => Or.inl (h ▸ N')) Or.inr) (fun hk1 _ => ?_) (fun v hv => by (repeat (first | refine J6 ?_ | refine Jz ?_)); exact JF O (hv.mono fun h => h.from_)); refine gl ?_
 refine JB (T := QE q 6 (JU 3 1 (JU 3 1 p))) (Rl := R) (O') O O O X8 (V9 (ok1 := True) (OK := (JK y2.er).2 = 0) (Jd (Jd hs)) mf Jc3 (xR (Yp y2)) (fun _ h => h) (fun h => h)) oR (fun hk2 _ => ?_) (fun v hv => by (repeat (first | refine J6 ?_ | refine Jz ?_)); exact JF O (hv.mono fun h => h.dest)); refine LR O (Jo (r := ({ tx0L with source := (Q0 32 y0.er).1, from_ := (Q0 20 y1.er).1, dest := (JK y2.er).1 } : TxL).cells) rfl m4) ?_; refine LN O fun r3 => ?_; refine Je (k := 0) (n := 36) (ys := ({ tx0L with source := (Q0 32 y0.er).1, from_ := (Q0 20 y1.er).1, dest := (JK y2.er).1 } : TxL).cells) rfl rfl rfl rfl rfl rfl rfl rfl rfl ?_; refine kB ?_
 refine JB (T := QE q 5 (JU 3 1 (JU 3 1 (JU 3 1 p)))) (Rl := R) (P') O O O VN (Q1 (OK := (Jn y3.er).2 = 0) (Jd (Jd (Jd hs))) mf Vw (Kx y3) (fun h => h) (fun h => h)) oR (fun hk3 _ => ?_) (fun v hv => by (repeat (first | refine J6 ?_ | refine Jz ?_)); exact JF O (hv.mono fun h => h.mint)); refine gl ?_
 refine JB (T := QE q 4 (JU 3 1 (JU 3 1 (JU 3 1 (JU 3 1 p))))) (Rl := R) (O') O O O VN (Q1 (OK := (Jn y4.er).2 = 0) (Jd (Jd (Jd (Jd hs)))) mf Vw (Kx y4) (fun h => h) (fun h => h)) oR (fun hk4 _ => ?_) (fun v hv => by (repeat (first | refine J6 ?_ | refine Jz ?_)); exact JF O (hv.mono fun h => h.value))
 refine MP ?_; refine J2 (k := 1) (n := 4) (cs' := List.toArray (({ tx0L with source := (Q0 32 y0.er).1, from_ := (Q0 20 y1.er).1, dest := (JK y2.er).1, mint := (Jn y3.er).1 } : TxL)).cells) (vs := #[_, _, _, _]) rfl rfl rfl rfl rfl rfl rfl m8 m4 rfl ?_
 refine MP ?_; refine J2 (k := 1) (n := 4) (cs' := List.toArray (({ tx0L with source := (Q0 32 y0.er).1, from_ := (Q0 20 y1.er).1, dest := (JK y2.er).1, mint := (Jn y3.er).1, value := (Jn y4.er).1 } : TxL)).cells) (vs := #[_, _, _, _]) rfl rfl rfl rfl rfl rfl rfl m8 m4 rfl (kB ?_)
 refine JB (T := QE q 3 (JU 3 1 (JU 3 1 (JU 3 1 (JU 3 1 (JU 3 1 p)))))) (Rl := R) (O') O O O Wt (QI (ok1 := True) (OK := (Jf y5.er).2 = 0) (Jd (Jd (Jd (Jd (Jd hs))))) mf XQ (xR (Kz y5)) (fun _ h => h) (fun h => h)) oR (fun hk5 _ => ?_) (fun v hv => by (repeat (first | refine J6 ?_ | refine Jz ?_)); exact JF O (hv.mono fun h => h.gas)); refine gl ?_
 refine JB (T := QE q 2 (JU 3 1 (JU 3 1 (JU 3 1 (JU 3 1 (JU 3 1 (JU 3 1 p))))))) (Rl := R) (O') O O O (enters_of Tryz.func124 m4 O) (Jum (ok1 := True) (OK := (Vc y6.er).2 = 0) (Jd (Jd (Jd (Jd (Jd (Jd hs)))))) mf (enters_of Tryz.func125 m4 O) (xR (xa y6)) (fun _ h => h) (fun h => h)) oR (fun hk6 _ => ?_) (fun v hv => by (repeat (first | refine J6 ?_ | refine Jz ?_)); exact JF O (hv.mono fun h => h.system)); refine gl ?_
 refine JB (T := QE q 1 (JU 3 1 (JU 3 1 (JU 3 1 (JU 3 1 (JU 3 1 (JU 3 1 (JU 3 1 p)))))))) (Rl := R) (O') O O O X8 (V9 (ok1 := True) (OK := (Js y7.er 0 (4096 : Nat)).2 = 0) (Jd (Jd (Jd (Jd (Jd (Jd (Jd hs))))))) mf Jc4 (xR (Yu y7)) (fun _ h => h) (fun h => h)) oR (fun hk7 _ => ?_) (fun v hv => by (repeat (first | refine J6 ?_ | refine Jz ?_)); exact JF O (hv.mono fun h => h.data))
 refine MP ?_; refine Jm (k := 1) (cs' := List.toArray (({ tx0L with source := (Q0 32 y0.er).1, from_ := (Q0 20 y1.er).1, dest := (JK y2.er).1, mint := (Jn y3.er).1, value := (Jn y4.er).1, gas := (Jf y5.er).1 } : TxL)).cells) rfl rfl rfl rfl rfl rfl rfl rfl m4 rfl ?_
 refine MP ?_; refine Jm (k := 1) (cs' := List.toArray (({ tx0L with source := (Q0 32 y0.er).1, from_ := (Q0 20 y1.er).1, dest := (JK y2.er).1, mint := (Jn y3.er).1, value := (Jn y4.er).1, gas := (Jf y5.er).1, system := (Vc y6.er).1 } : TxL)).cells) rfl rfl rfl rfl rfl rfl rfl rfl m4 rfl ?_
 refine MP ?_; refine Jm (k := 1) (cs' := List.toArray (({ tx0L with source := (Q0 32 y0.er).1, from_ := (Q0 20 y1.er).1, dest := (JK y2.er).1, mint := (Jn y3.er).1, value := (Jn y4.er).1, gas := (Jf y5.er).1, system := (Vc y6.er).1, data := (Js y7.er 0 (4096 : Nat)).1 } : TxL)).cells) rfl rfl rfl rfl rfl rfl rfl rfl m4 rfl (kV ?_); refine LR O (Ji (xs := ({ tx0L with source := (Q0 32 y0.er).1, from_ := (Q0 20 y1.er).1, dest := (JK y2.er).1, mint := (Jn y3.er).1, value := (Jn y4.er).1, gas := (Jf y5.er).1, system := (Vc y6.er).1, data := (Js y7.er 0 (4096 : Nat)).1 } : TxL).cells) (n := 36) rfl (kn 1 rfl) rfl rfl rfl) (Je (k := 4) (n := 36) (ys := ({ tx0L with source := (Q0 32 y0.er).1, from_ := (Q0 20 y1.er).1, dest := (JK y2.er).1, mint := (Jn y3.er).1, value := (Jn y4.er).1, gas := (Jf y5.er).1, system := (Vc y6.er).1, data := (Js y7.er 0 (4096 : Nat)).1 } : TxL).cells) rfl rfl rfl rfl rfl rfl rfl rfl rfl (GN ?_)); refine Jh O O (.cons (Jj (vs := ({ tx0L with source := (Q0 32 y0.er).1, from_ := (Q0 20 y1.er).1, dest := (JK y2.er).1, mint := (Jn y3.er).1, value := (Jn y4.er).1, gas := (Jf y5.er).1, system := (Vc y6.er).1, data := (Js y7.er 0 (4096 : Nat)).1 } : TxL).cells) rfl (kn 4 rfl) rfl rfl) .nil) (fun w1 hs1 => ?_); refine .inl ⟨⟨hk0, hk1, hk2, hk3, hk4, hk5, hk6, hk7⟩, ⟨({ tx0L with source := (Q0 32 y0.er).1, from_ := (Q0 20 y1.er).1, dest := (JK y2.er).1, mint := (Jn y3.er).1, value := (Jn y4.er).1, gas := (Jf y5.er).1, system := (Vc y6.er).1, data := (Js y7.er 0 (4096 : Nat)).1 } : TxL), [], ⟨Jyz (List.map ItL.er [y0, y1, y2, y3, y4, y5, y6, y7]), ?_, ?_, ?_, ?_, Z', Seg.nil, (fun _ h => nomatch h), Z', Seg.nil, (fun _ h => nomatch h)⟩, rfl⟩, rfl, hs1.weakL (S')⟩
 exact Lb' (WP y2.er) m7
 exact Lb' (VG y7.er) m7
 exact Lb' (Ja4 32 y0.er) m7
 ·exact Lb' (Ja4 20 y1.er) m7
theorem J2t (m : Nat) (h : m < 18446744073709551616) : IntKind.u64.wrap (((m : Nat) : Int).tdiv 2) = ((m / 2 : Nat) : Int) := by
 rw [Int.tdiv_eq_ediv_of_nonneg m3, wrap_u64 m3 m3]; omega
theorem J2u (m : Nat) : ((m : Nat) : Int).tmod 2 = ((m % 2 : Nat) : Int) := by
 rw [Int.tmod_eq_emod_of_nonneg m3]; omega
theorem Ji9 (y0 y1 y2 y3 y4 y5 y6 y7 y8 : ItL) (h : (Jf y6.er).1 = 27 ∨ (Jf y6.er).1 = 28) : ({ ({ tx0L with nonce := (Jf y0.er).1, price := (Jn y1.er).1, gas := (Jf y2.er).1, dest := (JK y3.er).1, value := (Jn y4.er).1, data := (Js y5.er 0 (4096 : Nat)).1, r := (Jn y7.er).1, s := (Jn y8.er).1, y := (Jf y6.er).1 - 27 } : TxL) with kind := 0 } : TxL).er = Ja6 (List.map ItL.er [y0, y1, y2, y3, y4, y5, y6, y7, y8]) := by
 have e1 : (if (Jf ((List.map ItL.er [y0, y1, y2, y3, y4, y5, y6, y7, y8]).getD 6 KE)).1 = 27 ∨ (Jf ((List.map ItL.er [y0, y1, y2, y3, y4, y5, y6, y7, y8]).getD 6 KE)).1 = 28 then 0 else ((Jf ((List.map ItL.er [y0, y1, y2, y3, y4, y5, y6, y7, y8]).getD 6 KE)).1 - 35) / 2) = 0 := if_pos h
 have e2 : (if (Jf ((List.map ItL.er [y0, y1, y2, y3, y4, y5, y6, y7, y8]).getD 6 KE)).1 = 27 ∨ (Jf ((List.map ItL.er [y0, y1, y2, y3, y4, y5, y6, y7, y8]).getD 6 KE)).1 = 28 then (Jf ((List.map ItL.er [y0, y1, y2, y3, y4, y5, y6, y7, y8]).getD 6 KE)).1 - 27 else ((Jf ((List.map ItL.er [y0, y1, y2, y3, y4, y5, y6, y7, y8]).getD 6 KE)).1 - 35) % 2) = (Jf y6.er).1 - 27 := if_pos h
 unfold Ja6
 rw [e1, e2]
 rfl
theorem Jja (y0 y1 y2 y3 y4 y5 y6 y7 y8 : ItL) (h : ¬ ((Jf y6.er).1 = 27 ∨ (Jf y6.er).1 = 28)) : ({ ({ tx0L with nonce := (Jf y0.er).1, price := (Jn y1.er).1, gas := (Jf y2.er).1, dest := (JK y3.er).1, value := (Jn y4.er).1, data := (Js y5.er 0 (4096 : Nat)).1, r := (Jn y7.er).1, s := (Jn y8.er).1, chain := ((Jf y6.er).1 - 35) / 2, y := ((Jf y6.er).1 - 35) % 2 } : TxL) with kind := 0 } : TxL).er = Ja6 (List.map ItL.er [y0, y1, y2, y3, y4, y5, y6, y7, y8]) := by
 have e1 : (if (Jf ((List.map ItL.er [y0, y1, y2, y3, y4, y5, y6, y7, y8]).getD 6 KE)).1 = 27 ∨ (Jf ((List.map ItL.er [y0, y1, y2, y3, y4, y5, y6, y7, y8]).getD 6 KE)).1 = 28 then 0 else ((Jf ((List.map ItL.er [y0, y1, y2, y3, y4, y5, y6, y7, y8]).getD 6 KE)).1 - 35) / 2) = ((Jf y6.er).1 - 35) / 2 := if_neg h
 have e2 : (if (Jf ((List.map ItL.er [y0, y1, y2, y3, y4, y5, y6, y7, y8]).getD 6 KE)).1 = 27 ∨ (Jf ((List.map ItL.er [y0, y1, y2, y3, y4, y5, y6, y7, y8]).getD 6 KE)).1 = 28 then (Jf ((List.map ItL.er [y0, y1, y2, y3, y4, y5, y6, y7, y8]).getD 6 KE)).1 - 27 else ((Jf ((List.map ItL.er [y0, y1, y2, y3, y4, y5, y6, y7, y8]).getD 6 KE)).1 - 35) % 2) = ((Jf y6.er).1 - 35) % 2 := if_neg h
 unfold Ja6
 rw [e1, e2]
 rfl
theorem Jp4 {p : Pl} (hlen : ys.length = 9) (hs : Seg R ys.length (Kq ys) p) :
    PureXT (α := TxN (Ja6 (ys.map ItL.er))) prog 54 [Kj q].toArray (LegOk (ys.map ItL.er)) (badW (LegOk (ys.map ItL.er))) (fun z => z.x.val) (QE q ys.length p) (fun z => z.L) R := by
  obtain ⟨y0, y1, y2, y3, y4, y5, y6, y7, y8, rfl⟩ := Jp3 hlen
  have hn : (Jf y6.er).1 < 18446744073709551616 := Vd _
  change PureXT _ _ _ _ _ _ (QE q 9 p) _ _; refine Qj Tryz.func54 O O fun w => DI fun r2 => ?_; refine kB ?_
  refine JB (T := QE q 9 p) (Rl := R) (P') O O O Wt (QI (ok1 := True) (OK := (Jf y0.er).2 = 0) hs mf XQ (xR (Kz y0)) (fun _ h => h) (fun h => h)) oR (fun hk0 _ => ?_) (fun v hv => by (repeat (first | refine J6 ?_ | refine Jz ?_)); exact JF O (hv.mono fun h => h.nonce)); refine gl ?_
  refine JB (T := QE q 8 (JU 3 1 p)) (Rl := R) (O') O O O VN (Q1 (OK := (Jn y1.er).2 = 0) (Jd hs) mf Vw (Kx y1) (fun h => h) (fun h => h)) oR (fun hk1 _ => ?_) (fun v hv => by (repeat (first | refine J6 ?_ | refine Jz ?_)); exact JF O (hv.mono fun h => h.price)); refine gl ?_
  refine JB (T := QE q 7 (JU 3 1 (JU 3 1 p))) (Rl := R) (O') O O O Wt (QI (ok1 := True) (OK := (Jf y2.er).2 = 0) (Jd (Jd hs)) mf XQ (xR (Kz y2)) (fun _ h => h) (fun h => h)) oR (fun hk2 _ => ?_) (fun v hv => by (repeat (first | refine J6 ?_ | refine Jz ?_)); exact JF O (hv.mono fun h => h.gas)); refine LR O (Jo (r := ({ tx0L with nonce := (Jf y0.er).1, price := (Jn y1.er).1, gas := (Jf y2.er).1 } : TxL).cells) rfl m4) ?_; refine LN O fun r3 => ?_; refine Je (k := 0) (n := 36) (ys := ({ tx0L with nonce := (Jf y0.er).1, price := (Jn y1.er).1, gas := (Jf y2.er).1 } : TxL).cells) rfl rfl rfl rfl rfl rfl rfl rfl rfl ?_; refine kB ?_
  refine JB (T := QE q 6 (JU 3 1 (JU 3 1 (JU 3 1 p)))) (Rl := R) (P') O O O X8 (V9 (ok1 := True) (OK := (JK y3.er).2 = 0) (Jd (Jd (Jd hs))) mf Jc3 (xR (Yp y3)) (fun _ h => h) (fun h => h)) oR (fun hk3 _ => ?_) (fun v hv => by (repeat (first | refine J6 ?_ | refine Jz ?_)); exact JF O (hv.mono fun h => h.dest)); refine gl ?_
  refine JB (T := QE q 5 (JU 3 1 (JU 3 1 (JU 3 1 (JU 3 1 p))))) (Rl := R) (O') O O O VN (Q1 (OK := (Jn y4.er).2 = 0) (Jd (Jd (Jd (Jd hs)))) mf Vw (Kx y4) (fun h => h) (fun h => h)) oR (fun hk4 _ => ?_) (fun v hv => by (repeat (first | refine J6 ?_ | refine Jz ?_)); exact JF O (hv.mono fun h => h.value)); refine gl ?_
  refine JB (T := QE q 4 (JU 3 1 (JU 3 1 (JU 3 1 (JU 3 1 (JU 3 1 p)))))) (Rl := R) (O') O O O X8 (V9 (ok1 := True) (OK := (Js y5.er 0 (4096 : Nat)).2 = 0) (Jd (Jd (Jd (Jd (Jd hs))))) mf Jc4 (xR (Yu y5)) (fun _ h => h) (fun h => h)) oR (fun hk5 _ => ?_) (fun v hv => by (repeat (first | refine J6 ?_ | refine Jz ?_)); exact JF O (hv.mono fun h => h.data))
  refine MP ?_; refine Jm (k := 1) (cs' := List.toArray (({ tx0L with nonce := (Jf y0.er).1, price := (Jn y1.er).1, gas := (Jf y2.er).1, dest := (JK y3.er).1 } : TxL)).cells) rfl rfl rfl rfl rfl rfl rfl rfl m4 rfl ?_
  refine MP ?_; refine J2 (k := 1) (n := 4) (cs' := List.toArray (({ tx0L with nonce := (Jf y0.er).1, price := (Jn y1.er).1, gas := (Jf y2.er).1, dest := (JK y3.er).1, value := (Jn y4.er).1 } : TxL)).cells) (vs := #[_, _, _, _]) rfl rfl rfl rfl rfl rfl rfl m8 m4 rfl ?_
  refine MP ?_; refine Jm (k := 1) (cs' := List.toArray (({ tx0L with nonce := (Jf y0.er).1, price := (Jn y1.er).1, gas := (Jf y2.er).1, dest := (JK y3.er).1, value := (Jn y4.er).1, data := (Js y5.er 0 (4096 : Nat)).1 } : TxL)).cells) rfl rfl rfl rfl rfl rfl rfl rfl m4 rfl (kB ?_)
  refine JB (T := QE q 3 (JU 3 1 (JU 3 1 (JU 3 1 (JU 3 1 (JU 3 1 (JU 3 1 p))))))) (Rl := R) (O') O O O Wt (QI (ok1 := True) (OK := (Jf y6.er).2 = 0) (Jd (Jd (Jd (Jd (Jd (Jd hs)))))) mf XQ (xR (Kz y6)) (fun _ h => h) (fun h => h)) oR (fun hk6 _ => ?_) (fun v hv => by (repeat (first | refine J6 ?_ | refine Jz ?_)); exact JF O (hv.mono fun h => h.n)); refine gp ?_
  refine JB (T := QE q 2 (JU 3 1 (JU 3 1 (JU 3 1 (JU 3 1 (JU 3 1 (JU 3 1 (JU 3 1 p)))))))) (Rl := R) (O') O O O VN (Q1 (OK := (Jn y7.er).2 = 0) (Jd (Jd (Jd (Jd (Jd (Jd (Jd hs))))))) mf Vw (Kx y7) (fun h => h) (fun h => h)) oR (fun hk7 _ => ?_) (fun v hv => by (repeat (first | refine J6 ?_ | refine Jz ?_)); exact JF O (hv.mono fun h => h.r)); refine gl ?_
  refine JB (T := QE q 1 (JU 3 1 (JU 3 1 (JU 3 1 (JU 3 1 (JU 3 1 (JU 3 1 (JU 3 1 (JU 3 1 p))))))))) (Rl := R) (O') O O O VN (Q1 (OK := (Jn y8.er).2 = 0) (Jd (Jd (Jd (Jd (Jd (Jd (Jd (Jd hs)))))))) mf Vw (Kx y8) (fun h => h) (fun h => h)) oR (fun hk8 _ => ?_) (fun v hv => by (repeat (first | refine J6 ?_ | refine Jz ?_)); exact JF O (hv.mono fun h => h.s))
  refine MP ?_; refine J2 (k := 1) (n := 4) (cs' := List.toArray (({ tx0L with nonce := (Jf y0.er).1, price := (Jn y1.er).1, gas := (Jf y2.er).1, dest := (JK y3.er).1, value := (Jn y4.er).1, data := (Js y5.er 0 (4096 : Nat)).1, r := (Jn y7.er).1 } : TxL)).cells) (vs := #[_, _, _, _]) rfl rfl rfl rfl rfl rfl rfl m8 m4 rfl ?_
  refine MP ?_; refine J2 (k := 1) (n := 4) (cs' := List.toArray (({ tx0L with nonce := (Jf y0.er).1, price := (Jn y1.er).1, gas := (Jf y2.er).1, dest := (JK y3.er).1, value := (Jn y4.er).1, data := (Js y5.er 0 (4096 : Nat)).1, r := (Jn y7.er).1, s := (Jn y8.er).1 } : TxL)).cells) (vs := #[_, _, _, _]) rfl rfl rfl rfl rfl rfl rfl m8 m4 rfl (J5 9 rfl ?_)
  refine J8 33 O (fun gb => ?_) (fun gb => ?_) <;> (try simp only [ZZ] at gb) <;> first | (refine JI O ?_) | (refine LK O ?_)
  all_goals refine MQ ?_
  all_goals (
   refine kW ?_; refine Jl O (fun g => ?_) (fun g => ?_)
   try simp only [ZZ] at g
   refine gz ?_; refine Ql m3 m3 (J4 (show _ = uV ((Jf y6.er).1 - 27) from congrArg (Value.int .u64) m3) ?_)
   refine MP ?_; refine Jm (k := 1) (cs' := List.toArray (({ tx0L with nonce := (Jf y0.er).1, price := (Jn y1.er).1, gas := (Jf y2.er).1, dest := (JK y3.er).1, value := (Jn y4.er).1, data := (Js y5.er 0 (4096 : Nat)).1, r := (Jn y7.er).1, s := (Jn y8.er).1, y := (Jf y6.er).1 - 27 } : TxL)).cells) rfl rfl rfl rfl rfl rfl rfl rfl m4 rfl (N9 ?_)
   refine GN ?_
   by_cases hc0 : (Jf y6.er).1 = 27 ∨ (Jf y6.er).1 = 28
   first
   | (exfalso; omega)
   | (refine Jh O O (.cons (Jj (vs := ({ tx0L with nonce := (Jf y0.er).1, price := (Jn y1.er).1, gas := (Jf y2.er).1, dest := (JK y3.er).1, value := (Jn y4.er).1, data := (Js y5.er 0 (4096 : Nat)).1, r := (Jn y7.er).1, s := (Jn y8.er).1, y := (Jf y6.er).1 - 27 } : TxL).cells) rfl (kn 2 rfl) rfl rfl) .nil) (fun w1 hs1 => ?_)
      exact .inl ⟨⟨hk0, hk1, hk2, hk3, hk4, hk5, hk6, hk7, hk8, by show ((Jf y6.er).1 = 27 ∨ (Jf y6.er).1 = 28) ∨ (37 ≤ (Jf y6.er).1 ∧ (Jf y6.er).1 ≤ 9223372036854775844); omega⟩, ⟨({ tx0L with nonce := (Jf y0.er).1, price := (Jn y1.er).1, gas := (Jf y2.er).1, dest := (JK y3.er).1, value := (Jn y4.er).1, data := (Js y5.er 0 (4096 : Nat)).1, r := (Jn y7.er).1, s := (Jn y8.er).1, y := (Jf y6.er).1 - 27 } : TxL), [], ⟨(Ji9 y0 y1 y2 y3 y4 y5 y6 y7 y8 hc0).symm ▸ Ja8 (List.map ItL.er [y0, y1, y2, y3, y4, y5, y6, y7, y8]), Lb' (WP y3.er) m7, Lb' (VG y5.er) m7, Z', Z', Z', Seg.nil, (fun _ h => nomatch h), Z', Seg.nil, (fun _ h => nomatch h)⟩, Ji9 y0 y1 y2 y3 y4 y5 y6 y7 y8 hc0⟩, rfl, hs1.weakL (S')⟩)
   first
   | (exfalso; omega)
   | (refine Jh O O (.cons (Jj (vs := ({ tx0L with nonce := (Jf y0.er).1, price := (Jn y1.er).1, gas := (Jf y2.er).1, dest := (JK y3.er).1, value := (Jn y4.er).1, data := (Js y5.er 0 (4096 : Nat)).1, r := (Jn y7.er).1, s := (Jn y8.er).1, chain := ((Jf y6.er).1 - 35) / 2, y := ((Jf y6.er).1 - 35) % 2 } : TxL).cells) rfl (kn 2 rfl) rfl rfl) .nil) (fun w1 hs1 => ?_)
      exact .inl ⟨⟨hk0, hk1, hk2, hk3, hk4, hk5, hk6, hk7, hk8, by show ((Jf y6.er).1 = 27 ∨ (Jf y6.er).1 = 28) ∨ (37 ≤ (Jf y6.er).1 ∧ (Jf y6.er).1 ≤ 9223372036854775844); omega⟩, ⟨({ tx0L with nonce := (Jf y0.er).1, price := (Jn y1.er).1, gas := (Jf y2.er).1, dest := (JK y3.er).1, value := (Jn y4.er).1, data := (Js y5.er 0 (4096 : Nat)).1, r := (Jn y7.er).1, s := (Jn y8.er).1, chain := ((Jf y6.er).1 - 35) / 2, y := ((Jf y6.er).1 - 35) % 2 } : TxL), [], ⟨(Jja y0 y1 y2 y3 y4 y5 y6 y7 y8 hc0).symm ▸ Ja8 (List.map ItL.er [y0, y1, y2, y3, y4, y5, y6, y7, y8]), Lb' (WP y3.er) m7, Lb' (VG y5.er) m7, Z', Z', Z', Seg.nil, (fun _ h => nomatch h), Z', Seg.nil, (fun _ h => nomatch h)⟩, Jja y0 y1 y2 y3 y4 y5 y6 y7 y8 hc0⟩, rfl, hs1.weakL (S')⟩)
   · try exact Bool.noConfusion g
     all_goals try simp only [ZZ] at g
     all_goals (
      refine gx ?_
      refine J8 43 O (fun gb => ?_) (fun gb => ?_) <;> (try simp only [ZZ] at gb) <;> first | (refine JI O ?_) | (refine LK O ?_)
      all_goals refine MQ ?_
      all_goals (
       refine kW ?_; refine Jl O (fun g => ?_) (fun g => ?_)
       · try exact Bool.noConfusion g
         all_goals try simp only [ZZ] at g
         all_goals (
          refine gz ?_; refine Ql m3 m3 (J4 M3 (KC O (J4 (show _ = uV (((Jf y6.er).1 - 35) / 2) from congrArg (Value.int .u64) (J2t _ m3)) (J5 2 rfl ?_)))); refine Ql m3 m3 (J4 M3 (KC O (J4 (show _ = uV (((Jf y6.er).1 - 35) % 2) from congrArg (Value.int .u64) (J2u _)) ?_)))
          refine MP ?_; refine Jm (k := 1) (cs' := List.toArray (({ tx0L with nonce := (Jf y0.er).1, price := (Jn y1.er).1, gas := (Jf y2.er).1, dest := (JK y3.er).1, value := (Jn y4.er).1, data := (Js y5.er 0 (4096 : Nat)).1, r := (Jn y7.er).1, s := (Jn y8.er).1, chain := ((Jf y6.er).1 - 35) / 2 } : TxL)).cells) rfl rfl rfl rfl rfl rfl rfl rfl m4 rfl ?_
          refine MP ?_; refine Jm (k := 1) (cs' := List.toArray (({ tx0L with nonce := (Jf y0.er).1, price := (Jn y1.er).1, gas := (Jf y2.er).1, dest := (JK y3.er).1, value := (Jn y4.er).1, data := (Js y5.er 0 (4096 : Nat)).1, r := (Jn y7.er).1, s := (Jn y8.er).1, chain := ((Jf y6.er).1 - 35) / 2, y := ((Jf y6.er).1 - 35) % 2 } : TxL)).cells) rfl rfl rfl rfl rfl rfl rfl rfl m4 rfl (N9 ?_)
          refine GN ?_
          by_cases hc0 : (Jf y6.er).1 = 27 ∨ (Jf y6.er).1 = 28
          first
          | (exfalso; omega)
          | (refine Jh O O (.cons (Jj (vs := ({ tx0L with nonce := (Jf y0.er).1, price := (Jn y1.er).1, gas := (Jf y2.er).1, dest := (JK y3.er).1, value := (Jn y4.er).1, data := (Js y5.er 0 (4096 : Nat)).1, r := (Jn y7.er).1, s := (Jn y8.er).1, y := (Jf y6.er).1 - 27 } : TxL).cells) rfl (kn 2 rfl) rfl rfl) .nil) (fun w1 hs1 => ?_)
             exact .inl ⟨⟨hk0, hk1, hk2, hk3, hk4, hk5, hk6, hk7, hk8, by show ((Jf y6.er).1 = 27 ∨ (Jf y6.er).1 = 28) ∨ (37 ≤ (Jf y6.er).1 ∧ (Jf y6.er).1 ≤ 9223372036854775844); omega⟩, ⟨({ tx0L with nonce := (Jf y0.er).1, price := (Jn y1.er).1, gas := (Jf y2.er).1, dest := (JK y3.er).1, value := (Jn y4.er).1, data := (Js y5.er 0 (4096 : Nat)).1, r := (Jn y7.er).1, s := (Jn y8.er).1, y := (Jf y6.er).1 - 27 } : TxL), [], ⟨(Ji9 y0 y1 y2 y3 y4 y5 y6 y7 y8 hc0).symm ▸ Ja8 (List.map ItL.er [y0, y1, y2, y3, y4, y5, y6, y7, y8]), Lb' (WP y3.er) m7, Lb' (VG y5.er) m7, Z', Z', Z', Seg.nil, (fun _ h => nomatch h), Z', Seg.nil, (fun _ h => nomatch h)⟩, Ji9 y0 y1 y2 y3 y4 y5 y6 y7 y8 hc0⟩, rfl, hs1.weakL (S')⟩)
          first
          | (exfalso; omega)
          | (refine Jh O O (.cons (Jj (vs := ({ tx0L with nonce := (Jf y0.er).1, price := (Jn y1.er).1, gas := (Jf y2.er).1, dest := (JK y3.er).1, value := (Jn y4.er).1, data := (Js y5.er 0 (4096 : Nat)).1, r := (Jn y7.er).1, s := (Jn y8.er).1, chain := ((Jf y6.er).1 - 35) / 2, y := ((Jf y6.er).1 - 35) % 2 } : TxL).cells) rfl (kn 2 rfl) rfl rfl) .nil) (fun w1 hs1 => ?_)
             exact .inl ⟨⟨hk0, hk1, hk2, hk3, hk4, hk5, hk6, hk7, hk8, by show ((Jf y6.er).1 = 27 ∨ (Jf y6.er).1 = 28) ∨ (37 ≤ (Jf y6.er).1 ∧ (Jf y6.er).1 ≤ 9223372036854775844); omega⟩, ⟨({ tx0L with nonce := (Jf y0.er).1, price := (Jn y1.er).1, gas := (Jf y2.er).1, dest := (JK y3.er).1, value := (Jn y4.er).1, data := (Js y5.er 0 (4096 : Nat)).1, r := (Jn y7.er).1, s := (Jn y8.er).1, chain := ((Jf y6.er).1 - 35) / 2, y := ((Jf y6.er).1 - 35) % 2 } : TxL), [], ⟨(Jja y0 y1 y2 y3 y4 y5 y6 y7 y8 hc0).symm ▸ Ja8 (List.map ItL.er [y0, y1, y2, y3, y4, y5, y6, y7, y8]), Lb' (WP y3.er) m7, Lb' (VG y5.er) m7, Z', Z', Z', Seg.nil, (fun _ h => nomatch h), Z', Seg.nil, (fun _ h => nomatch h)⟩, Jja y0 y1 y2 y3 y4 y5 y6 y7 y8 hc0⟩, rfl, hs1.weakL (S')⟩)
          skip)
       · try simp only [ZZ] at g
         refine HI ?_
         refine KD O O O ZJ (VR 2) oN (fun h => absurd h m7) (fun v hv => by (repeat (first | refine J6 ?_ | refine Jz ?_)); exact JF O ⟨fun h => by have h2 : ((Jf y6.er).1 = 27 ∨ (Jf y6.er).1 = 28) ∨ (37 ≤ (Jf y6.er).1 ∧ (Jf y6.er).1 ≤ 9223372036854775844) := h.v; omega, _, hv⟩)
       skip)
      skip)
   skip)
theorem Jp5 {n : Nat} {a : AuE} (h : a ∈ We n it) : ∃ x, a = auE x := by
 unfold We at h
 split at h
 ·obtain ⟨x, _, rfl⟩ := List.mem_map.1 h; exact ⟨x, rfl⟩
 ·cases h
theorem Jy0 (n : Nat) (it : It) : ∀ a ∈ We n it, a.ok := fun a h => by
 obtain ⟨x, rfl⟩ := Jp5 h
 exact ⟨Vd _, Vd _, Vd _, Qz _, Qz _⟩
theorem Jut {n : Nat} {a : AuE} (h : a ∈ We n it) : a.addr.length ≤ 20 := by
 obtain ⟨x, rfl⟩ := Jp5 h
 exact Ja4 20 _
theorem Juu (A : List α) (a b c d e f : α) (Z : List α) : (A ++ (a :: b :: c :: d :: e :: f :: Z)).Perm (a :: b :: c :: d :: e :: f :: (Z ++ A)) := B' (l₁ := A) (l₂ := a :: b :: c :: d :: e :: f :: Z)
def Jp6 (g : List It) : TxE := { tx0 with kind := 1, chain := (Jf (g.getD 0 KE)).1, nonce := (Jf (g.getD 1 KE)).1, price := (Jn (g.getD 2 KE)).1, gas := (Jf (g.getD 3 KE)).1, dest := (JK (g.getD 4 KE)).1, value := (Jn (g.getD 5 KE)).1, data := (Js (g.getD 6 KE) 0 (4096 : Nat)).1, access := (vi 16 (g.getD 7 KE)), y := (Jf (g.getD 8 KE)).1, r := (Jn (g.getD 9 KE)).1, s := (Jn (g.getD 10 KE)).1 }
def Jp7 (g : List It) : TxE := { tx0 with kind := 2, chain := (Jf (g.getD 0 KE)).1, nonce := (Jf (g.getD 1 KE)).1, tip := (Jn (g.getD 2 KE)).1, price := (Jn (g.getD 3 KE)).1, gas := (Jf (g.getD 4 KE)).1, dest := (JK (g.getD 5 KE)).1, value := (Jn (g.getD 6 KE)).1, data := (Js (g.getD 7 KE) 0 (4096 : Nat)).1, access := (vi 16 (g.getD 8 KE)), y := (Jf (g.getD 9 KE)).1, r := (Jn (g.getD 10 KE)).1, s := (Jn (g.getD 11 KE)).1 }
def Jp8 (g : List It) : TxE := { tx0 with kind := 4, chain := (Jf (g.getD 0 KE)).1, nonce := (Jf (g.getD 1 KE)).1, tip := (Jn (g.getD 2 KE)).1, price := (Jn (g.getD 3 KE)).1, gas := (Jf (g.getD 4 KE)).1, dest := (JK (g.getD 5 KE)).1, value := (Jn (g.getD 6 KE)).1, data := (Js (g.getD 7 KE) 0 (4096 : Nat)).1, access := (vi 16 (g.getD 8 KE)), auths := (We 8 (g.getD 9 KE)), y := (Jf (g.getD 10 KE)).1, r := (Jn (g.getD 11 KE)).1, s := (Jn (g.getD 12 KE)).1 }
structure TypOk1 (g : List It) : Prop where
  chain : (Jf (g.getD 0 KE)).2 = 0
  nonce : (Jf (g.getD 1 KE)).2 = 0
  price : (Jn (g.getD 2 KE)).2 = 0
  gas : (Jf (g.getD 3 KE)).2 = 0
  dest : (JK (g.getD 4 KE)).2 = 0
  value : (Jn (g.getD 5 KE)).2 = 0
  data : (Js (g.getD 6 KE) 0 (4096 : Nat)).2 = 0
  access : ya 16 (g.getD 7 KE)
  y : (Jf (g.getD 8 KE)).2 = 0
  r : (Jn (g.getD 9 KE)).2 = 0
  s : (Jn (g.getD 10 KE)).2 = 0
structure TypOk2 (g : List It) : Prop where
  chain : (Jf (g.getD 0 KE)).2 = 0
  nonce : (Jf (g.getD 1 KE)).2 = 0
  tip : (Jn (g.getD 2 KE)).2 = 0
  price : (Jn (g.getD 3 KE)).2 = 0
  gas : (Jf (g.getD 4 KE)).2 = 0
  dest : (JK (g.getD 5 KE)).2 = 0
  value : (Jn (g.getD 6 KE)).2 = 0
  data : (Js (g.getD 7 KE) 0 (4096 : Nat)).2 = 0
  access : ya 16 (g.getD 8 KE)
  y : (Jf (g.getD 9 KE)).2 = 0
  r : (Jn (g.getD 10 KE)).2 = 0
  s : (Jn (g.getD 11 KE)).2 = 0
structure TypOk4 (g : List It) : Prop where
  chain : (Jf (g.getD 0 KE)).2 = 0
  nonce : (Jf (g.getD 1 KE)).2 = 0
  tip : (Jn (g.getD 2 KE)).2 = 0
  price : (Jn (g.getD 3 KE)).2 = 0
  gas : (Jf (g.getD 4 KE)).2 = 0
  dest : (JK (g.getD 5 KE)).2 = 0
  value : (Jn (g.getD 6 KE)).2 = 0
  data : (Js (g.getD 7 KE) 0 (4096 : Nat)).2 = 0
  access : ya 16 (g.getD 8 KE)
  auths : Jp1 8 (g.getD 9 KE)
  y : (Jf (g.getD 10 KE)).2 = 0
  r : (Jn (g.getD 11 KE)).2 = 0
  s : (Jn (g.getD 12 KE)).2 = 0
theorem Juv (g : List It) : (Jp6 g).ok := ⟨Vd _, Vd _, w40_ok, Qz _, Vd _, Qz _, (fun _ h => nomatch h), Vd _, Qz _, Qz _, w40_ok⟩
theorem Juw (g : List It) : (Jp7 g).ok := ⟨Vd _, Vd _, Qz _, Qz _, Vd _, Qz _, (fun _ h => nomatch h), Vd _, Qz _, Qz _, w40_ok⟩
theorem Jux (g : List It) : (Jp8 g).ok := ⟨Vd _, Vd _, Qz _, Qz _, Vd _, Qz _, Jy0 _ _, Vd _, Qz _, Qz _, w40_ok⟩
theorem Jp9 {p : Pl} (hlen : ys.length = 11) (hs : Seg R ys.length (Kq ys) p) (hin : ∀ y ∈ ys, y.In R) :
  PureXT (α := TxN (Jp6 (ys.map ItL.er))) prog 55 [Kj q, .int .i64 1].toArray (TypOk1 (ys.map ItL.er)) (badW (TypOk1 (ys.map ItL.er))) (fun z => z.x.val) (QE q ys.length p) (fun z => z.L) R := by
 obtain ⟨y0, y1, y2, y3, y4, y5, y6, y7, y8, y9, y10, rfl⟩ := Jgn hlen
 change PureXT _ _ _ _ _ _ (QE q 11 p) _ _; refine Ef fun w r4 => ?_
 refine JB (T := QE q 11 p) (Rl := R) (P') O O O Wt (QI (ok1 := True) (OK := (Jf y0.er).2 = 0) hs mf XQ (xR (Kz y0)) (fun _ h => h) (fun h => h)) oR (fun hk0 _ => ?_) (fun v hv => by (repeat (first | refine J6 ?_ | refine Jz ?_)); exact JF O (hv.mono fun h => h.chain)); refine gl ?_
 refine JB (T := QE q 10 (JU 3 1 p)) (Rl := R) (O') O O O Wt (QI (ok1 := True) (OK := (Jf y1.er).2 = 0) (Jd hs) mf XQ (xR (Kz y1)) (fun _ h => h) (fun h => h)) oR (fun hk1 _ => ?_) (fun v hv => by (repeat (first | refine J6 ?_ | refine Jz ?_)); exact JF O (hv.mono fun h => h.nonce)); refine kM fun r5 => ?_; refine Jl O (fun h5 => ?_) (fun h5 => ?_)
 exact HK
 ·try simp only [ZZ] at h5
  refine gx ?_
  refine JB (T := QE q 9 (JU 3 1 (JU 3 1 p))) (Rl := R) (P') O O O VN (Q1 (OK := (Jn y2.er).2 = 0) (Jd (Jd hs)) mf Vw (Kx y2) (fun h => h) (fun h => h)) oR (fun hk2 _ => ?_) (fun v hv => by (repeat (first | refine J6 ?_ | refine Jz ?_)); exact JF O (hv.mono fun h => h.price)); refine gl ?_
  refine JB (T := QE q 8 (JU 3 1 (JU 3 1 (JU 3 1 p)))) (Rl := R) (O') O O O Wt (QI (ok1 := True) (OK := (Jf y3.er).2 = 0) (Jd (Jd (Jd hs))) mf XQ (xR (Kz y3)) (fun _ h => h) (fun h => h)) oR (fun hk3 _ => ?_) (fun v hv => by (repeat (first | refine J6 ?_ | refine Jz ?_)); exact JF O (hv.mono fun h => h.gas)); refine gl ?_
  refine JB (T := QE q 7 (JU 3 1 (JU 3 1 (JU 3 1 (JU 3 1 p))))) (Rl := R) (O') O O O X8 (V9 (ok1 := True) (OK := (JK y4.er).2 = 0) (Jd (Jd (Jd (Jd hs)))) mf Jc3 (xR (Yp y4)) (fun _ h => h) (fun h => h)) oR (fun hk4 _ => ?_) (fun v hv => by (repeat (first | refine J6 ?_ | refine Jz ?_)); exact JF O (hv.mono fun h => h.dest))
  refine MP ?_; refine J2 (k := 1) (n := 4) (cs' := List.toArray (({ tx0L with chain := (Jf y0.er).1, nonce := (Jf y1.er).1, price := (Jn y2.er).1 } : TxL)).cells) (vs := #[_, _, _, _]) rfl rfl rfl rfl rfl rfl rfl m8 m4 rfl ?_
  refine MP ?_; refine Jm (k := 1) (cs' := List.toArray (({ tx0L with chain := (Jf y0.er).1, nonce := (Jf y1.er).1, price := (Jn y2.er).1, gas := (Jf y3.er).1 } : TxL)).cells) rfl rfl rfl rfl rfl rfl rfl rfl m4 rfl ?_
  refine MP ?_; refine Jm (k := 1) (cs' := List.toArray (({ tx0L with chain := (Jf y0.er).1, nonce := (Jf y1.er).1, price := (Jn y2.er).1, gas := (Jf y3.er).1, dest := (JK y4.er).1 } : TxL)).cells) rfl rfl rfl rfl rfl rfl rfl rfl m4 rfl (kB ?_)
  refine JB (T := QE q 6 (JU 3 1 (JU 3 1 (JU 3 1 (JU 3 1 (JU 3 1 p)))))) (Rl := R) (O') O O O VN (Q1 (OK := (Jn y5.er).2 = 0) (Jd (Jd (Jd (Jd (Jd hs))))) mf Vw (Kx y5) (fun h => h) (fun h => h)) oR (fun hk5 _ => ?_) (fun v hv => by (repeat (first | refine J6 ?_ | refine Jz ?_)); exact JF O (hv.mono fun h => h.value)); refine gl ?_
  refine JB (T := QE q 5 (JU 3 1 (JU 3 1 (JU 3 1 (JU 3 1 (JU 3 1 (JU 3 1 p))))))) (Rl := R) (O') O O O X8 (V9 (ok1 := True) (OK := (Js y6.er 0 (4096 : Nat)).2 = 0) (Jd (Jd (Jd (Jd (Jd (Jd hs)))))) mf Jc4 (xR (Yu y6)) (fun _ h => h) (fun h => h)) oR (fun hk6 _ => ?_) (fun v hv => by (repeat (first | refine J6 ?_ | refine Jz ?_)); exact JF O (hv.mono fun h => h.data))
  refine MP ?_; refine J2 (k := 1) (n := 4) (cs' := List.toArray (({ tx0L with chain := (Jf y0.er).1, nonce := (Jf y1.er).1, price := (Jn y2.er).1, gas := (Jf y3.er).1, dest := (JK y4.er).1, value := (Jn y5.er).1 } : TxL)).cells) (vs := #[_, _, _, _]) rfl rfl rfl rfl rfl rfl rfl m8 m4 rfl ?_
  refine MP ?_; refine Jm (k := 1) (cs' := List.toArray (({ tx0L with chain := (Jf y0.er).1, nonce := (Jf y1.er).1, price := (Jn y2.er).1, gas := (Jf y3.er).1, dest := (JK y4.er).1, value := (Jn y5.er).1, data := (Js y6.er 0 (4096 : Nat)).1 } : TxL)).cells) rfl rfl rfl rfl rfl rfl rfl rfl m4 rfl (kB ?_); refine KG O O O Jnm (Jas 16 129) fun zz => ?_
  have hg2 := yc (R := yB zz.2 222 129 :: YR zz.1 16 :: R) (n := 16) ((hin y7 mf).mono fun q hq => M' (M' hq)) m7 (M' N') N'
  refine JB (T := QE q 4 (JU 3 1 (JU 3 1 (JU 3 1 (JU 3 1 (JU 3 1 (JU 3 1 (JU 3 1 p)))))))) (L0 := [yB zz.2 222 129, YR zz.1 16, (r5, _), (r4, _)]) (Rl := yB zz.2 222 129 :: YR zz.1 16 :: R) (V3 _ _ _ _) O O O Jnl (Ja3 (V := fun (z : AxsN (vi 16 y7.er)) => JV z.ys.length z.row) (OK := ya 16 y7.er) ((Jd (Jd (Jd (Jd (Jd (Jd (Jd hs))))))).mono fun q hq => M' (M' hq)) mf Jnt hg2 (fun h1 h2 => ⟨h2, h1 h2⟩) (fun h h2 => h h2.1)) (fun q hq => (F'.1 hq).elim (fun h => Or.inl (h ▸ N')) fun hq => (F'.1 hq).elim (fun h => Or.inl (h ▸ M' N')) Or.inr) (fun hk7 z => ?_) (fun v hv => by (repeat (first | refine J6 ?_ | refine Jz ?_)); exact JF O (hv.mono fun h => h.access)); refine J4 M4 ?_; refine JY ((B' (l₁ := z.L)).cons _) ?_; change HL _ _ _ (_ :: _ :: _ :: (r5, _) :: (r4, _) :: z.L) _ _ _ _
  refine MP ?_; refine Jm (k := 3) (cs' := List.toArray (({ tx0L with chain := (Jf y0.er).1, nonce := (Jf y1.er).1, price := (Jn y2.er).1, gas := (Jf y3.er).1, dest := (JK y4.er).1, value := (Jn y5.er).1, data := (Js y6.er 0 (4096 : Nat)).1, accP := Ke z.row, acc := z.ys } : TxL)).cells) rfl rfl rfl rfl rfl rfl rfl rfl m4 rfl (JP 9 rfl (Jl rfl (fun h11 => ?_) (fun h11 => ?_)))
  exact absurd h11 (m7)
  ·try simp only [ZZ] at h11
   refine gx ?_
   refine JB (T := QE q 3 (JU 3 1 (JU 3 1 (JU 3 1 (JU 3 1 (JU 3 1 (JU 3 1 (JU 3 1 (JU 3 1 p))))))))) (Rl := R) (O') O O O Wt (QI (ok1 := True) (OK := (Jf y8.er).2 = 0) (Jd (Jd (Jd (Jd (Jd (Jd (Jd (Jd hs)))))))) mf XQ (xR (Kz y8)) (fun _ h => h) (fun h => h)) oR (fun hk8 _ => ?_) (fun v hv => by (repeat (first | refine J6 ?_ | refine Jz ?_)); exact JF O (hv.mono fun h => h.y)); refine gl ?_
   refine JB (T := QE q 2 (JU 3 1 (JU 3 1 (JU 3 1 (JU 3 1 (JU 3 1 (JU 3 1 (JU 3 1 (JU 3 1 (JU 3 1 p)))))))))) (Rl := R) (O') O O O VN (Q1 (OK := (Jn y9.er).2 = 0) (Jd (Jd (Jd (Jd (Jd (Jd (Jd (Jd (Jd hs))))))))) mf Vw (Kx y9) (fun h => h) (fun h => h)) oR (fun hk9 _ => ?_) (fun v hv => by (repeat (first | refine J6 ?_ | refine Jz ?_)); exact JF O (hv.mono fun h => h.r)); refine gl ?_
   refine JB (T := QE q 1 (JU 3 1 (JU 3 1 (JU 3 1 (JU 3 1 (JU 3 1 (JU 3 1 (JU 3 1 (JU 3 1 (JU 3 1 (JU 3 1 p))))))))))) (Rl := R) (O') O O O VN (Q1 (OK := (Jn y10.er).2 = 0) (Jd (Jd (Jd (Jd (Jd (Jd (Jd (Jd (Jd (Jd hs)))))))))) mf Vw (Kx y10) (fun h => h) (fun h => h)) oR (fun hk10 _ => ?_) (fun v hv => by (repeat (first | refine J6 ?_ | refine Jz ?_)); exact JF O (hv.mono fun h => h.s))
   refine MP ?_; refine Jm (k := 3) (cs' := List.toArray (({ tx0L with chain := (Jf y0.er).1, nonce := (Jf y1.er).1, price := (Jn y2.er).1, gas := (Jf y3.er).1, dest := (JK y4.er).1, value := (Jn y5.er).1, data := (Js y6.er 0 (4096 : Nat)).1, accP := Ke z.row, acc := z.ys, y := (Jf y8.er).1 } : TxL)).cells) rfl rfl rfl rfl rfl rfl rfl rfl m4 rfl ?_
   refine MP ?_; refine J2 (k := 3) (n := 4) (cs' := List.toArray (({ tx0L with chain := (Jf y0.er).1, nonce := (Jf y1.er).1, price := (Jn y2.er).1, gas := (Jf y3.er).1, dest := (JK y4.er).1, value := (Jn y5.er).1, data := (Js y6.er 0 (4096 : Nat)).1, accP := Ke z.row, acc := z.ys, y := (Jf y8.er).1, r := (Jn y9.er).1 } : TxL)).cells) (vs := #[_, _, _, _]) rfl rfl rfl rfl rfl rfl rfl m8 m4 rfl ?_
   refine MP ?_; refine J2 (k := 3) (n := 4) (cs' := List.toArray (({ tx0L with chain := (Jf y0.er).1, nonce := (Jf y1.er).1, price := (Jn y2.er).1, gas := (Jf y3.er).1, dest := (JK y4.er).1, value := (Jn y5.er).1, data := (Js y6.er 0 (4096 : Nat)).1, accP := Ke z.row, acc := z.ys, y := (Jf y8.er).1, r := (Jn y9.er).1, s := (Jn y10.er).1 } : TxL)).cells) (vs := #[_, _, _, _]) rfl rfl rfl rfl rfl rfl rfl m8 m4 rfl (kV ?_); refine LR O (Ji (xs := ({ tx0L with chain := (Jf y0.er).1, nonce := (Jf y1.er).1, price := (Jn y2.er).1, gas := (Jf y3.er).1, dest := (JK y4.er).1, value := (Jn y5.er).1, data := (Js y6.er 0 (4096 : Nat)).1, accP := Ke z.row, acc := z.ys, y := (Jf y8.er).1, r := (Jn y9.er).1, s := (Jn y10.er).1 } : TxL).cells) (n := 36) rfl (kn 3 rfl) rfl rfl rfl) (Je (k := 4) (n := 36) (ys := ({ tx0L with chain := (Jf y0.er).1, nonce := (Jf y1.er).1, price := (Jn y2.er).1, gas := (Jf y3.er).1, dest := (JK y4.er).1, value := (Jn y5.er).1, data := (Js y6.er 0 (4096 : Nat)).1, accP := Ke z.row, acc := z.ys, y := (Jf y8.er).1, r := (Jn y9.er).1, s := (Jn y10.er).1 } : TxL).cells) rfl rfl rfl rfl rfl rfl rfl rfl rfl (GN ?_)); refine Jh O O (.cons (Jj (vs := ({ tx0L with chain := (Jf y0.er).1, nonce := (Jf y1.er).1, price := (Jn y2.er).1, gas := (Jf y3.er).1, dest := (JK y4.er).1, value := (Jn y5.er).1, data := (Js y6.er 0 (4096 : Nat)).1, accP := Ke z.row, acc := z.ys, y := (Jf y8.er).1, r := (Jn y9.er).1, s := (Jn y10.er).1 } : TxL).cells) rfl (kn 4 rfl) rfl rfl) .nil) (fun w1 hs1 => ?_)
   have hxl : z.ys.length ≤ 16 := by have h := congrArg List.length z.er; rw [D'] at h; have := Ja5 (n := 16) y7.er; omega
   have hE : ({ ({ tx0L with chain := (Jf y0.er).1, nonce := (Jf y1.er).1, price := (Jn y2.er).1, gas := (Jf y3.er).1, dest := (JK y4.er).1, value := (Jn y5.er).1, data := (Js y6.er 0 (4096 : Nat)).1, accP := Ke z.row, acc := z.ys, y := (Jf y8.er).1, r := (Jn y9.er).1, s := (Jn y10.er).1 } : TxL) with kind := 1 } : TxL).er = Jp6 (List.map ItL.er [y0, y1, y2, y3, y4, y5, y6, y7, y8, y9, y10]) := (congrArg (fun a => ({ Jp6 (List.map ItL.er [y0, y1, y2, y3, y4, y5, y6, y7, y8, y9, y10]) with access := a } : TxE)) z.er)
   exact .inl ⟨⟨hk0, hk1, hk2, hk3, hk4, hk5, hk6, hk7, hk8, hk9, hk10⟩, ⟨({ tx0L with chain := (Jf y0.er).1, nonce := (Jf y1.er).1, price := (Jn y2.er).1, gas := (Jf y3.er).1, dest := (JK y4.er).1, value := (Jn y5.er).1, data := (Js y6.er 0 (4096 : Nat)).1, accP := Ke z.row, acc := z.ys, y := (Jf y8.er).1, r := (Jn y9.er).1, s := (Jn y10.er).1 } : TxL), z.L, ⟨(by have h := Juv (List.map ItL.er [y0, y1, y2, y3, y4, y5, y6, y7, y8, y9, y10]); rw [← hE] at h; exact h), Lb' (WP y4.er) m7, Lb' (VG y6.er) m7, Z', Z', Lb' hxl m7, (Ks (e := 175) z.ok m7).mono z.hr, z.hx, Z', Seg.nil, (fun _ h => nomatch h)⟩, hE⟩, rfl, hs1.weakL (.cons _ (.cons _ (.cons _ (.cons _ (.cons _ ((T')))))))⟩
theorem Jqa {p : Pl} (hlen : ys.length = 12) (hs : Seg R ys.length (Kq ys) p) (hin : ∀ y ∈ ys, y.In R) :
  PureXT (α := TxN (Jp7 (ys.map ItL.er))) prog 55 [Kj q, .int .i64 2].toArray (TypOk2 (ys.map ItL.er)) (badW (TypOk2 (ys.map ItL.er))) (fun z => z.x.val) (QE q ys.length p) (fun z => z.L) R := by
 obtain ⟨y0, y1, y2, y3, y4, y5, y6, y7, y8, y9, y10, y11, rfl⟩ := Jgo hlen
 change PureXT _ _ _ _ _ _ (QE q 12 p) _ _; refine Ef fun w r4 => ?_
 refine JB (T := QE q 12 p) (Rl := R) (P') O O O Wt (QI (ok1 := True) (OK := (Jf y0.er).2 = 0) hs mf XQ (xR (Kz y0)) (fun _ h => h) (fun h => h)) oR (fun hk0 _ => ?_) (fun v hv => by (repeat (first | refine J6 ?_ | refine Jz ?_)); exact JF O (hv.mono fun h => h.chain)); refine gl ?_
 refine JB (T := QE q 11 (JU 3 1 p)) (Rl := R) (O') O O O Wt (QI (ok1 := True) (OK := (Jf y1.er).2 = 0) (Jd hs) mf XQ (xR (Kz y1)) (fun _ h => h) (fun h => h)) oR (fun hk1 _ => ?_) (fun v hv => by (repeat (first | refine J6 ?_ | refine Jz ?_)); exact JF O (hv.mono fun h => h.nonce)); refine kM fun r5 => ?_; refine Jl O (fun h5 => ?_) (fun h5 => ?_)
 ·try simp only [ZZ] at h5
  refine NG ?_
  refine JB (T := QE q 10 (JU 3 1 (JU 3 1 p))) (Rl := R) (P') O O O VN (Q1 (OK := (Jn y2.er).2 = 0) (Jd (Jd hs)) mf Vw (Kx y2) (fun h => h) (fun h => h)) oR (fun hk2 _ => ?_) (fun v hv => by (repeat (first | refine J6 ?_ | refine Jz ?_)); exact JF O (hv.mono fun h => h.tip))
  refine MP ?_; refine Fy ?_; refine kB ?_
  refine JB (T := QE q 9 (JU 3 1 (JU 3 1 (JU 3 1 p)))) (Rl := R) (O') O O O VN (Q1 (OK := (Jn y3.er).2 = 0) (Jd (Jd (Jd hs))) mf Vw (Kx y3) (fun h => h) (fun h => h)) oR (fun hk3 _ => ?_) (fun v hv => by (repeat (first | refine J6 ?_ | refine Jz ?_)); exact JF O (hv.mono fun h => h.price)); refine gl ?_
  refine JB (T := QE q 8 (JU 3 1 (JU 3 1 (JU 3 1 (JU 3 1 p))))) (Rl := R) (O') O O O Wt (QI (ok1 := True) (OK := (Jf y4.er).2 = 0) (Jd (Jd (Jd (Jd hs)))) mf XQ (xR (Kz y4)) (fun _ h => h) (fun h => h)) oR (fun hk4 _ => ?_) (fun v hv => by (repeat (first | refine J6 ?_ | refine Jz ?_)); exact JF O (hv.mono fun h => h.gas)); refine gl ?_
  refine JB (T := QE q 7 (JU 3 1 (JU 3 1 (JU 3 1 (JU 3 1 (JU 3 1 p)))))) (Rl := R) (O') O O O X8 (V9 (ok1 := True) (OK := (JK y5.er).2 = 0) (Jd (Jd (Jd (Jd (Jd hs))))) mf Jc3 (xR (Yp y5)) (fun _ h => h) (fun h => h)) oR (fun hk5 _ => ?_) (fun v hv => by (repeat (first | refine J6 ?_ | refine Jz ?_)); exact JF O (hv.mono fun h => h.dest))
  refine NS ?_
  refine JB (T := QE q 6 (JU 3 1 (JU 3 1 (JU 3 1 (JU 3 1 (JU 3 1 (JU 3 1 p))))))) (Rl := R) (O') O O O VN (Q1 (OK := (Jn y6.er).2 = 0) (Jd (Jd (Jd (Jd (Jd (Jd hs)))))) mf Vw (Kx y6) (fun h => h) (fun h => h)) oR (fun hk6 _ => ?_) (fun v hv => by (repeat (first | refine J6 ?_ | refine Jz ?_)); exact JF O (hv.mono fun h => h.value)); refine gl ?_
  refine JB (T := QE q 5 (JU 3 1 (JU 3 1 (JU 3 1 (JU 3 1 (JU 3 1 (JU 3 1 (JU 3 1 p)))))))) (Rl := R) (O') O O O X8 (V9 (ok1 := True) (OK := (Js y7.er 0 (4096 : Nat)).2 = 0) (Jd (Jd (Jd (Jd (Jd (Jd (Jd hs))))))) mf Jc4 (xR (Yu y7)) (fun _ h => h) (fun h => h)) oR (fun hk7 _ => ?_) (fun v hv => by (repeat (first | refine J6 ?_ | refine Jz ?_)); exact JF O (hv.mono fun h => h.data))
  refine kS fun zz => ?_
  have hg2 := yc (R := yB zz.2 222 129 :: YR zz.1 16 :: R) (n := 16) ((hin y8 mf).mono fun q hq => M' (M' hq)) m7 (M' N') N'
  refine JB (T := QE q 4 (JU 3 1 (JU 3 1 (JU 3 1 (JU 3 1 (JU 3 1 (JU 3 1 (JU 3 1 (JU 3 1 p))))))))) (L0 := [yB zz.2 222 129, YR zz.1 16, (r5, _), (r4, _)]) (Rl := yB zz.2 222 129 :: YR zz.1 16 :: R) (V3 _ _ _ _) O O O Jnl (Ja3 (V := fun (z : AxsN (vi 16 y8.er)) => JV z.ys.length z.row) (OK := ya 16 y8.er) ((Jd (Jd (Jd (Jd (Jd (Jd (Jd (Jd hs)))))))).mono fun q hq => M' (M' hq)) mf Jnt hg2 (fun h1 h2 => ⟨h2, h1 h2⟩) (fun h h2 => h h2.1)) (fun q hq => (F'.1 hq).elim (fun h => Or.inl (h ▸ N')) fun hq => (F'.1 hq).elim (fun h => Or.inl (h ▸ M' N')) Or.inr) (fun hk8 z => ?_) (fun v hv => by (repeat (first | refine J6 ?_ | refine Jz ?_)); exact JF O (hv.mono fun h => h.access)); refine gE ?_; refine Jl O (fun h11 => ?_) (fun h11 => ?_)
  exact absurd h11 (m7)
  ·try simp only [ZZ] at h11
   refine gx ?_
   refine JB (T := QE q 3 (JU 3 1 (JU 3 1 (JU 3 1 (JU 3 1 (JU 3 1 (JU 3 1 (JU 3 1 (JU 3 1 (JU 3 1 p)))))))))) (Rl := R) (O') O O O Wt (QI (ok1 := True) (OK := (Jf y9.er).2 = 0) (Jd (Jd (Jd (Jd (Jd (Jd (Jd (Jd (Jd hs))))))))) mf XQ (xR (Kz y9)) (fun _ h => h) (fun h => h)) oR (fun hk9 _ => ?_) (fun v hv => by (repeat (first | refine J6 ?_ | refine Jz ?_)); exact JF O (hv.mono fun h => h.y)); refine gl ?_
   refine JB (T := QE q 2 (JU 3 1 (JU 3 1 (JU 3 1 (JU 3 1 (JU 3 1 (JU 3 1 (JU 3 1 (JU 3 1 (JU 3 1 (JU 3 1 p))))))))))) (Rl := R) (O') O O O VN (Q1 (OK := (Jn y10.er).2 = 0) (Jd (Jd (Jd (Jd (Jd (Jd (Jd (Jd (Jd (Jd hs)))))))))) mf Vw (Kx y10) (fun h => h) (fun h => h)) oR (fun hk10 _ => ?_) (fun v hv => by (repeat (first | refine J6 ?_ | refine Jz ?_)); exact JF O (hv.mono fun h => h.r)); refine gl ?_
   refine JB (T := QE q 1 (JU 3 1 (JU 3 1 (JU 3 1 (JU 3 1 (JU 3 1 (JU 3 1 (JU 3 1 (JU 3 1 (JU 3 1 (JU 3 1 (JU 3 1 p)))))))))))) (Rl := R) (O') O O O VN (Q1 (OK := (Jn y11.er).2 = 0) (Jd (Jd (Jd (Jd (Jd (Jd (Jd (Jd (Jd (Jd (Jd hs))))))))))) mf Vw (Kx y11) (fun h => h) (fun h => h)) oR (fun hk11 _ => ?_) (fun v hv => by (repeat (first | refine J6 ?_ | refine Jz ?_)); exact JF O (hv.mono fun h => h.s))
   refine MP ?_; refine Jm (k := 3) (cs' := List.toArray (({ tx0L with chain := (Jf y0.er).1, nonce := (Jf y1.er).1, tip := (Jn y2.er).1, price := (Jn y3.er).1, gas := (Jf y4.er).1, dest := (JK y5.er).1, value := (Jn y6.er).1, data := (Js y7.er 0 (4096 : Nat)).1, accP := Ke z.row, acc := z.ys, y := (Jf y9.er).1 } : TxL)).cells) rfl rfl rfl rfl rfl rfl rfl rfl m4 rfl ?_
   refine MP ?_; refine J2 (k := 3) (n := 4) (cs' := List.toArray (({ tx0L with chain := (Jf y0.er).1, nonce := (Jf y1.er).1, tip := (Jn y2.er).1, price := (Jn y3.er).1, gas := (Jf y4.er).1, dest := (JK y5.er).1, value := (Jn y6.er).1, data := (Js y7.er 0 (4096 : Nat)).1, accP := Ke z.row, acc := z.ys, y := (Jf y9.er).1, r := (Jn y10.er).1 } : TxL)).cells) (vs := #[_, _, _, _]) rfl rfl rfl rfl rfl rfl rfl m8 m4 rfl ?_
   refine MP ?_; refine J2 (k := 3) (n := 4) (cs' := List.toArray (({ tx0L with chain := (Jf y0.er).1, nonce := (Jf y1.er).1, tip := (Jn y2.er).1, price := (Jn y3.er).1, gas := (Jf y4.er).1, dest := (JK y5.er).1, value := (Jn y6.er).1, data := (Js y7.er 0 (4096 : Nat)).1, accP := Ke z.row, acc := z.ys, y := (Jf y9.er).1, r := (Jn y10.er).1, s := (Jn y11.er).1 } : TxL)).cells) (vs := #[_, _, _, _]) rfl rfl rfl rfl rfl rfl rfl m8 m4 rfl (kV ?_); refine LR O (Ji (xs := ({ tx0L with chain := (Jf y0.er).1, nonce := (Jf y1.er).1, tip := (Jn y2.er).1, price := (Jn y3.er).1, gas := (Jf y4.er).1, dest := (JK y5.er).1, value := (Jn y6.er).1, data := (Js y7.er 0 (4096 : Nat)).1, accP := Ke z.row, acc := z.ys, y := (Jf y9.er).1, r := (Jn y10.er).1, s := (Jn y11.er).1 } : TxL).cells) (n := 36) rfl (kn 3 rfl) rfl rfl rfl) (Je (k := 4) (n := 36) (ys := ({ tx0L with chain := (Jf y0.er).1, nonce := (Jf y1.er).1, tip := (Jn y2.er).1, price := (Jn y3.er).1, gas := (Jf y4.er).1, dest := (JK y5.er).1, value := (Jn y6.er).1, data := (Js y7.er 0 (4096 : Nat)).1, accP := Ke z.row, acc := z.ys, y := (Jf y9.er).1, r := (Jn y10.er).1, s := (Jn y11.er).1 } : TxL).cells) rfl rfl rfl rfl rfl rfl rfl rfl rfl (GN ?_)); refine Jh O O (.cons (Jj (vs := ({ tx0L with chain := (Jf y0.er).1, nonce := (Jf y1.er).1, tip := (Jn y2.er).1, price := (Jn y3.er).1, gas := (Jf y4.er).1, dest := (JK y5.er).1, value := (Jn y6.er).1, data := (Js y7.er 0 (4096 : Nat)).1, accP := Ke z.row, acc := z.ys, y := (Jf y9.er).1, r := (Jn y10.er).1, s := (Jn y11.er).1 } : TxL).cells) rfl (kn 4 rfl) rfl rfl) .nil) (fun w1 hs1 => ?_)
   have hxl : z.ys.length ≤ 16 := by have h := congrArg List.length z.er; rw [D'] at h; have := Ja5 (n := 16) y8.er; omega
   have hE : ({ ({ tx0L with chain := (Jf y0.er).1, nonce := (Jf y1.er).1, tip := (Jn y2.er).1, price := (Jn y3.er).1, gas := (Jf y4.er).1, dest := (JK y5.er).1, value := (Jn y6.er).1, data := (Js y7.er 0 (4096 : Nat)).1, accP := Ke z.row, acc := z.ys, y := (Jf y9.er).1, r := (Jn y10.er).1, s := (Jn y11.er).1 } : TxL) with kind := 2 } : TxL).er = Jp7 (List.map ItL.er [y0, y1, y2, y3, y4, y5, y6, y7, y8, y9, y10, y11]) := (congrArg (fun a => ({ Jp7 (List.map ItL.er [y0, y1, y2, y3, y4, y5, y6, y7, y8, y9, y10, y11]) with access := a } : TxE)) z.er)
   exact .inl ⟨⟨hk0, hk1, hk2, hk3, hk4, hk5, hk6, hk7, hk8, hk9, hk10, hk11⟩, ⟨({ tx0L with chain := (Jf y0.er).1, nonce := (Jf y1.er).1, tip := (Jn y2.er).1, price := (Jn y3.er).1, gas := (Jf y4.er).1, dest := (JK y5.er).1, value := (Jn y6.er).1, data := (Js y7.er 0 (4096 : Nat)).1, accP := Ke z.row, acc := z.ys, y := (Jf y9.er).1, r := (Jn y10.er).1, s := (Jn y11.er).1 } : TxL), z.L, ⟨(by have h := Juw (List.map ItL.er [y0, y1, y2, y3, y4, y5, y6, y7, y8, y9, y10, y11]); rw [← hE] at h; exact h), Lb' (WP y5.er) m7, Lb' (VG y7.er) m7, Z', Z', Lb' hxl m7, (Ks (e := 175) z.ok m7).mono z.hr, z.hx, Z', Seg.nil, (fun _ h => nomatch h)⟩, hE⟩, rfl, hs1.weakL (.cons _ (.cons _ (.cons _ (.cons _ (.cons _ ((T')))))))⟩
 ·exact HK
theorem Jqb {p : Pl} (hlen : ys.length = 13) (hs : Seg R ys.length (Kq ys) p) (hin : ∀ y ∈ ys, y.In R) :
  PureXT (α := TxN (Jp8 (ys.map ItL.er))) prog 55 [Kj q, .int .i64 4].toArray (TypOk4 (ys.map ItL.er)) (badW (TypOk4 (ys.map ItL.er))) (fun z => z.x.val) (QE q ys.length p) (fun z => z.L) R := by
 obtain ⟨y0, y1, y2, y3, y4, y5, y6, y7, y8, y9, y10, y11, y12, rfl⟩ := Ja7 hlen
 change PureXT _ _ _ _ _ _ (QE q 13 p) _ _; refine Ef fun w r4 => ?_
 refine JB (T := QE q 13 p) (Rl := R) (P') O O O Wt (QI (ok1 := True) (OK := (Jf y0.er).2 = 0) hs mf XQ (xR (Kz y0)) (fun _ h => h) (fun h => h)) oR (fun hk0 _ => ?_) (fun v hv => by (repeat (first | refine J6 ?_ | refine Jz ?_)); exact JF O (hv.mono fun h => h.chain)); refine gl ?_
 refine JB (T := QE q 12 (JU 3 1 p)) (Rl := R) (O') O O O Wt (QI (ok1 := True) (OK := (Jf y1.er).2 = 0) (Jd hs) mf XQ (xR (Kz y1)) (fun _ h => h) (fun h => h)) oR (fun hk1 _ => ?_) (fun v hv => by (repeat (first | refine J6 ?_ | refine Jz ?_)); exact JF O (hv.mono fun h => h.nonce)); refine kM fun r5 => ?_; refine Jl O (fun h5 => ?_) (fun h5 => ?_)
 ·try simp only [ZZ] at h5
  refine NG ?_
  refine JB (T := QE q 11 (JU 3 1 (JU 3 1 p))) (Rl := R) (P') O O O VN (Q1 (OK := (Jn y2.er).2 = 0) (Jd (Jd hs)) mf Vw (Kx y2) (fun h => h) (fun h => h)) oR (fun hk2 _ => ?_) (fun v hv => by (repeat (first | refine J6 ?_ | refine Jz ?_)); exact JF O (hv.mono fun h => h.tip))
  refine MP ?_; refine Fy ?_; refine kB ?_
  refine JB (T := QE q 10 (JU 3 1 (JU 3 1 (JU 3 1 p)))) (Rl := R) (O') O O O VN (Q1 (OK := (Jn y3.er).2 = 0) (Jd (Jd (Jd hs))) mf Vw (Kx y3) (fun h => h) (fun h => h)) oR (fun hk3 _ => ?_) (fun v hv => by (repeat (first | refine J6 ?_ | refine Jz ?_)); exact JF O (hv.mono fun h => h.price)); refine gl ?_
  refine JB (T := QE q 9 (JU 3 1 (JU 3 1 (JU 3 1 (JU 3 1 p))))) (Rl := R) (O') O O O Wt (QI (ok1 := True) (OK := (Jf y4.er).2 = 0) (Jd (Jd (Jd (Jd hs)))) mf XQ (xR (Kz y4)) (fun _ h => h) (fun h => h)) oR (fun hk4 _ => ?_) (fun v hv => by (repeat (first | refine J6 ?_ | refine Jz ?_)); exact JF O (hv.mono fun h => h.gas)); refine gl ?_
  refine JB (T := QE q 8 (JU 3 1 (JU 3 1 (JU 3 1 (JU 3 1 (JU 3 1 p)))))) (Rl := R) (O') O O O X8 (V9 (ok1 := True) (OK := (JK y5.er).2 = 0) (Jd (Jd (Jd (Jd (Jd hs))))) mf Jc3 (xR (Yp y5)) (fun _ h => h) (fun h => h)) oR (fun hk5 _ => ?_) (fun v hv => by (repeat (first | refine J6 ?_ | refine Jz ?_)); exact JF O (hv.mono fun h => h.dest))
  refine NS ?_
  refine JB (T := QE q 7 (JU 3 1 (JU 3 1 (JU 3 1 (JU 3 1 (JU 3 1 (JU 3 1 p))))))) (Rl := R) (O') O O O VN (Q1 (OK := (Jn y6.er).2 = 0) (Jd (Jd (Jd (Jd (Jd (Jd hs)))))) mf Vw (Kx y6) (fun h => h) (fun h => h)) oR (fun hk6 _ => ?_) (fun v hv => by (repeat (first | refine J6 ?_ | refine Jz ?_)); exact JF O (hv.mono fun h => h.value)); refine gl ?_
  refine JB (T := QE q 6 (JU 3 1 (JU 3 1 (JU 3 1 (JU 3 1 (JU 3 1 (JU 3 1 (JU 3 1 p)))))))) (Rl := R) (O') O O O X8 (V9 (ok1 := True) (OK := (Js y7.er 0 (4096 : Nat)).2 = 0) (Jd (Jd (Jd (Jd (Jd (Jd (Jd hs))))))) mf Jc4 (xR (Yu y7)) (fun _ h => h) (fun h => h)) oR (fun hk7 _ => ?_) (fun v hv => by (repeat (first | refine J6 ?_ | refine Jz ?_)); exact JF O (hv.mono fun h => h.data))
  refine kS fun zz => ?_
  have hg2 := yc (R := yB zz.2 222 129 :: YR zz.1 16 :: R) (n := 16) ((hin y8 mf).mono fun q hq => M' (M' hq)) m7 (M' N') N'
  refine JB (T := QE q 5 (JU 3 1 (JU 3 1 (JU 3 1 (JU 3 1 (JU 3 1 (JU 3 1 (JU 3 1 (JU 3 1 p))))))))) (L0 := [yB zz.2 222 129, YR zz.1 16, (r5, _), (r4, _)]) (Rl := yB zz.2 222 129 :: YR zz.1 16 :: R) (V3 _ _ _ _) O O O Jnl (Ja3 (V := fun (z : AxsN (vi 16 y8.er)) => JV z.ys.length z.row) (OK := ya 16 y8.er) ((Jd (Jd (Jd (Jd (Jd (Jd (Jd (Jd hs)))))))).mono fun q hq => M' (M' hq)) mf Jnt hg2 (fun h1 h2 => ⟨h2, h1 h2⟩) (fun h h2 => h h2.1)) (fun q hq => (F'.1 hq).elim (fun h => Or.inl (h ▸ N')) fun hq => (F'.1 hq).elim (fun h => Or.inl (h ▸ M' N')) Or.inr) (fun hk8 z => ?_) (fun v hv => by (repeat (first | refine J6 ?_ | refine Jz ?_)); exact JF O (hv.mono fun h => h.access)); refine gE ?_; refine Jl O (fun h11 => ?_) (fun h11 => ?_)
  ·try simp only [ZZ] at h11
   refine NG ?_; refine KG O O O (enters_of Tryz.func131 m4 O) (Jus 8 132) fun zu => ?_
   have hg3 := Jp2 (R := yB zu.2 226 132 :: YR zu.1 8 :: R) (n := 8) ((hin y9 mf).mono fun q hq => M' (M' hq)) m7 (M' N') N'
   refine JB (T := QE q 4 (JU 3 1 (JU 3 1 (JU 3 1 (JU 3 1 (JU 3 1 (JU 3 1 (JU 3 1 (JU 3 1 (JU 3 1 p)))))))))) (L0 := yB zu.2 226 132 :: YR zu.1 8 :: yB zz.2 222 129 :: YR zz.1 16 :: (r5, _) :: (r4, _) :: z.L) (Rl := yB zu.2 226 132 :: YR zu.1 8 :: R) (V3 _ _ _ _) O O O (enters_of Tryz.func130 m4 O) (Jun (V := fun (row : { row : QZ // rowOk 12 (We 8 y9.er).length (jd (We 8 y9.er)) row }) => JV (We 8 y9.er).length row.1) (OK := Jp1 8 y9.er) ((Jd (Jd (Jd (Jd (Jd (Jd (Jd (Jd (Jd hs))))))))).mono fun q hq => M' (M' hq)) mf (enters_of Tryz.func215 m4 O) hg3 (fun h1 h2 => ⟨h2, h1 h2⟩) (fun h h2 => h h2.1)) (fun q hq => (F'.1 hq).elim (fun h => Or.inl (h ▸ N')) fun hq => (F'.1 hq).elim (fun h => Or.inl (h ▸ M' N')) Or.inr) (fun hk9 row => ?_) (fun v hv => by (repeat (first | refine J6 ?_ | refine Jz ?_)); exact JF O (hv.mono fun h => h.auths)); refine J4 (show _ = Km (We 8 y9.er).length (Ke row.1) from KK row.2) ?_; refine JY ((Juu (J9 177 (jd (We 8 y9.er)) row.1) _ _ _ _ _ _ z.L).cons _) ?_; change HL _ _ _ (_ :: _ :: _ :: _ :: _ :: (r5, _) :: (r4, _) :: (z.L ++ J9 177 (jd (We 8 y9.er)) row.1)) _ _ _ _
   refine MP ?_; refine Jm (k := 5) (cs' := List.toArray (({ tx0L with chain := (Jf y0.er).1, nonce := (Jf y1.er).1, tip := (Jn y2.er).1, price := (Jn y3.er).1, gas := (Jf y4.er).1, dest := (JK y5.er).1, value := (Jn y6.er).1, data := (Js y7.er 0 (4096 : Nat)).1, accP := Ke z.row, acc := z.ys, auP := Ke row.1, auths := (We 8 y9.er) } : TxL)).cells) rfl rfl rfl rfl rfl rfl rfl rfl m4 rfl (kB ?_)
   refine JB (T := QE q 3 (JU 3 1 (JU 3 1 (JU 3 1 (JU 3 1 (JU 3 1 (JU 3 1 (JU 3 1 (JU 3 1 (JU 3 1 (JU 3 1 p))))))))))) (Rl := R) (O') O O O Wt (QI (ok1 := True) (OK := (Jf y10.er).2 = 0) (Jd (Jd (Jd (Jd (Jd (Jd (Jd (Jd (Jd (Jd hs)))))))))) mf XQ (xR (Kz y10)) (fun _ h => h) (fun h => h)) oR (fun hk10 _ => ?_) (fun v hv => by (repeat (first | refine J6 ?_ | refine Jz ?_)); exact JF O (hv.mono fun h => h.y)); refine gl ?_
   refine JB (T := QE q 2 (JU 3 1 (JU 3 1 (JU 3 1 (JU 3 1 (JU 3 1 (JU 3 1 (JU 3 1 (JU 3 1 (JU 3 1 (JU 3 1 (JU 3 1 p)))))))))))) (Rl := R) (O') O O O VN (Q1 (OK := (Jn y11.er).2 = 0) (Jd (Jd (Jd (Jd (Jd (Jd (Jd (Jd (Jd (Jd (Jd hs))))))))))) mf Vw (Kx y11) (fun h => h) (fun h => h)) oR (fun hk11 _ => ?_) (fun v hv => by (repeat (first | refine J6 ?_ | refine Jz ?_)); exact JF O (hv.mono fun h => h.r)); refine gl ?_
   refine JB (T := QE q 1 (JU 3 1 (JU 3 1 (JU 3 1 (JU 3 1 (JU 3 1 (JU 3 1 (JU 3 1 (JU 3 1 (JU 3 1 (JU 3 1 (JU 3 1 (JU 3 1 p))))))))))))) (Rl := R) (O') O O O VN (Q1 (OK := (Jn y12.er).2 = 0) (Jd (Jd (Jd (Jd (Jd (Jd (Jd (Jd (Jd (Jd (Jd (Jd hs)))))))))))) mf Vw (Kx y12) (fun h => h) (fun h => h)) oR (fun hk12 _ => ?_) (fun v hv => by (repeat (first | refine J6 ?_ | refine Jz ?_)); exact JF O (hv.mono fun h => h.s))
   refine MP ?_; refine Jm (k := 5) (cs' := List.toArray (({ tx0L with chain := (Jf y0.er).1, nonce := (Jf y1.er).1, tip := (Jn y2.er).1, price := (Jn y3.er).1, gas := (Jf y4.er).1, dest := (JK y5.er).1, value := (Jn y6.er).1, data := (Js y7.er 0 (4096 : Nat)).1, accP := Ke z.row, acc := z.ys, auP := Ke row.1, auths := (We 8 y9.er), y := (Jf y10.er).1 } : TxL)).cells) rfl rfl rfl rfl rfl rfl rfl rfl m4 rfl ?_
   refine MP ?_; refine J2 (k := 5) (n := 4) (cs' := List.toArray (({ tx0L with chain := (Jf y0.er).1, nonce := (Jf y1.er).1, tip := (Jn y2.er).1, price := (Jn y3.er).1, gas := (Jf y4.er).1, dest := (JK y5.er).1, value := (Jn y6.er).1, data := (Js y7.er 0 (4096 : Nat)).1, accP := Ke z.row, acc := z.ys, auP := Ke row.1, auths := (We 8 y9.er), y := (Jf y10.er).1, r := (Jn y11.er).1 } : TxL)).cells) (vs := #[_, _, _, _]) rfl rfl rfl rfl rfl rfl rfl m8 m4 rfl ?_
   refine MP ?_; refine J2 (k := 5) (n := 4) (cs' := List.toArray (({ tx0L with chain := (Jf y0.er).1, nonce := (Jf y1.er).1, tip := (Jn y2.er).1, price := (Jn y3.er).1, gas := (Jf y4.er).1, dest := (JK y5.er).1, value := (Jn y6.er).1, data := (Js y7.er 0 (4096 : Nat)).1, accP := Ke z.row, acc := z.ys, auP := Ke row.1, auths := (We 8 y9.er), y := (Jf y10.er).1, r := (Jn y11.er).1, s := (Jn y12.er).1 } : TxL)).cells) (vs := #[_, _, _, _]) rfl rfl rfl rfl rfl rfl rfl m8 m4 rfl (kV ?_); refine LR O (Ji (xs := ({ tx0L with chain := (Jf y0.er).1, nonce := (Jf y1.er).1, tip := (Jn y2.er).1, price := (Jn y3.er).1, gas := (Jf y4.er).1, dest := (JK y5.er).1, value := (Jn y6.er).1, data := (Js y7.er 0 (4096 : Nat)).1, accP := Ke z.row, acc := z.ys, auP := Ke row.1, auths := (We 8 y9.er), y := (Jf y10.er).1, r := (Jn y11.er).1, s := (Jn y12.er).1 } : TxL).cells) (n := 36) rfl (kn 5 rfl) rfl rfl rfl) (Je (k := 6) (n := 36) (ys := ({ tx0L with chain := (Jf y0.er).1, nonce := (Jf y1.er).1, tip := (Jn y2.er).1, price := (Jn y3.er).1, gas := (Jf y4.er).1, dest := (JK y5.er).1, value := (Jn y6.er).1, data := (Js y7.er 0 (4096 : Nat)).1, accP := Ke z.row, acc := z.ys, auP := Ke row.1, auths := (We 8 y9.er), y := (Jf y10.er).1, r := (Jn y11.er).1, s := (Jn y12.er).1 } : TxL).cells) rfl rfl rfl rfl rfl rfl rfl rfl rfl (GN ?_)); refine Jh O O (.cons (Jj (vs := ({ tx0L with chain := (Jf y0.er).1, nonce := (Jf y1.er).1, tip := (Jn y2.er).1, price := (Jn y3.er).1, gas := (Jf y4.er).1, dest := (JK y5.er).1, value := (Jn y6.er).1, data := (Js y7.er 0 (4096 : Nat)).1, accP := Ke z.row, acc := z.ys, auP := Ke row.1, auths := (We 8 y9.er), y := (Jf y10.er).1, r := (Jn y11.er).1, s := (Jn y12.er).1 } : TxL).cells) rfl (kn 6 rfl) rfl rfl) .nil) (fun w1 hs1 => ?_)
   have hxl : z.ys.length ≤ 16 := by have h := congrArg List.length z.er; rw [D'] at h; have := Ja5 (n := 16) y8.er; omega
   have hE : ({ ({ tx0L with chain := (Jf y0.er).1, nonce := (Jf y1.er).1, tip := (Jn y2.er).1, price := (Jn y3.er).1, gas := (Jf y4.er).1, dest := (JK y5.er).1, value := (Jn y6.er).1, data := (Js y7.er 0 (4096 : Nat)).1, accP := Ke z.row, acc := z.ys, auP := Ke row.1, auths := (We 8 y9.er), y := (Jf y10.er).1, r := (Jn y11.er).1, s := (Jn y12.er).1 } : TxL) with kind := 4 } : TxL).er = Jp8 (List.map ItL.er [y0, y1, y2, y3, y4, y5, y6, y7, y8, y9, y10, y11, y12]) := (congrArg (fun a => ({ Jp8 (List.map ItL.er [y0, y1, y2, y3, y4, y5, y6, y7, y8, y9, y10, y11, y12]) with access := a } : TxE)) z.er)
   exact .inl ⟨⟨hk0, hk1, hk2, hk3, hk4, hk5, hk6, hk7, hk8, hk9, hk10, hk11, hk12⟩, ⟨({ tx0L with chain := (Jf y0.er).1, nonce := (Jf y1.er).1, tip := (Jn y2.er).1, price := (Jn y3.er).1, gas := (Jf y4.er).1, dest := (JK y5.er).1, value := (Jn y6.er).1, data := (Js y7.er 0 (4096 : Nat)).1, accP := Ke z.row, acc := z.ys, auP := Ke row.1, auths := (We 8 y9.er), y := (Jf y10.er).1, r := (Jn y11.er).1, s := (Jn y12.er).1 } : TxL), (z.L ++ J9 177 (jd (We 8 y9.er)) row.1), ⟨(by have h := Jux (List.map ItL.er [y0, y1, y2, y3, y4, y5, y6, y7, y8, y9, y10, y11, y12]); rw [← hE] at h; exact h), Lb' (WP y5.er) m7, Lb' (VG y7.er) m7, Z', Z', Lb' hxl m7, (Ks (e := 175) z.ok m7).mono fun q hq => W' (z.hr q hq), (fun a ha => (z.hx a ha).mono fun q hq => W' hq), (by show (We 8 y9.er).length ≤ _; have := Jur (n := 8) y9.er; omega), (Ks (e := 177) row.2 m7).mono fun q hq => Y' hq, (fun a ha => by have := Jut ha; omega)⟩, hE⟩, rfl, hs1.weakL (.cons _ (.cons _ (.cons _ (.cons _ (.cons _ (.cons _ (.cons _ ((T')))))))))⟩
  exact absurd h11 (m7)
 ·exact HK
theorem Jqc {t : TxE} (h : ¬ t.y > 1) (h2 : t.access.any Wh = false) (h3 : t.auths.any W6 = false) (hk : t.kind = 4) (hd : ¬ t.dest.length = 20) : Qd t = false := by
 unfold Qd; rw [if_neg mR, if_neg m3, if_pos hk, decide_eq_false hd]; rfl
theorem Juy {t : TxE} (h : ¬ t.y > 1) (h2 : t.access.any Wh = false) (h3 : t.auths.any W6 = false) (hk : t.kind = 4) (hd : t.dest.length = 20) (hv : v = decide (0 < t.auths.length)) : v = Qd t := by
 rw [hv]; unfold Qd; rw [if_neg mR, if_neg m3, if_pos hk, decide_eq_true hd]; rfl
theorem Jqd {t : TxE} (h : ¬ t.y > 1) (h2 : t.access.any Wh = false) (h3 : t.auths.any W6 = false) (hk : t.kind = 126) (hd : ¬ t.source.length = 32) : Qd t = false := by
 unfold Qd; rw [if_neg mR, if_neg m3, if_neg m3, if_pos hk, decide_eq_false hd]; rfl
theorem Jqe {t : TxE} (h : ¬ t.y > 1) (h2 : t.access.any Wh = false) (h3 : t.auths.any W6 = false) (hk : t.kind = 126) (hd : t.source.length = 32) (hf : ¬ t.from_.length = 20) : Qd t = false := by
 unfold Qd; rw [if_neg mR, if_neg m3, if_neg m3, if_pos hk, decide_eq_true hd, decide_eq_false hf]; rfl
theorem Jqf {t : TxE} (h : ¬ t.y > 1) (h2 : t.access.any Wh = false) (h3 : t.auths.any W6 = false) (hk : t.kind = 126) (hd : t.source.length = 32) (hf : t.from_.length = 20) (he : t.dest = []) : Qd t = true := by
 unfold Qd toB; rw [if_neg mR, if_neg m3, if_neg m3, if_pos hk, decide_eq_true hd, decide_eq_true hf, decide_eq_true he]; rfl
theorem Jqg {t : TxE} (h : ¬ t.y > 1) (h2 : t.access.any Wh = false) (h3 : t.auths.any W6 = false) (hk : t.kind = 126) (hd : t.source.length = 32) (hf : t.from_.length = 20) (he : ¬ t.dest = []) (hv : v = decide (t.dest.length = 20)) : v = Qd t := by
 rw [hv]; unfold Qd toB; rw [if_neg mR, if_neg m3, if_neg m3, if_pos hk, decide_eq_true hd, decide_eq_true hf, decide_eq_false he]; rfl
theorem Jqh (ht : t.In R) (h : t.kind = 4) : PureR prog 96 [t.val].toArray (.bool (Qd t.er)) R := by
  have hX := Jf0 t.acc
  obtain ⟨kind, chain, nonce, tip, price, gas, dest, value, data, accP, acc, auP, auths, y, r, s, source, from_, mint, system⟩ := t
  simp only at hX h; subst h
  have hseg : Seg R auths.length (jd auths) auP := ht.auS
  refine Gc fun w r1 r3 => ?_
  refine Gb ?_; refine gu ?_
  refine J8 10 O (fun gb => ?_) (fun gb => ?_) <;> (try simp only [ZZ] at gb) <;> first | (refine LR O (Ja O O m0) ?_) | (refine LK O ?_)
  all_goals refine NY ?_
  all_goals first | refine LK O ?_ | (refine J8 16 O (fun gb => ?_) (fun gb => ?_) <;> (try simp only [ZZ] at gb) <;> first | (refine LR O (Ja O O m0) ?_) | (refine LK O ?_))
  all_goals refine gR ?_
  all_goals (
   refine kN ?_; refine Jl O (fun g => ?_) (fun g => ?_)
   try simp only [ZZ] at g
   exact gB
   · try exact Bool.noConfusion g
     all_goals try simp only [ZZ] at g
     all_goals (
      refine gx ?_
      refine Gb ?_; refine JP 9 O (Jl O (fun g => ?_) (fun g => ?_))
      try exact Bool.noConfusion g
      · try simp only [ZZ] at g
        refine gv ?_; refine Jl O (fun g => ?_) (fun g => ?_)
        · try simp only [ZZ] at g
          refine NG ?_
          refine Gb ?_; refine H1 ?_
          refine J8 46 O (fun gb => ?_) (fun gb => ?_) <;> (try simp only [ZZ] at gb) <;> first | (refine LR O (Ja O O m0) ?_) | (refine LK O ?_)
          all_goals refine DG ?_
          all_goals refine MQ ?_
          all_goals (
           refine JD 2 O (vf 4 O ?_); refine NZ fun w1 hs1 => ?_
           first | exact (Jqc mY (hX.trans ma) ma O (by show ¬ dest.length = 20; omega)).symm | exact Juy mY (hX.trans ma) ma O (by show dest.length = 20; omega) (decide_eq_decide.2 (by show ((auths.length : Nat) : Int) > 0 ↔ 0 < auths.length; omega))
           skip)
        try exact Bool.noConfusion g
      skip)
   skip)
theorem Jqi (ht : t.In R) (h : t.kind = 126) : PureR prog 96 [t.val].toArray (.bool (Qd t.er)) R := by
  have hX := Jf0 t.acc
  obtain ⟨kind, chain, nonce, tip, price, gas, dest, value, data, accP, acc, auP, auths, y, r, s, source, from_, mint, system⟩ := t
  simp only at hX h; subst h; refine Gc fun w r1 r3 => ?_
  refine Gb ?_; refine gu ?_
  refine J8 10 O (fun gb => ?_) (fun gb => ?_) <;> (try simp only [ZZ] at gb) <;> first | (refine LR O (Ja O O m0) ?_) | (refine LK O ?_)
  all_goals refine NY ?_
  all_goals first | refine LK O ?_ | (refine J8 16 O (fun gb => ?_) (fun gb => ?_) <;> (try simp only [ZZ] at gb) <;> first | (refine LR O (Ja O O m0) ?_) | (refine LK O ?_))
  all_goals refine gR ?_
  all_goals (
   refine kN ?_; refine Jl O (fun g => ?_) (fun g => ?_)
   try simp only [ZZ] at g
   exact gB
   · try exact Bool.noConfusion g
     all_goals try simp only [ZZ] at g
     all_goals (
      refine gx ?_
      refine Gb ?_; refine JP 9 O (Jl O (fun g => ?_) (fun g => ?_))
      try exact Bool.noConfusion g
      · try simp only [ZZ] at g
        refine gv ?_; refine Jl O (fun g => ?_) (fun g => ?_)
        try exact Bool.noConfusion g
        · try simp only [ZZ] at g
          refine gv ?_; refine Jl O (fun g => ?_) (fun g => ?_)
          · try simp only [ZZ] at g
            refine NG ?_
            refine Gb ?_; refine H1 ?_
            refine J8 58 O (fun gb => ?_) (fun gb => ?_) <;> (try simp only [ZZ] at gb) <;> first | (refine LR O (Ja O O m0) ?_) | (refine LK O ?_)
            all_goals refine Nb ?_
            all_goals refine ko ?_
            all_goals refine GZ ?_
            all_goals first | refine LK O ?_ | (refine J8 64 O (fun gb => ?_) (fun gb => ?_) <;> (try simp only [ZZ] at gb) <;> first | (refine LR O (Ja O O m0) ?_) | (refine LK O ?_))
            all_goals refine Nb ?_
            all_goals refine Hz ?_
            all_goals refine Ns ?_
            all_goals first | refine LK O ?_ | (refine J8 68 O (fun gb => ?_) (fun gb => ?_) <;> (try simp only [ZZ] at gb) <;> first | (refine LR O (Ja O O m0) ?_) | (refine LK O ?_))
            all_goals refine Nb ?_
            all_goals refine ko ?_
            all_goals refine Gr ?_
            all_goals (
             refine JD 2 O (vf 4 O ?_); refine NZ fun w1 hs1 => ?_
             first | exact (Jqd mY (hX.trans ma) ma O (by show ¬ source.length = 32; omega)).symm | exact (Jqe mY (hX.trans ma) ma O Mt (by show ¬ from_.length = 20; omega)).symm | exact (Jqf mY (hX.trans ma) ma O Mt (by show from_.length = 20; omega) ma).symm | exact Jqg mY (hX.trans ma) ma O Mt (by show from_.length = 20; omega) ma (Jts _ 20)
             skip)
          try exact Bool.noConfusion g
      skip)
   skip)
def Jjb (t : TxL) : TxL := { n0 t with chain := t.chain, nonce := t.nonce, price := t.price, y := t.y, r := t.r, s := t.s, auP := t.auP, auths := t.auths, tip := t.tip, accP := t.accP, acc := t.acc }
def Jjc (t : TxL) : TxL := { n0 t with source := t.source, from_ := t.from_, mint := t.mint, system := t.system }
theorem Juz (hk : t.kind = 4) : (Jjb t).er = ZK t.er := by
 unfold Jjb ZK TxL.er n0; simp [hk, tx0]
theorem Ju0 (hk : t.kind = 126) : (Jjc t).er = ZK t.er := by
 unfold Jjc ZK TxL.er n0; simp [hk, tx0]
theorem Ju1 (ht : t.In R) : (Jjb t).In R where
 ok := have h := ht.ok; ⟨h.chain, h.nonce, h.tip, h.price, h.gas, h.value, h.auths, h.y, h.r, h.s, w40_ok⟩
 dest := ht.dest
 data := ht.data
 source := Z'
 from_ := Z'
 accL := ht.accL
 accS := ht.accS
 acc := ht.acc
 auL := ht.auL
 auS := ht.auS
 au := ht.au
theorem Ju2 (ht : t.In R) : (Jjc t).In R where
 ok := have h := ht.ok; ⟨QS, QS, w40_ok, w40_ok, h.gas, h.value, (fun _ h => nomatch h), QS, w40_ok, w40_ok, h.mint⟩
 dest := ht.dest
 data := ht.data
 source := ht.source
 from_ := ht.from_
 accL := Z'
 accS := Seg.nil
 acc := fun _ h => nomatch h
 auL := Z'
 auS := Seg.nil
 au := fun _ h => nomatch h
theorem Jqj (hk : t.kind = 4) : Pure prog 95 [t.val].toArray (Jjb t).val := by
 refine GY fun w r0 r2 => ?_; refine gm fun r3 => ?_; refine kI ?_; refine NQ ?_; refine Jl O (fun h5 => ?_) (fun h5 => ?_)
 exact absurd h5 (nR)
 ·try simp only [ZZ] at h5
  refine gy ?_; refine EM ?_; refine JP 17 O (Jl O (fun h15 => ?_) (fun h15 => ?_))
  try simp only [ZZ] at h15
  refine Hq ?_
  refine MP ?_; refine kI ?_
  refine MP ?_; refine Jm (k := 0) (cs' := List.toArray ({ n0 t with chain := t.chain, nonce := t.nonce, price := t.price, y := t.y, r := t.r, s := t.s, auP := t.auP, auths := t.auths }).cells) rfl rfl rfl rfl rfl rfl rfl rfl m4 rfl (kV ?_)
  refine MP ?_; refine LR O (Ki (vs := [_, _, _, _]) O (kn 2 O) O O O O) ?_
  refine MP ?_; refine J2 (k := 0) (n := 4) (cs' := List.toArray ({ n0 t with chain := t.chain, nonce := t.nonce, price := t.price, y := t.y, r := t.r, s := t.s, auP := t.auP, auths := t.auths, tip := t.tip }).cells) (vs := #[_, _, _, _]) rfl rfl rfl rfl rfl rfl rfl m8 m4 rfl (EM ?_)
  refine MP ?_; refine Jm (k := 0) (cs' := List.toArray ({ n0 t with chain := t.chain, nonce := t.nonce, price := t.price, y := t.y, r := t.r, s := t.s, auP := t.auP, auths := t.auths, tip := t.tip, accP := t.accP, acc := t.acc }).cells) rfl rfl rfl rfl rfl rfl rfl rfl m4 rfl (g8 ?_); refine LR O (Ji (xs := ({ n0 t with chain := t.chain, nonce := t.nonce, price := t.price, y := t.y, r := t.r, s := t.s, auP := t.auP, auths := t.auths, tip := t.tip, accP := t.accP, acc := t.acc }).cells) (n := 36) rfl (kn 0 rfl) rfl rfl rfl) (NU fun w1 hs1 => ?_); exact HG
  ·exact absurd h15 ((by intro h; rw [hk] at h; exact absurd h m7))
theorem Jqk (hk : t.kind = 126) : Pure prog 95 [t.val].toArray (Jjc t).val := by
 refine GY fun w r0 r2 => ?_; refine gm fun r3 => ?_; refine kI ?_; refine KC O (J4 (show _ = Value.bool true from KT (decide_eq_true hk)) (JP 2 rfl ?_)); refine Jl O (fun g => ?_) (fun g => ?_)
 try simp only [ZZ] at g
 refine Dz ?_; refine Kk [(r0, .cells (List.toArray t.cells) 33 (0, 0))] [(0, .pure), (1, .pure), (2, .pure), (3, .pure), (4, .pure), (5, .pure), (6, .pure), (7, .pure), (8, .pure), (9, .turn), (10, .pure), (11, .turn), (12, .pure), (13, .turn), (14, .pure), (15, .turn)] 16 [0, 1, 2, 3, 4, 5, 6, 7, 8, 9, 10, 11, 12, 13, 14, 15] m4 m4 (fun p hp => by rw [U'.1 hp]; exact M' (M' N')) ?_
 refine N6 ?_
 refine Jr (k := 8) O O O O O (fun _ hS => (Ja O O m0)) (Qy (k := 9) (q := 0) (cs' := List.toArray ({ n0 t with source := t.source }).cells) rfl rfl rfl rfl rfl rfl rfl rfl rfl m4 rfl (fun p hp => by rw [U'.1 hp]; exact M' (M' N')) ?_)
 refine Jr (k := 10) O O O O O (fun _ hS => (Ja O O m0)) (Qy (k := 11) (q := 0) (cs' := List.toArray ({ n0 t with source := t.source, from_ := t.from_ }).cells) rfl rfl rfl rfl rfl rfl rfl rfl rfl m4 rfl (fun p hp => by rw [U'.1 hp]; exact M' (M' N')) ?_)
 refine Jr (k := 12) O O O O O (fun _ hS => (Ja O O m0)) (WA (k := 13) (q := 0) (n := 4) (vs := #[_, _, _, _]) (cs' := List.toArray ({ n0 t with source := t.source, from_ := t.from_, mint := t.mint }).cells) rfl rfl rfl rfl rfl rfl rfl rfl rfl m8 m4 rfl (fun p hp => by rw [U'.1 hp]; exact M' (M' N')) ?_)
 refine Jr (k := 14) O O O O O (fun _ hS => (Ja O O m0)) (Qy (k := 15) (q := 0) (cs' := List.toArray ({ n0 t with source := t.source, from_ := t.from_, mint := t.mint, system := t.system }).cells) rfl rfl rfl rfl rfl rfl rfl rfl rfl m4 rfl (fun p hp => by rw [U'.1 hp]; exact M' (M' N')) (KJ (kV ?_))); refine LR O (Ji (xs := ({ n0 t with source := t.source, from_ := t.from_, mint := t.mint, system := t.system }).cells) (n := 36) rfl (kn 0 rfl) rfl rfl rfl) (Je (k := 1) (n := 36) rfl rfl rfl rfl rfl rfl rfl rfl rfl (gA ?_)); refine Jh O O (.cons (Jj (vs := [_, _, _, _, _, _, _, _, _, _, _, _, _, _, _, _, _, _, _, _, _, _, _, _, _, _, _, _, _, _, _, _, _, _, _, _]) O (kn 1 O) O O) .nil) (fun w1 hs1 => ?_); exact HG
 ·try exact Bool.noConfusion g
theorem Jql {t : TxE} (hk : Qp t.kind ≠ 0) (h : t ≠ ZK t ∨ Qd t = false) : X0 t = 2 := by
 unfold X0; rw [if_neg hk, if_pos h]
theorem Jy1 {t : TxE} (hk : Qp t.kind ≠ 0) (h : t = ZK t) (h2 : Qd t = true) (h3 : jI t = true) : X0 t = 5 := by
 unfold X0; rw [if_neg hk, if_neg Mv, if_pos h3]
theorem Jy2 {t : TxE} (hk : Qp t.kind ≠ 0) (h : t = ZK t) (h2 : Qd t = true) (h3 : jI t = false) : X0 t = 0 := by
 unfold X0; rw [if_neg hk, if_neg Mv, if_neg (by rw [h3]; simp)]
theorem WR (k : Int) : (Qx Jco (.int .i64 k) [(Value.int .i64 0, Value.int .i64 9), (.int .i64 1, .int .i64 11), (.int .i64 2, .int .i64 12), (.int .i64 4, .int .i64 13), (.int .i64 126, .int .i64 8)]).getD (.int .i64 0) = .int .i64 (Qp k : Int) := by
 by_cases h0 : k = 0
 ·subst h0; rfl
 by_cases h1 : k = 1
 ·subst h1; rfl
 by_cases h2 : k = 2
 ·subst h2; rfl
 by_cases h4 : k = 4
 ·subst h4; rfl
 by_cases h6 : k = 126
 ·subst h6; rfl
 simp [Qx, Jcp, Qp, h0, h1, h2, h4, h6]
theorem yf  {n : TxL} (ht : t.In R) (hm : Qp t.kind ≠ 0) (hnI : n.In R) (hn : n.er = ZK t.er) (hP : Pure prog 95 [t.val].toArray n.val) (hS : PureR prog 96 [t.val].toArray (.bool (Qd t.er)) R) : PureR prog 33 [t.val].toArray (.int .i64 (X0 t.er)) R := by
  have hsm := vD ht hnI
  have hke : Qp t.er.kind ≠ 0 := hm
  have hkk := Jdr t.acc
  have hseg := ht.accS
  have hseg2 := ht.auS
  rw [hn] at hsm; refine Nu fun w r0 mr => ?_
  refine Xk (k := 3) O O O O O (Qk (v := .int .i64 (Qp t.kind : Int)) (VP (t := 3) m4) O O (kn 0 O) O O ⟨_, rfl⟩ mc (WR t.kind)) (Ge ?_); refine Jl O (fun h5 => ?_) (fun h5 => ?_)
  exact absurd h5 ((by intro h; have := beq_iff_eq.1 h; exact hm m3))
  · try simp only [ZZ] at h5
    refine Dz ?_; refine KB 6 m4 m4 (Gl ?_); refine Gl ?_; refine Vu O O O (enters_of Tryz.func95 m4 O) hP (wl O O O Js8 hsm oR (gP ?_)); refine kr ?_; refine KR ?_
    refine J8 16 O (fun gb => ?_) (fun gb => ?_) <;> (try simp only [ZZ] at gb) <;> first | (refine LR O (Ji (xs := t.cells) (n := 36) O (kn 1 O) O O O) ?_) | (refine LK O ?_)
    all_goals first | (refine Ju O O O (enters_of Tryz.func96 m4 O) hS oR ?_) | refine LK O ?_
    all_goals refine MQ ?_
    all_goals (
     refine kW ?_; refine Jl O (fun g => ?_) (fun g => ?_)
     try simp only [ZZ] at g
     refine E9 fun w1 hs1 => ?_
     first | exact (Jql hke (.inl ma)).symm | exact (Jql hke (.inr ma)).symm
     · try exact Bool.noConfusion g
       all_goals try simp only [ZZ] at g
       all_goals (
        refine NG ?_
        refine Gb ?_; refine H1 ?_
        refine J8 26 O (fun gb => ?_) (fun gb => ?_) <;> (try simp only [ZZ] at gb) <;> first | (refine LR O (Ja O O m0) ?_) | (refine LK O ?_)
        all_goals refine DG ?_
        all_goals refine GZ ?_
        all_goals first | refine LK O ?_ | (refine J8 32 O (fun gb => ?_) (fun gb => ?_) <;> (try simp only [ZZ] at gb) <;> first | (refine LR O (Ja O O m0) ?_) | (refine LK O ?_))
        all_goals refine Fw ?_
        all_goals refine N4 ?_
        all_goals refine gl ?_
        all_goals first | refine LK O ?_ | (refine J8 38 O (fun gb => ?_) (fun gb => ?_) <;> (try simp only [ZZ] at gb) <;> first | (refine LR O (Ja O O m0) ?_) | (refine LK O ?_))
        all_goals refine Nb ?_
        all_goals first | refine LR O (JZ O hseg2 O) ?_ | refine LK O ?_
        all_goals refine MQ ?_
        all_goals (
         refine kW ?_; refine Jl O (fun g => ?_) (fun g => ?_)
         try simp only [ZZ] at g
         refine E9 fun w1 hs1 => ?_
         (refine (Jy1 hke ma ma (Jdq ?_)).symm
          refine EH ?_
          first | exact .inl m3 | exact .inr (.inl m3) | exact .inr (.inr (.inl (hkk.trans ma))) | exact .inr (.inr (.inr m3)))
         · try exact Bool.noConfusion g
           all_goals try simp only [ZZ] at g
           all_goals (
            refine KF 9 O (N3 fun w1 hs1 => ?_); refine NL ?_
            (refine (Jy2 hke ma ma (Jin ?_ ?_ (hkk.trans ma) ?_)).symm
             show ¬ t.data.length > 4096; omega
             exact F6
             show ¬ t.auths.length > 8; omega)
            skip)
         skip)
        skip)
     skip)
theorem Jgp (hm : Qp t.kind = 0) : PureR prog 33 [t.val].toArray (.int .i64 9) R := by
 refine Nu fun w r0 mr => ?_
 refine Xk (k := 3) O O O O O (Qk (v := .int .i64 0) (VP (t := 3) m4) O O (kn 0 O) O O ⟨_, rfl⟩ mc ((WR t.kind).trans (by rw [hm]; rfl))) (Ge ?_); refine Jl O (fun g => ?_) (fun g => ?_)
 try simp only [ZZ] at g
 refine GL ?_; exact Ng
 ·try exact Bool.noConfusion g
theorem YE (ht : t.In R) : PureR prog 33 [t.val].toArray (.int .i64 (X0 t.er)) R := by
 by_cases h0 : Yn t.kind
 ·exact zX ht h0
 by_cases h4 : t.kind = 4
 ·exact yf ht (by rw [h4]; decide) (Ju1 ht) (Juz h4) (Jqj h4) (Jqh ht h4)
 by_cases h6 : t.kind = 126
 ·exact yf ht (by rw [h6]; decide) (Ju2 ht) (Ju0 h6) (Jqk h6) (Jqi ht h6)
 have hm : Qp t.kind = 0 := by unfold Yn at h0; unfold Qp; rw [if_neg m3, if_neg m3, if_neg m3, if_neg h4, if_neg h6]
 have e : X0 t.er = 9 := if_pos hm
 rw [e]; exact Jgp hm
end Go.Proofs.YtckoepmdmhdepaaGreatDoor
