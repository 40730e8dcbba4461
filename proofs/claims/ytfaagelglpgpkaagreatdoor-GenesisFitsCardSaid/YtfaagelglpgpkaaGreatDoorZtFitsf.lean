import Derived.Test.YtfaagelglpgpkaaGreatDoorZtFitse
import Derived.Shelf.SlGeneric
import Derived.Shelf.SlSortCmp.WholeK
import Derived.Ground.SlsfProg
import Derived.Test.YtfaagelglpgpkaaGreatDoorProg
set_option maxRecDepth 100000
namespace Go.Proofs.YtfaagelglpgpkaaGreatDoor
set_option linter.all false
open Go.SL Go.RowKit Go.Shelf
def okI (k v : Int) : Bool := (qG k v).2.2
def loI (k v : Int) : Int := if okI k v then (qG k v).1 else 0
def hiI (k v : Int) : Int := if okI k v then (qG k v).2.1 else 0
theorem Jax {x y z : Value} (h1 : Wf x y = true) (h2 : Wf x z = true) : Wf y z = true := by
 unfold Wf at *
 simp only [decide_eq_true_eq] at *; rw [← h1, h2]
theorem table_dist : tableKV.Pairwise fun p q => Wf p.1 q.1 = false := by decide
theorem Jf8 : ∀ p ∈ tableKV, Jaw p.1 := by
 unfold tableKV
 simp only [List.forall_mem_cons]; exact ⟨⟨_, _, rfl⟩, ⟨_, _, rfl⟩, ⟨_, _, rfl⟩, ⟨_, _, rfl⟩, ⟨_, _, rfl⟩, ⟨_, _, rfl⟩, ⟨_, _, rfl⟩, ⟨_, _, rfl⟩, ⟨_, _, rfl⟩, ⟨_, _, rfl⟩, ⟨_, _, rfl⟩, ⟨_, _, rfl⟩, ⟨_, _, rfl⟩, ⟨_, _, rfl⟩, by simp⟩
theorem Jf9 (k v : Int) : Ku Wf (KG k v) tableKV = if okI k v then some (KG (loI k v) (hiI k v)) else none := by
 simp only [tableKV, Ku, zA, loI, hiI, okI, qG]
 by_cases h1 : k = 1
 ·subst h1; by_cases a0 : v = 0 <;> by_cases a1 : v = 1 <;> by_cases a2 : v = 2 <;> by_cases a3 : v = 126 <;> by_cases a4 : v = 4 <;> simp_all
 ·by_cases h2 : k = 2
  ·subst h2; by_cases a0 : v = 0 <;> by_cases a1 : v = 1 <;> by_cases a2 : v = 2 <;> simp_all
  ·by_cases h3 : k = 3
   ·subst h3; by_cases a0 : v = 0 <;> by_cases a1 : v = 1 <;> simp_all <;> rfl
   ·by_cases h4 : k = 4
    ·subst h4; by_cases a0 : v = 0 <;> by_cases a1 : v = 2 <;> simp_all <;> rfl
    ·by_cases h5 : k = 5
     ·subst h5; by_cases a0 : v = 0 <;> by_cases a1 : v = 1 <;> simp_all <;> rfl
     ·simp_all
theorem Jlp {kv : List (Value × Value)} (hp : kv.Perm tableKV) (k v : Int) : Ku Wf (KG k v) kv = if okI k v then some (KG (loI k v) (hiI k v)) else none := by
 rw [← Jf9, Jbl hp.symm]; refine table_dist.imp fun {p q} h ⟨h1, h2⟩ => ?_; rw [Jax h1 h2] at h; cases h
theorem Jlq {kv : List (Value × Value)} (hp : kv.Perm tableKV) (k v : Int) :
  (if true = true then Value.tuple #[((Ku Wf (KG k v) kv).getD (KG 0 0)), .bool (Ku Wf (KG k v) kv).isSome] else (Ku Wf (KG k v) kv).getD (KG 0 0)) =
   .tuple #[.agg [.int .i64 (loI k v), .int .i64 (hiI k v)].toArray, .bool (okI k v)] := by
 rw [Jlp hp, if_pos rfl]
 cases h : okI k v <;> simp [loI, hiI, KG, h]
theorem zB {mes : Array MapEntry} (hp : (mes.toList.map QX).Perm tableKV) : ∀ e ∈ mes.toList, Jaw e.key := fun e he =>
 Jf8 (QX e) (hp.subset (List.mem_map_of_mem he))
theorem yB (f k v : Int) : Pure Tryz.prog 105 [.int .i64 f, .int .i64 k, .int .i64 v].toArray (.bool (okI k v && decide (f ≥ loI k v) && decide (f ≤ hiI k v))) := by
 refine Jm Tryz.func105 rfl rfl fun w => ?_; refine JA ?_; refine Jq 7 rfl ?_; refine JQ rfl rfl rfl (enters_of Tryz.func172 (by kernel_rfl) rfl) Zz fun x1 => ?_
 obtain ⟨⟨mr, mes⟩, hmes, hborn⟩ := x1
 change HL _ _ _ [(mr, .map mes mes.size)] _ _ _ _; refine LS 2 [] rfl rfl ?_; refine LR rfl (Js (r := [_, _]) rfl rfl) ?_; refine LR rfl (WY Jq6 rfl rfl (kn 0 rfl) rfl rfl ⟨_, _, rfl⟩ (zB hmes) (Jlq hmes k v)) ?_; refine LS 3 [] rfl rfl ?_; refine LN rfl fun r1 => ?_
 refine LT 0 rfl rfl ?_; refine JG 7 rfl ?_
 refine J8 18 rfl (fun gb => ?_) (fun gb => ?_) <;> (try simp only [ZZ] at gb) <;> first | (refine QL rfl ?_) | (refine LK rfl ?_)
 all_goals first | refine LR rfl (J9 rfl rfl rfl) ?_ | refine LK rfl ?_
 all_goals refine LW 4 [0] rfl rfl ?_
 all_goals first | refine LK rfl ?_ | (refine J8 24 rfl (fun gb => ?_) (fun gb => ?_) <;> (try simp only [ZZ] at gb) <;> first | (refine QL rfl ?_) | (refine LK rfl ?_))
 all_goals first | refine LR rfl (J9 rfl rfl rfl) ?_ | refine LK rfl ?_
 all_goals (
  refine LW 4 [0] rfl rfl (Jw 1 rfl (ZK 2 rfl ?_)); refine pT rfl rfl rfl fun w1 hs1 => ?_; exact ⟨by (try simp_all [JB]); try omega, hs1.keep⟩
  skip)
def Jyn (v : Value) : Int := (wT v).headD 0
def J0n (v : Value) : Int := ((wT v).drop 1).headD 0
theorem Jvl (a b : Int) : Jyn (.agg [.int .i64 a, .int .i64 b].toArray) = a := rfl
theorem Jvm (a b : Int) : J0n (.agg [.int .i64 a, .int .i64 b].toArray) = b := rfl
def Wg (k : Int) (l : List (Value × Value)) : List Int := (l.filter fun p => Jyn p.1 == k).map fun p => J0n p.1
def wU (k : Int) (l : List MapEntry) : List Int := Wg k (l.map QX)
theorem Jga {k : Int} {l : List MapEntry} {e : MapEntry} {a b : Int} (h : e.key = .agg [.int .i64 a, .int .i64 b].toArray) : wU k (l ++ [e]) = wU k l ++ (if a = k then [b] else []) := by
 simp only [wU, Wg, List.map_append, List.filter_append, List.map_cons, List.map_nil, QX, h, List.filter_cons, Jvl, List.filter_nil]
 by_cases hk : a = k <;> simp [hk, Jvm]
theorem wW (k : Int) (l : List (Value × Value)) : (Wg k l).length ≤ l.length := by
 unfold Wg; rw [List.length_map]; exact List.length_filter_le _ _
theorem qH {k : Int} {l l' : List (Value × Value)} (h : l.Perm l') : (Wg k l).Perm (Wg k l') := (h.filter _).map _
def nxV (ys : List Int) (v : List Value) (ys' : List Int) : Prop := ∃ x, v = [.int .i64 x] ∧ ys' = ys ++ [x] ∧ ys.length < 14
def fiV (k : Int) (ys : List Int) : Prop := ys.Perm (Wg k tableKV)
theorem Jgb (k : Int) (p : Nat) : ZY Tryz.prog 171 [.pointer (some ⟨p, 0, none⟩)] [(p, .cells #[.int .i64 k] 3 (0, 0))] ([] : List Int) nxV (fiV k) := by
  refine QY Tryz.func171 rfl rfl fun q xids w2 XI XF hY => ?_; refine JA ?_; refine Jq 2 rfl ?_; refine JQ rfl rfl rfl (enters_of Tryz.func172 (by kernel_rfl) rfl) Zz fun x1 => ?_
  obtain ⟨⟨mr, mes⟩, hmes, hborn⟩ := x1
  change HL _ _ _ [(mr, .map mes mes.size)] _ _ _ _
  have hnd : (mes.toList.map (·.born)).Nodup := by rw [show mes.toList.map (·.born) = List.range mes.size from hborn]; exact List.nodup_range
  have hlt : ∀ e ∈ mes.toList, e.born < mes.size := fun e he => List.mem_range.1 (by rw [← show mes.toList.map (·.born) = List.range mes.size from hborn]; exact List.mem_map_of_mem (f := (·.born)) he)
  have h14 : mes.toList.length = 14 := by have := List.Perm.length_eq (show (mes.toList.map QX).Perm tableKV from hmes); rw [List.length_map] at this; exact this
  refine Jbm (c := ⟨Tryz.prog, none, w2, [], xids, _, _⟩) rfl rfl rfl (kn 0 rfl) rfl fun qi => ?_; refine JK 3 rfl ?_; refine J0 (σ := List MapEntry × Array Nat) (fun s => (s.1 ++ KN mes.toList s.2).Perm mes.toList) (fun _ => [(0, .func (.yield q) #[] #[]), (1, .pointer (some ⟨p, 0, none⟩)), (5, .pointer (some ⟨qi, 0, none⟩))]) (fun s => [(qi, .mapIter (some mr) mes.size s.2 mes.size), (mr, .map mes mes.size)]) (fun s => XI (wU k s.1)) (fun s => (KN mes.toList s.2).length) ([], #[]) (by rw [Jj9]; exact List.Perm.refl _) (lK rfl) (List.Sublist.refl _) (fun _ _ h => h) ?_; rintro ⟨done, seen⟩ hI; simp only at hI; refine Jq 2 rfl ?_; refine Jsh (k := 0) rfl rfl rfl rfl (kn 1 rfl) hlt (fun hleft => ?_) (fun e he L1 hL1 => ?_)
  all_goals try (simp only [List.set_cons_zero] at hL1; subst hL1)
  all_goals (
   refine LR rfl (JL rfl rfl) (Jw 1 rfl (Y6 2 rfl ?_)); refine Jz rfl (fun g => ?_) (fun g => ?_)
   · try exact Bool.noConfusion g
     all_goals try simp only [ZZ] at g
     all_goals (
      refine Jq 5 rfl ?_
      obtain ⟨ka, kb, hab⟩ : Jaw e.key := zB hmes e (Jbo he)
      refine LR rfl (Jsi rfl (kn 0 rfl) (kn 1 rfl) hnd (Jbo he)) ?_; refine J3 (show _ = Value.tuple #[.agg [.int .i64 ka, .int .i64 kb].toArray, e.val] from by rw [hab]; rfl) ?_; refine LR rfl (JL rfl rfl) ?_; refine LN rfl fun r1 => ?_
      refine Q9 (k := 0) (n := 2) (cs' := #[_, _]) (vs := #[_, _]) rfl rfl rfl rfl rfl rfl rfl (by exact Nat.le_of_ble_eq_true rfl) rfl (by first | (simp only [List.set_cons_zero, List.set_cons_succ]; exact rfl) | exact rfl) ?_; refine JG 4 rfl ?_
      refine LR rfl (KM rfl rfl (by first | (simp only [Nat.zero_add, Nat.reduceAdd, Nat.reduceMul, Nat.zero_mul, Nat.mul_one, Nat.add_zero]; exact rfl) | exact rfl)) ?_; refine LR rfl (Jd rfl (kn 0 rfl) rfl rfl) ?_; refine LR rfl (Jd rfl (J2 (k := 0) rfl) rfl rfl) ?_; refine JG 2 rfl ?_
      refine J8 14 rfl (fun gb => ?_) (fun gb => ?_) <;> (try simp only [ZZ] at gb) <;> first | (refine QL rfl ?_) | (refine LK rfl ?_)
      all_goals first | (refine LR rfl (KM rfl rfl (by first | (simp only [Nat.zero_add, Nat.reduceAdd, Nat.reduceMul, Nat.zero_mul, Nat.mul_one, Nat.add_zero]; exact rfl) | exact rfl)) ?_) | refine LK rfl ?_
      all_goals first | refine LR rfl (Jd rfl (kn 0 rfl) rfl rfl) ?_ | refine LK rfl ?_
      all_goals first | (refine Vr (XT := XI (wU k done ++ [kb])) (XF := XF) rfl rfl rfl rfl (hY _ _ _ ⟨kb, rfl, rfl, by have h1 := (jN hnd he hI).2.2; have h2 := wW k (done.map QX); rw [List.length_map] at h2; show (Wg k (done.map QX)).length < 14; omega⟩) ?_ ?_) | (refine LK rfl ?_)
      all_goals first | refine VQ rfl ?_ | refine LK rfl ?_
      all_goals first | refine LR rfl (Yh rfl rfl) ?_ | refine LR rfl (Wh rfl rfl) ?_
      all_goals (
       refine Jw 1 rfl (Y6 1 rfl ?_); refine Jz rfl (fun g => ?_) (fun g => ?_)
       · try exact Bool.noConfusion g
         all_goals try simp only [ZZ] at g
         all_goals (
          refine Ko 4 rfl ?_; refine Jg rfl rfl .nil (fun w1 hs1 => ?_)
          obtain ⟨xs1, hx1⟩ := hs1.now
          exact ⟨⟨_, rfl⟩, hs1.keep, .inr ⟨_, hx1⟩⟩
          skip)
       · try exact Bool.noConfusion g
         all_goals try simp only [ZZ] at g
         all_goals (
          refine Ko 2 rfl ?_; refine Jx ?_; exact Jt (done ++ [e], seen.push e.born) (jN hnd he hI).1 (jN hnd he hI).2.1 (lK rfl) (.cons _ (List.Sublist.refl _)) (fun _ w h => by simp only [Jga hab]; simp_all)
          skip)
       skip)
      skip)
   · try exact Bool.noConfusion g
     all_goals try simp only [ZZ] at g
     all_goals (
      refine Ko 4 rfl ?_; refine Kq rfl rfl .nil (fun w1 hs1 => ?_)
      obtain ⟨xs1, hx1⟩ := hs1.now
      exact ⟨⟨_, rfl⟩, hs1.keep, .inl ⟨_, _, by rw [hleft, List.append_nil] at hI; exact (qH (hI.map QX)).trans (qH hmes), hx1⟩⟩
      skip)
   skip)
theorem wX : Pure Tryz.prog 174 [.int .u64 0].toArray (.int .i64 0) := ⟨fun w => (Tryz.bits_Len 0 w (by decide) (by decide)).mono fun _ _ ⟨h1, h2⟩ => ⟨h1, h2 ▸ Keep.refl _ _⟩⟩
theorem J0o : Pure Tryz.prog 225 [.slice none 0 0, .int .i64 0, .int .i64 0].toArray (.tuple #[]) := by
 refine Jm Tryz.func225 rfl rfl fun w => ?_; refine JA ?_; refine Jq 4 rfl ?_; refine Jc (by omega) (by omega) ?_; refine JK 4 rfl ?_; refine J0 (σ := Unit) (fun _ => True) (fun _ => [(2, .int .i64 0), (6, .int .i64 1)]) (fun _ => []) (fun _ _ _ => True) (fun _ => 0) () trivial (lK rfl) (List.nil_sublist _) (fun _ _ h => h) ?_; rintro ⟨⟩ -; refine JN 8 rfl ?_; refine Jz rfl (fun h4 => ?_) (fun h4 => ?_)
 exact absurd h4 (by decide)
 ·try simp only [ZZ] at h4
  refine Ko 4 rfl ?_; refine Kq rfl rfl .nil (fun w1 hs1 => ?_); exact ⟨rfl, hs1.keep⟩
theorem J0p : Pure Tryz.prog 173 [.slice none 0 0, .int .i64 0, .int .i64 0, .int .i64 0].toArray (.tuple #[]) := by
 refine Jm Tryz.func173 rfl rfl fun w => ?_; refine JA ?_; refine JN 11 rfl ?_; refine J0 (σ := Unit) (fun _ => True) (fun _ => [(0, .slice none 0 0), (1, .int .i64 0), (2, .int .i64 0)]) (fun _ => []) (fun _ _ _ => True) (fun _ => 0) () trivial (lK rfl) (List.nil_sublist _) (fun _ _ h => h) ?_; rintro ⟨⟩ -; refine Jq 6 rfl ?_; refine Jc (by omega) (by omega) ?_; refine JK 10 rfl ?_; refine Jz rfl (fun h6 => ?_) (fun h6 => ?_)
 try simp only [ZZ] at h6
 refine Jq 5 rfl ?_; refine Jn rfl rfl rfl (enters_of Tryz.func225 (by kernel_rfl) rfl) J0o ?_; refine Jw 7 rfl ?_; refine Jg rfl rfl .nil (fun w1 hs1 => ?_); exact ⟨rfl, hs1.keep⟩
 ·exact absurd h6 (by decide)
theorem Jgc : Pure Tryz.prog 106 [.slice none 0 0].toArray (.tuple #[]) := by
 refine Jm Tryz.func106 rfl rfl fun w => ?_; refine JA ?_; refine Jq 3 rfl ?_; refine LR rfl (JU rfl rfl) ?_; refine JG 8 rfl ?_; refine Wn (by omega) (by omega) ?_; refine Jn rfl rfl rfl (enters_of Tryz.func174 (by kernel_rfl) rfl) wX ?_; refine Jn rfl rfl rfl (enters_of Tryz.func173 (by kernel_rfl) rfl) J0p ?_; refine Jw 1 rfl ?_; refine Kq rfl rfl .nil (fun w1 hs1 => ?_); exact ⟨rfl, hs1.keep⟩
def Yf (xs : List Int) : List Int := xs.mergeSort fun x y => decide (x ≤ y)
theorem Jyo {c : Cx} {L : Ji} {X : XP} {k blk cap : Nat} {xs : List Int} {sp : List Value} (hP : c.P = Tryz.prog) (hk : L[k]? = some (blk, .cells (xs.map (Value.int .i64) ++ sp).toArray 3 (0, 0))) (hlen : xs.length < 4611686018427387904) :
  ∀ w, St c L X w → Calls c.P 106 [.slice (some ⟨blk, 0, none⟩) xs.length cap].toArray w fun e w' => ∃ _ : Unit, e = .returned (.tuple #[]) ∧ St c (L.set k (blk, .cells ((Yf xs).map (Value.int .i64) ++ sp).toArray 3 (0, 0))) X w' := fun w hs => by
 rw [hP]
 have hb := hs.get hk
 refine (Tryz.slices_Sort_int blk 0 cap xs w (Jka hb) (J7 hb) hlen).mono ?_; rintro e w' ⟨rfl, n, os, hw⟩
 obtain ⟨h1, h2⟩ := Jet (ys := Yf xs) (by unfold Yf; rw [List.length_mergeSort]) hw hb
 exact ⟨(), rfl, hs.set hk h1 h2⟩
theorem Jgd (k : Int) : PureE (α := Nat) Tryz.prog 104 [.int .i64 k].toArray (fun r => .func (.func 171) #[] #[.pointer (some ⟨r, 0, none⟩)]) (fun r => [(r, .cells #[.int .i64 k] 3 (0, 0))]) := by
 refine Ke Tryz.func104 rfl rfl fun w => ?_; refine JA ?_; refine Jq 2 rfl ?_; refine LN rfl fun r1 => ?_; refine JG 5 rfl ?_; refine LR rfl (JC rfl rfl) ?_; refine Jw 4 rfl ?_; refine pT rfl rfl rfl fun w1 hs1 => ?_; exact ⟨_, rfl, hs1⟩
def okL (f k v : Int) : Bool := okI k v && decide (f ≥ loI k v) && decide (f ≤ hiI k v)
def Wx (f k : Int) : List Int := Yf ((Wg k tableKV).filter (okL f k))
section
variable {c : Cx} {l : Ks} {L : Ji} {X : XP} {Q : Exit → Act → World → Prop} {d : List Deferred}
variable {ops : Array Oper} {rest : List Oper} {i : Nat} {ps : String} {af : Array Edge} {gd : Option (Nat × Bool)} {ty : TypeId}
theorem Jge {f x : Operand} {at_ : Array TypeId} {xs : List Int} {row : QU} {L0 : Ji} (hP : c.P = Tryz.prog) (hp : L.Perm (JP 3 (xs.map (Value.int .i64)) row ++ L0))
  (hg : Kc l ops ⟨some i, .call ⟨.value f, #[x], at_⟩, ty, ps, af, gd⟩ = some true) (hi : Nat.ble (i + 1) c.n = true) (hf : JX l f = some (.func (.func 106) #[] #[])) (hx : JX l x = some (JE xs.length row)) (hok : rowOk 1 xs.length (xs.map (Value.int .i64)) row)
  (hlen : xs.length < 4611686018427387904)
  (h : HL c d ((i, .tuple #[]) :: l) (L0 ++ JP 3 ((Yf xs).map (Value.int .i64)) row) X ops rest Q) : HL c d l L X ops (⟨some i, .call ⟨.value f, #[x], at_⟩, ty, ps, af, gd⟩ :: rest) Q := by
 refine Kx hp ?_
 cases row with
 | none =>
  obtain ⟨h1, h2⟩ := hok
  have hxs : xs = [] := by simpa using h2
  subst hxs; refine Jn hg hi ?_ (hP ▸ enters_of Tryz.func106 (by kernel_rfl) rfl) (hP ▸ Jgc) ?_
  ·simp only [Kk, hf, evs, hx]; rfl
  ·simpa [Yf, JP] using h
 | some p =>
  obtain ⟨r, cap, sp⟩ := p
  refine WU (α := Unit) (V := fun _ => .tuple #[]) (X' := fun _ => X) (vs := [.slice (some ⟨r, 0, none⟩) xs.length cap]) hg hi ?_ (hP ▸ enters_of Tryz.func106 (by kernel_rfl) rfl) (Jyo (k := 0) (sp := sp) hP rfl hlen) fun _ => ?_
  ·simp only [Kk, hf, evs, hx]; rfl
  ·exact Kx (List.perm_append_comm (l₁ := [_])) h
end
theorem ql (f k : Int) : PureE (α := { row : QU // rowOk 1 (Wx f k).length ((Wx f k).map (Value.int .i64)) row }) Tryz.prog 48 [.int .i64 f, .int .i64 k].toArray (fun r => JE (Wx f k).length r.1) (fun r => JP 3 ((Wx f k).map (Value.int .i64)) r.1) := by
  refine Ke Tryz.func48 rfl rfl fun w => ?_; refine JA ?_; refine Jq 2 rfl ?_; refine LN rfl fun r1 => ?_; refine LN rfl fun r2 => ?_; refine JG 5 rfl ?_; refine LN rfl fun r3 => ?_; refine JG 5 rfl ?_; refine LR rfl (Jd rfl (kn 1 rfl) rfl rfl) ?_; refine JQ rfl rfl rfl (enters_of Tryz.func104 (by kernel_rfl) rfl) (Jgd k) fun rc => ?_; change HL _ _ _ [(rc, .cells #[.int .i64 k] 3 (0, 0)), (r3, _), (r2, _), (r1, _)] _ _ _ _; refine JK 3 rfl ?_; refine VC [1, 0, 2, 3] (by decide) rfl ?_; refine WX (τ := Unit) (fun ys (s : List Value × QU) => s.1 = (ys.filter (okL f k)).map (.int .i64) ∧ rowOk 1 s.1.length s.1 s.2 ∧ ys.length ≤ 14) (fun s => (r3, .cells #[JE s.1.length s.2] 92 (0, 0)) :: JP 3 s.1 s.2) (fun _ _ => False) (fun _ => []) [(rc, _), (r2, _), (r1, _)] ([], none) rfl rfl (enters_of Tryz.func171 (by kernel_rfl) rfl) (Jgb k rc) (by rintro _ _ _ ⟨x, rfl, _⟩; rfl) rfl (by simp) rfl ⟨rfl, ⟨rfl, rfl⟩, by simp⟩ ?_ ?_ ?_
  · rintro q Xr Xb w3 ys _ _ ⟨xs, row⟩ ⟨x, rfl, rfl, hys⟩ ⟨hxs, hrow, -⟩ Kr hKr; refine xj ?_
    simp only at hxs hrow hKr ⊢
    have hn : xs.length ≤ 14 := by rw [hxs, List.length_map]; exact Nat.le_trans (List.length_filter_le _ _) (by omega)
    refine Ko 3 rfl ?_; refine hKr _ _ ?_; refine JA ?_; clear hKr; refine Jq 3 rfl ?_; refine LR rfl (Jd rfl (J2 (k := 2) rfl) rfl rfl) ?_; refine LR rfl (Jd rfl (J2 (k := 1) rfl) rfl rfl) ?_; refine QL rfl (Jn rfl rfl rfl (enters_of Tryz.func105 (by kernel_rfl) rfl) (yB ..) (JK 2 rfl ?_)); refine cD (fun g => ?_) fun g => ?_
    · refine Xs 3 [0] rfl rfl ?_; refine JM (vs := [_]) (zs := [_]) (r := [_]) rfl rfl rfl rfl rfl rfl rfl rfl rfl (by show (madeCells #[_] _).toList = _; rw [QW]; exact rfl) rfl fun r4 => ?_; refine KI (L0 := [_, _]) (xs := xs) (row := row) (n := xs.length) (sz := 1) (b := 8) (news := [_]) (List.perm_append_comm (l₁ := [_, _])) rfl rfl rfl rfl (kn 0 rfl) rfl rfl rfl rfl rfl (by decide) rfl rfl rfl (by decide) hrow (by omega) (by omega) fun ra cap sp hra => ?_
      refine LT 2 rfl rfl ?_; refine Jw 2 rfl ?_
      by_cases hlx : okL f k x = true
      · first
        | (refine KZ [2, 0] (L' := [_, _]) (by decide) rfl ?_
           refine Ki (xs ++ [.int .i64 x], some (ra, cap, sp)) ⟨?_, ?_, ?_⟩ ?_
           simp [hxs, List.filter_append, hlx]
           simpa using hra
           simp; omega
           simp [JE, JP])
        | (exfalso; unfold okL at hlx; simp_all; done)
      · first
        | (refine Ki (xs, row) ⟨?_, hrow, ?_⟩ rfl
           simp [hxs, List.filter_append, hlx]
           simp; omega)
        | (exfalso; unfold okL at hlx; simp_all; done)
    · refine Ko 2 rfl ?_
      by_cases hlx : okL f k x = true
      · first
        | (refine KZ [2, 0] (L' := [_, _]) (by decide) rfl ?_
           refine Ki (xs ++ [.int .i64 x], some (ra, cap, sp)) ⟨?_, ?_, ?_⟩ ?_
           simp [hxs, List.filter_append, hlx]
           simpa using hra
           simp; omega
           simp [JE, JP])
        | (exfalso; unfold okL at hlx; simp_all; done)
      · first
        | (refine Ki (xs, row) ⟨?_, hrow, ?_⟩ rfl
           simp [hxs, List.filter_append, hlx]
           simp; omega)
        | (exfalso; unfold okL at hlx; simp_all; done)
  rintro D ys ⟨xs, row⟩ hfi ⟨hxs, hrow, hlen⟩
  simp only at hxs hrow ⊢; subst hxs; rw [List.length_map] at hrow ⊢
  have hn : (ys.filter (okL f k)).length ≤ 14 := Nat.le_trans (List.length_filter_le _ _) hlen
  have hv : Wx f k = Yf (ys.filter (okL f k)) := (jc (hfi.filter _)).symm
  refine gqo 4 rfl ?_; refine LR rfl (Jd rfl (kn 1 rfl) rfl rfl) ?_; refine Jge (L0 := (D, _) :: (r3, _) :: [_, _, _]) rfl ((List.perm_append_comm_assoc [_, _] _ _)) rfl rfl rfl rfl hrow (by omega) ?_; refine Goq 9 [1] rfl rfl ?_; refine Kw (k := 0) rfl rfl ?_; refine pT rfl rfl rfl fun w1 hs1 => ?_
  generalize Wx f k = vl at hv ⊢
  subst hv
  have hle : (Yf (ys.filter (okL f k))).length = (ys.filter (okL f k)).length := by unfold Yf; rw [List.length_mergeSort]
  exact ⟨⟨row, by rw [hle]; exact hrow.same (by simp [hle])⟩, by simp [JB, hle], hs1.weakL (List.sublist_append_right [_, _, _, _, _] _)⟩
  · exact fun _ _ _ h => h.elim
def okR (f k v : Int) : Bool := (qG k v).2.2 && decide ((qG k v).1 ≤ f) && decide (f ≤ (qG k v).2.1)
def Jq7 (l : List Int) : Value := if l = [] then .tuple #[.int .i64 0, .int .i64 10] else .tuple #[.int .i64 (l.getD (l.length - 1) 0), .int .i64 0]
theorem Jls {l : List Int} (h : ¬ ((l.length : Nat) : Int) = 0) : (l.map (Value.int .i64))[l.length - 1]? = some (.int .i64 (l.getD (l.length - 1) 0)) := by
 have : l.length - 1 < l.length := by omega
 simp [this, List.getD_eq_getElem?_getD]
theorem Jlt (f k : Int) : (Wx f k).length ≤ 14 := by
 unfold Wx Yf
 rw [List.length_mergeSort]; exact Nat.le_trans (List.length_filter_le _ _) (wW k tableKV)
theorem wY (f k : Int) : Pure Tryz.prog 21 [.int .i64 f, .int .i64 k].toArray (Jq7 (Wx f k)) := by
  refine Jm Tryz.func21 rfl rfl fun w => ?_; refine JA ?_
  have hlen := Jlt f k
  refine Jq 10 rfl ?_; refine JQ rfl rfl rfl (enters_of Tryz.func48 (by kernel_rfl) rfl) (ql f k) fun x1 => ?_
  rcases x1 with ⟨_ | ⟨ra, cap, sp⟩, hrow⟩
  all_goals first | change HL _ _ ((_, .slice none 0 0) :: _) [] _ _ _ _ | change HL _ _ ((_, .slice (some ⟨ra, 0, none⟩) (Wx f k).length cap) :: _) [(ra, .cells ((Wx f k).map (Value.int .i64) ++ sp).toArray 3 (0, 0))] _ _ _ _
  all_goals (
   refine Jw 2 rfl (gqo 5 rfl ?_); refine LR rfl (JU rfl rfl) ?_; refine JK 3 rfl ?_; refine Jz rfl (fun g => ?_) (fun g => ?_)
   · try simp only [ZZ] at g
     refine Ko 8 rfl ?_; refine Jg rfl rfl (.cons (Jl rfl) (.cons (Jl rfl) .nil)) (fun w1 hs1 => ?_); refine ⟨?_, hs1.keep⟩
     (have h0 : Wx f k = [] := by first | exact List.eq_nil_of_length_eq_zero hrow.1 | exact List.eq_nil_of_length_eq_zero (by omega)
      simp [JB, Jq7, h0]; done)
   · try exact Bool.noConfusion g
     all_goals try simp only [ZZ] at g
     all_goals (
      refine Jq 6 rfl ?_; refine LR rfl (JU rfl rfl) ?_; refine VQ rfl (Jc (by omega) (by omega) (LR rfl (JI (j := (Wx f k).length - 1) (m := 1) (off' := (Wx f k).length - 1) rfl rfl rfl rfl (by omega) (by omega) (by omega)) ?_)); refine LR rfl (Jd rfl (kn 0 rfl) rfl (jb (Jls (by assumption)))) ?_; refine Jw 5 rfl ?_; refine Jg rfl rfl (.cons (Jl rfl) (.cons (Jl rfl) .nil)) (fun w1 hs1 => ?_); refine ⟨?_, hs1.keep⟩
      (have h0 : Wx f k ≠ [] := fun h => by simp_all
       simp [JB, Jq7, h0])
      skip)
   skip)
def qI (k : Int) : List Int := if k = 1 then [0, 1, 2, 4, 126] else if k = 2 then [0, 1, 2] else if k = 3 then [0, 1] else if k = 4 then [0, 2] else if k = 5 then [0, 1] else []
def vl (f k : Int) : List Int := (qI k).filter (okR f k)
theorem Jgf (f k v : Int) : okL f k v = okR f k v := by
 unfold okL okR loI hiI okI
 cases h : (qG k v).2.2 <;> simp
theorem Jlu (k : Int) : (Wg k tableKV).Perm (qI k) := by
 by_cases h1 : k = 1
 ·subst h1; decide
 by_cases h2 : k = 2
 ·subst h2; decide
 by_cases h3 : k = 3
 ·subst h3; decide
 by_cases h4 : k = 4
 ·subst h4; decide
 by_cases h5 : k = 5
 ·subst h5; decide
 have e1 : qI k = [] := by simp [qI, h1, h2, h3, h4, h5]
 have e2 : Wg k tableKV = [] := by
  have a1 : (1 == k) = false := by simpa using Ne.symm h1
  have a2 : (2 == k) = false := by simpa using Ne.symm h2
  have a3 : (3 == k) = false := by simpa using Ne.symm h3
  have a4 : (4 == k) = false := by simpa using Ne.symm h4
  have a5 : (5 == k) = false := by simpa using Ne.symm h5
  have hp : ∀ a b, Jyn (KG a b) = a := fun _ _ => rfl
  simp [Wg, tableKV, hp, Ne.symm h1, Ne.symm h2, Ne.symm h3, Ne.symm h4, Ne.symm h5]
 rw [e1, e2]
theorem Jd7 (k : Int) : (qI k).Pairwise (fun x y => x < y) := by
 unfold qI
 split
 ·decide
 split
 ·decide
 split
 ·decide
 split
 ·decide
 split
 ·decide
 exact List.Pairwise.nil
theorem Jq8 (f k : Int) : Wx f k = vl f k := by
 have h1 : (fun v => okL f k v) = okR f k := funext (Jgf f k)
 unfold Wx vl
 rw [show okL f k = okR f k from h1]; rw [show Yf ((Wg k tableKV).filter (okR f k)) = Yf ((qI k).filter (okR f k)) from jc ((Jlu k).filter _)]
 unfold Yf
 exact List.mergeSort_of_pairwise (((Jd7 k).filter _).imp fun h => by simpa using Int.le_of_lt h)
def Jjm (l : List Int) : Int := l.getD (l.length - 1) 0
def Jq9 (l : List Int) : Int := if l = [] then 10 else 0
def Jyp (l : List Int) : Value := .tuple #[.int .i64 (Jjm l), .int .i64 (Jq9 l)]
theorem Jvn (l : List Int) : Jq7 l = Jyp l := by
 unfold Jq7 Jyp Jjm Jq9
 by_cases h : l = [] <;> simp [h]
theorem J0q (f k : Int) : Pure Tryz.prog 21 [.int .i64 f, .int .i64 k].toArray (Jyp (vl f k)) := by
 have := wY f k
 rwa [Jq8, Jvn] at this
theorem Jyq {f k v : Int} (h : okI k v = true) : okR f k v = (decide (loI k v ≤ f) && decide (f ≤ hiI k v)) := by
 rw [← Jgf]; unfold okL; rw [h]; simp
theorem Jyr {f k v : Int} (h : okI k v = false) : okR f k v = false := by
 rw [← Jgf]; unfold okL; rw [h]; simp
theorem Jay {f k v : Int} : okR f k v = true ↔ okI k v = true ∧ loI k v ≤ f ∧ f ≤ hiI k v := by
 cases h : okI k v with
 | true => rw [Jyq h]; simp
 | false => rw [Jyr h]; simp
theorem grow {a b c k v : Int} (h1 : a ≤ b) (h2 : b ≤ c) (ha : okR a k v = true) (hc : okR c k v = true) : okR b k v = true := by
 obtain ⟨a1, a2, a3⟩ := Jay.1 ha
 obtain ⟨c1, c2, c3⟩ := Jay.1 hc
 exact Jay.2 ⟨a1, by omega, by omega⟩
def sV (s : List UInt8) : Value := .string (bs s)
def pV (p : List (List UInt8)) : Value := .agg (p.map sV).toArray
theorem Jd8 {p : List (List UInt8)} {j : Nat} (h : j < p.length) : (p.map sV)[j]? = some (.string (bs (p.getD j []))) := by
 simp [h, sV, List.getD_eq_getElem?_getD]
def Jd9 (p : List (List UInt8)) : Bool := p.all fun x => decide (x.length = 32)
def zC (v : Int) : List UInt8 := YX [v.toNat, 0, 0, 0] 32
def Jea (v : Int) (n : Nat) : List UInt8 := if v = 1 then jf n 8 else []
def Wy (v : Int) (p : List (List UInt8)) (n : Nat) : List UInt8 × Int :=
 if v ≠ 0 ∧ v ≠ 1 then ([], 9) else if Jd9 p = false ∨ (v = 0 ∧ n ≠ 0) then ([], 2) else (zC v ++ p.flatten ++ Jea v n, 0)
theorem Jys {v : Int} {p : List (List UInt8)} {n : Nat} (h0 : ¬ v = 0) (h1 : ¬ v = 1) : Wy v p n = ([], 9) := by unfold Wy; rw [if_pos ⟨h0, h1⟩]
theorem Jvo {v : Int} {p : List (List UInt8)} {n i : Nat} (h : v = 0 ∨ v = 1) (hi : i < p.length) (hl : ¬ (p.getD i []).length = 32) : Wy v p n = ([], 2) := by
 have ha : Jd9 p = false := by
  rw [Bool.eq_false_iff]; intro h2
  have := List.all_eq_true.1 h2 (p.getD i []) (by simp [List.getD_eq_getElem?_getD, hi])
  exact hl (of_decide_eq_true this)
 unfold Wy; rw [if_neg (by omega), if_pos (.inl ha)]
theorem Jvp {v : Int} {p : List (List UInt8)} {n : Nat} (h : v = 0) (hn : ¬ n = 0) : Wy v p n = ([], 2) := by
 unfold Wy; rw [if_neg (by omega), if_pos (.inr ⟨h, hn⟩)]
theorem Jra {p : List (List UInt8)} (h : ∀ j, j < p.length → (p.getD j []).length = 32) : Jd9 p = true := by
 refine List.all_eq_true.2 fun x hx => ?_
 obtain ⟨j, hj, rfl⟩ := List.getElem_of_mem hx
 have := h j hj
 rw [List.getD_eq_getElem?_getD, List.getElem?_eq_getElem hj] at this; exact decide_eq_true this
theorem Jjn {v : Int} {p : List (List UInt8)} {n : Nat} (h : v = 0 ∨ v = 1) (ha : ∀ j, j < p.length → (p.getD j []).length = 32) (hn : v = 0 → n = 0) : Wy v p n = (zC v ++ p.flatten ++ Jea v n, 0) := by
 unfold Wy; rw [if_neg (by omega), if_neg (by rw [Jra ha]; rintro (h2 | ⟨h2, h3⟩); cases h2; exact h3 (hn h2))]
theorem Zq {p : List (List UInt8)} : ∀ i, i ≤ p.length → (∀ j, j < i → (p.getD j []).length = 32) → (p.take i).flatten.length = 32 * i
 | 0, _, _ => by simp
 | i + 1, hi, h => by
  rw [List.take_succ, List.getElem?_eq_getElem (by omega), List.flatten_append, List.length_append, Zq i (by omega) fun j hj => h j (by omega)]
  have := h i (by omega)
  rw [List.getD_eq_getElem?_getD, List.getElem?_eq_getElem (by omega)] at this; simp at this ⊢; omega
theorem Jlv {p : List (List UInt8)} {i : Nat} (hi : i < p.length) : (p.take (i + 1)).flatten = (p.take i).flatten ++ p.getD i [] := by
 rw [List.take_succ, List.getElem?_eq_getElem hi, List.flatten_append, List.getD_eq_getElem?_getD, List.getElem?_eq_getElem hi]; simp
theorem J10 {n : Nat} (hn : n < 18446744073709551616) : yw n 8 = (jf n 8, 0) := by
 unfold yw; rw [if_neg (by have := Jt8 hn; omega)]; rfl
theorem zD (v : Int) : (zC v).length = 32 := Vz _ _
theorem Jlw {p : List (List UInt8)} (hp : p.length = 3) {n : Nat} (hn : n < 18446744073709551616) (v : Int) : Pure Tryz.prog 49 [.int .i64 v, pV p, uV n].toArray (Zs (Wy v p n)) := by
  refine Jm Tryz.func49 rfl rfl fun w => ?_; refine JA ?_
  have hhl := zD v
  refine Jq 2 rfl ?_; refine Kh (cs := (p.map sV).toArray) rfl rfl rfl rfl fun r1 => ?_; refine JG 10 rfl ?_
  refine J8 14 rfl (fun gb => ?_) (fun gb => ?_) <;> (try simp only [ZZ] at gb) <;> first | (refine QL rfl ?_) | (refine LK rfl ?_)
  all_goals (
   refine LW 2 [] rfl rfl (Jw 1 rfl (Y6 1 rfl ?_)); refine Jz rfl (fun g => ?_) (fun g => ?_)
   · try exact Bool.noConfusion g
     all_goals try simp only [ZZ] at g
     all_goals (
      refine Ko 8 rfl ?_; refine Jg rfl rfl (.cons (Jl rfl) (.cons (Jl rfl) .nil)) (fun w1 hs1 => ?_); refine ⟨?_, hs1.keep⟩; rw [Jys (by omega) (by omega)]; rfl
      skip)
   · try simp only [ZZ] at g
     refine JN 3 rfl ?_
     have hv01 : v = 0 ∨ v = 1 := by omega
     refine Jq 3 rfl ?_; refine J3 (show _ = uV v.toNat from congrArg (Value.int .u64) (by rw [wrap_u64 (by omega) (by omega)]; omega)) ?_; refine Jn rfl rfl rfl q8 (V8 v.toNat) ?_; refine Jn rfl rfl rfl xN (Qy (l := [v.toNat, 0, 0, 0]) (Jxs (by omega))) ?_; refine J3 (show _ = Value.string (bs (zC v ++ (p.take 0).flatten)) from by simp [zC]) ?_; refine JK 10 rfl ?_; refine J0 (σ := Nat) (fun i => i ≤ p.length ∧ ∀ j, j < i → (p.getD j []).length = 32) (fun i => [(0, .int .i64 v), (2, uV n), (4, .pointer (some ⟨r1, 0, none⟩)), (8, .string (bs (zC v ++ (p.take i).flatten))), (22, .int .i64 (i : Int))]) (fun i => [(r1, .cells (p.map sV).toArray 56 (0, 0))]) (fun _ _ _ => True) (fun i => 3 - i) 0 ⟨Nat.zero_le _, fun j hj => by omega⟩ (lK rfl) (List.Sublist.refl _) (fun _ _ h => h) ?_; rintro i ⟨hi, hall⟩; refine JN 6 rfl ?_; refine cD (fun g => ?_) fun g => ?_
     refine JN 12 rfl ?_
     have hfl := Zq i (by omega) hall
     refine Jq 2 rfl ?_; refine LR rfl (JH (j := i) (m := 1) (off' := i) rfl rfl rfl rfl (by omega) (by omega) (by omega)) ?_; refine LR rfl (KC rfl (kn 0 rfl) rfl (Jd8 (by omega))) ?_; refine LR rfl (Qh rfl rfl) ?_; refine JK 3 rfl ?_; refine cD (fun g => ?_) fun g => ?_
     refine Ko 13 rfl ?_; refine Jg rfl rfl (.cons (Jl rfl) (.cons (Jl rfl) .nil)) (fun w1 hs1 => ?_); refine ⟨?_, hs1.keep⟩; rw [Jvo (i := i) hv01 (by omega) (by omega)]; rfl
     refine Jq 5 rfl ?_; refine LR rfl (JH (j := i) (m := 1) (off' := i) rfl rfl rfl rfl (by omega) (by omega) (by omega)) ?_; refine LR rfl (KC rfl (kn 0 rfl) rfl (Jd8 (by omega))) ?_; refine LR rfl (QA rfl rfl (by simp only [List.length_append]; omega)) ?_; refine JG 6 rfl ?_; refine Jc (by omega) (by omega) ?_; refine Jw 2 rfl ?_; refine Jx ?_
     exact Jt (i + 1) ⟨by omega, fun j hj => by
       by_cases hji : j = i
       subst hji; omega
       exact hall j (by omega)⟩ (by omega) (.cons rfl (.cons rfl (.cons rfl (.cons (by rw [Jlv (by omega), ← List.append_assoc]; rfl) (.cons rfl .nil))))) (List.Sublist.refl _) (fun _ _ h => h)
     · refine JN 7 rfl ?_
       have hi3 : i = p.length := by omega
       subst hi3
       have hfl := Zq p.length (Nat.le_refl _) hall
       rw [List.take_length] at hfl ⊢; rw [hp] at hfl; refine Jq 4 rfl ?_
       refine J8 38 rfl (fun gb => ?_) (fun gb => ?_) <;> (try simp only [ZZ] at gb) <;> first | (refine QL rfl ?_) | (refine LK rfl ?_)
       all_goals (
        refine LW 2 [] rfl rfl (Jw 1 rfl (Y6 1 rfl ?_)); refine Jz rfl (fun g => ?_) (fun g => ?_)
        · try exact Bool.noConfusion g
          all_goals try simp only [ZZ] at g
          all_goals (
           refine Ko 8 rfl ?_; refine Jg rfl rfl (.cons (Jl rfl) (.cons (Jl rfl) .nil)) (fun w1 hs1 => ?_); refine ⟨?_, hs1.keep⟩; rw [Jvp (by omega) (by omega)]; rfl
           skip)
        try simp only [ZZ] at g
        refine JN 9 rfl ?_; refine cD (fun g => ?_) fun g => ?_
        refine Jq 3 rfl ?_; refine Jn rfl rfl rfl Jto (j0 hn 8) ?_; refine J3 (congrArg Zs (J10 hn)) ?_; refine JG 10 rfl ?_; refine LR rfl (QA rfl rfl (by simp only [List.length_append, Vk]; omega)) ?_; refine Jw 11 rfl ?_; refine Jg rfl rfl (.cons (Jl rfl) (.cons (Jl rfl) .nil)) (fun w1 hs1 => ?_); refine ⟨?_, hs1.keep⟩
        rw [Jjn hv01 hall (by omega)]; simp only [Jea]; first | (rw [if_pos (by omega)]; rfl) | (rw [if_neg (by omega), List.append_nil]; rfl)
        refine Ko 10 rfl ?_; refine Jg rfl rfl (.cons (Jl rfl) (.cons (Jl rfl) .nil)) (fun w1 hs1 => ?_); refine ⟨?_, hs1.keep⟩
        rw [Jjn hv01 hall (by omega)]; simp only [Jea]; first | (rw [if_pos (by omega)]; rfl) | (rw [if_neg (by omega), List.append_nil]; rfl)
        skip)
   skip)
def Xp (v : Int) (p : List (List UInt8)) (n : Nat) : List UInt8 × Int := if (Wy v p n).2 = 0 then (Wz (Wy v p n).1, 0) else ([], (Wy v p n).2)
theorem Jrb {v : Int} {p : List (List UInt8)} (hp : p.length = 3) (n : Nat) : (Wy v p n).1.length ≤ 136 := by
 unfold Wy
 split
 ·simp
 ·split
  ·simp
  ·rename_i h1 h2
   have ha : ∀ j, j < p.length → (p.getD j []).length = 32 := fun j hj => by
    have h3 : Jd9 p = true := by
     cases h : Jd9 p with
     | true => rfl
     | false => exact absurd (.inl h) h2
    exact of_decide_eq_true (List.all_eq_true.1 h3 (p.getD j []) (by simp [List.getD_eq_getElem?_getD, hj]))
   have hf := Zq p.length (Nat.le_refl _) ha
   rw [List.take_length] at hf; simp only [List.length_append, zD, hf, hp, Jea]
   split <;> simp [Vk]
theorem Yy {p : List (List UInt8)} (hp : p.length = 3) {n : Nat} (hn : n < 18446744073709551616) (v : Int) : Pure Tryz.prog 22 [.int .i64 v, pV p, uV n].toArray (Zs (Xp v p n)) := by
 refine Jm Tryz.func22 rfl rfl fun w => ?_; refine JA ?_
 have hpl := Jrb (v := v) hp n
 refine Jq 2 rfl ?_; refine Kh (cs := (p.map sV).toArray) rfl rfl rfl rfl fun r1 => ?_; refine JG 7 rfl ?_; refine LR rfl (Jh (xs := p.map sV) (n := 3) rfl (kn 0 rfl) rfl rfl (by rw [List.length_map, hp])) ?_; refine QL rfl (Jn rfl rfl rfl (enters_of Tryz.func49 (by kernel_rfl) rfl) (Jlw hp hn v) (JK 14 rfl ?_)); refine cD (fun g => ?_) fun g => ?_
 refine Ko 9 rfl ?_; refine Jg rfl rfl (.cons (Jl rfl) (.cons (Jl rfl) .nil)) (fun w1 hs1 => ?_); refine ⟨?_, hs1.keep⟩; rw [show Xp v p n = ([], (Wy v p n).2) from by unfold Xp; rw [if_neg (by assumption)]]; rfl
 ·refine Jq 5 rfl ?_; refine Jn rfl rfl rfl Jfo (wo (by omega)) ?_; refine Jw 5 rfl ?_; refine Jg rfl rfl (.cons (Jl rfl) (.cons (Jl rfl) .nil)) (fun w1 hs1 => ?_); refine ⟨?_, hs1.keep⟩; rw [show Xp v p n = (Wz (Wy v p n).1, 0) from by unfold Xp; rw [if_pos (by assumption)]]; rfl
def jF : List Nat → Bool
 | x :: y :: l => decide (x ≤ y) && jF (y :: l)
 | _ => true
theorem Jjo : ∀ {l : List Nat} {i x y : Nat}, l[i]? = some x → l[i + 1]? = some y → y < x → jF l = false
 | [], i, x, y, h, _, _ => by simp at h
 | [a], i, x, y, _, h, _ => by simp at h
 | a :: b :: l, 0, x, y, h1, h2, h => by
  simp only [List.getElem?_cons_zero, List.getElem?_cons_succ, Nat.zero_add, Option.some.injEq] at h1 h2; subst h1 h2
  unfold jF
  rw [decide_eq_false (by omega)]; rfl
 | a :: b :: l, i + 1, x, y, h1, h2, h => by
  rw [List.getElem?_cons_succ] at h1 h2
  unfold jF
  rw [Jjo h1 h2 h, Bool.and_false]
theorem Jeb : ∀ {l : List Nat}, (∀ i x y, l[i]? = some x → l[i + 1]? = some y → x ≤ y) → jF l = true
 | [], _ => rfl
 | [a], _ => rfl
 | a :: b :: l, h => by
  unfold jF
  rw [decide_eq_true (h 0 a b rfl rfl), Jeb fun i x y h1 h2 => h (i + 1) x y (by rw [List.getElem?_cons_succ]; exact h1) (by rw [List.getElem?_cons_succ]; exact h2)]; rfl
theorem Jaz : ∀ {l : List Nat}, jF l = true → ∀ {i j x y : Nat}, i ≤ j → l[i]? = some x → l[j]? = some y → x ≤ y
 | [], _, i, j, x, y, _, h, _ => by simp at h
 | [a], _, i, j, x, y, hij, h1, h2 => by
  cases i with
  | zero => cases j with
   | zero => rw [h1] at h2; cases h2; exact Nat.le_refl _
   | succ j => simp at h2
  | succ i => simp at h1
 | a :: b :: l, h, i, j, x, y, hij, h1, h2 => by
  unfold jF at h
  obtain ⟨ha, hr⟩ := Bool.and_eq_true_iff.1 h
  have ha := of_decide_eq_true ha
  cases j with
  | zero =>
   obtain rfl : i = 0 := by omega
   rw [h1] at h2; cases h2; exact Nat.le_refl _
  | succ j =>
   rw [List.getElem?_cons_succ] at h2
   cases i with
   | zero =>
    simp only [List.getElem?_cons_zero, Option.some.injEq] at h1; subst h1; exact Nat.le_trans ha (Jaz hr (Nat.zero_le _) (i := 0) rfl h2)
   | succ i => rw [List.getElem?_cons_succ] at h1; exact Jaz hr (by omega) h1 h2
def jG (t : Nat) : List Nat → Nat
 | x :: l => if x ≤ t then jG t l + 1 else 0
 | [] => 0
theorem Ja0 (t : Nat) : ∀ l : List Nat, jG t l ≤ l.length
 | [] => Nat.le_refl _
 | x :: l => by
  have := Ja0 t l
  unfold jG
  split <;> simp only [List.length_cons] <;> omega
theorem Jjp {t : Nat} : ∀ {l : List Nat} {i x : Nat}, i < jG t l → l[i]? = some x → x ≤ t
 | [], i, x, h, _ => by unfold jG at h; omega
 | a :: l, i, x, h, hx => by
  unfold jG at h
  split at h
  ·cases i with
   | zero => simp only [List.getElem?_cons_zero, Option.some.injEq] at hx; subst hx; assumption
   | succ i => rw [List.getElem?_cons_succ] at hx; exact Jjp (by omega) hx
  ·omega
theorem Jjq {t : Nat} : ∀ {l : List Nat} {x : Nat}, l[jG t l]? = some x → t < x
 | [], x, h => by simp at h
 | a :: l, x, h => by
  unfold jG at h
  split at h
  ·rw [List.getElem?_cons_succ] at h; exact Jjq h
  ·simp only [List.getElem?_cons_zero, Option.some.injEq] at h; subst h; omega
theorem Jrc {t : Nat} {l : List Nat} (hr : jF l = true) {i x : Nat} (hx : l[i]? = some x) : decide (t < x) = decide (jG t l ≤ i) := by
 by_cases h : jG t l ≤ i
 ·have hl := (List.getElem?_eq_some_iff.1 hx).1
  obtain ⟨y, hy⟩ : ∃ y, l[jG t l]? = some y := ⟨_, List.getElem?_eq_getElem (by omega)⟩
  have h1 := Jjq hy
  have h2 := Jaz hr h hy hx
  rw [decide_eq_true h, decide_eq_true (by omega)]
 ·have := Jjp (t := t) (l := l) (i := i) (by omega) hx
  rw [decide_eq_false h, decide_eq_false (by omega)]
def Jgg (ts : List Nat) : Int := if ts.length < 1 ∨ ts.length > 6 then 2 else if jF ts = false then 11 else 0
def QT (ts : List Nat) (t : Nat) : Int × Int := if Jgg ts ≠ 0 then (0, Jgg ts) else if jG t ts = 0 then (0, 10) else ((jG t ts : Int) - 1, 0)
def J0r (n : Nat) (p : Pl) : Value := .agg #[KL n p]
abbrev unC (ts : List Nat) : List Value := ts.map uV
theorem Ja1 {ts : List Nat} {i x : Nat} (h : ts[i]? = some x) : (unC ts)[i]? = some (uV x) := by rw [List.getElem?_map, h]; rfl
theorem Jyt {ts : List Nat} {i : Nat} (h : i < ts.length) : ∃ x, ts[i]? = some x ∧ x ∈ ts := ⟨ts[i], List.getElem?_eq_getElem h, List.getElem_mem h⟩
theorem Jrd (a : Nat) : Pure Tryz.prog 318 [uV a].toArray (.bool false) := by
 refine Jm Tryz.func318 rfl rfl fun w => ?_; refine JA ?_; refine Ko 14 rfl ?_; refine pT rfl rfl rfl fun w1 hs1 => ?_; refine ⟨?_, hs1.keep⟩
 simp [JB]
theorem Jvq (a b : Nat) : Pure Tryz.prog 247 [uV a, uV b].toArray (.bool (decide (a < b))) := by
 refine Jm Tryz.func247 rfl rfl fun w => ?_; refine JA ?_; refine Jq 8 rfl ?_; refine Jn rfl rfl rfl (enters_of Tryz.func318 (by kernel_rfl) rfl) (Jrd _) ?_; refine Jw 14 rfl ?_; refine pT rfl rfl rfl fun w1 hs1 => ?_; refine ⟨?_, hs1.keep⟩
 simp_all [JB]
theorem Jgh {R : Ji} {ts : List Nat} {p : Pl} (hl : ts.length ≤ 9223372036854775807) (h1 : 1 ≤ ts.length) (hs : Seg R ts.length (unC ts) p) : PureR Tryz.prog 193 [KL ts.length p].toArray (.bool (jF ts)) R := by
 refine Ja Tryz.func193 rfl rfl fun w => ?_; refine JA ?_; refine Jq 9 rfl ?_; refine LR rfl (J1 rfl hs rfl) ?_; refine VQ rfl (Jc (by omega) (by omega) ?_); refine J3 (show _ = Value.int .i64 ((ts.length - 1 : Nat) : Int) from by rw [Int.ofNat_sub h1]; rfl) ?_; refine JK 4 rfl ?_; refine J0 (σ := Nat) (fun j => j < ts.length ∧ ∀ i x y, j ≤ i → ts[i]? = some x → ts[i + 1]? = some y → x ≤ y) (fun j => [(0, KL ts.length p), (3, .int .i64 (j : Int))]) (fun _ => []) (fun _ _ _ => True) (fun j => j) (ts.length - 1) ⟨by omega, fun i x y hi _ hy => absurd (List.getElem?_eq_some_iff.1 hy).1 (by omega)⟩ (lK rfl) (List.nil_sublist _) (fun _ _ h => h) ?_; rintro j ⟨hj1, hinv⟩; refine JN 7 rfl ?_; refine cD (fun g => ?_) fun g => ?_
 refine JN 5 rfl ?_
 obtain ⟨i, rfl⟩ : ∃ i, j = i + 1 := ⟨j - 1, by omega⟩
 obtain ⟨x, hx, hmx⟩ := Jyt (show i < ts.length by omega)
 obtain ⟨y, hy, hmy⟩ := Jyt (show i + 1 < ts.length by omega)
 refine JD 10 (by kernel_rfl) (by kernel_rfl) ?_; refine Jb rfl rfl rfl (Jf rfl) ?_; refine Jb rfl rfl rfl (Jf rfl) ?_
 refine Jb rfl rfl rfl (Jp (j := (i + 1)) rfl hs rfl rfl rfl (by first | rfl | omega) (by omega)) ?_; refine Jb rfl rfl rfl (VX oR rfl hs (by omega) rfl (Ja1 hy)) ?_; refine Jb rfl rfl rfl (Jf rfl) ?_; refine Jb rfl rfl rfl (Jf rfl) ?_; refine Jb rfl rfl rfl (Jv rfl rfl rfl) ?_; refine QD (by omega) (by omega) ?_
 refine Jb rfl rfl rfl (Jp (j := i) rfl hs rfl rfl rfl (by first | rfl | omega) (by omega)) ?_; refine Jb rfl rfl rfl (VX oR rfl hs (by omega) rfl (Ja1 hx)) ?_; refine Kl rfl rfl rfl (enters_of Tryz.func247 (by kernel_rfl) rfl) (Jvq _ _) ?_; refine JS ?_; refine JK 2 rfl ?_; refine cD (fun g => ?_) fun g => ?_
 refine Ko 11 rfl ?_; refine pT rfl rfl rfl fun w1 hs1 => ?_; refine ⟨?_, hs1.keep⟩; rw [Jjo hx hy (by simp_all)]; rfl
 refine Jq 6 rfl ?_; refine Jc (by omega) (by omega) ?_; refine J3 (show _ = Value.int .i64 (i : Int) from by congr 1; omega) ?_; refine Jw 2 rfl ?_; refine Jx ?_
 exact Jt i ⟨by omega, fun q u v hq hu hv => by
  rcases Nat.eq_or_lt_of_le hq with rfl | hq
  rw [hx] at hu; rw [hy] at hv; cases hu; cases hv; simp_all
  exact hinv q u v (by omega) hu hv⟩ (by omega) (lK rfl) (List.nil_sublist _) (fun _ _ h => h)
 ·refine Ko 11 rfl ?_; refine pT rfl rfl rfl fun w1 hs1 => ?_; refine ⟨?_, hs1.keep⟩; rw [Jeb fun i x y hx hy => hinv i x y (by omega) hx hy]; rfl
theorem Jlx {R : Ji} {ts : List Nat} {p : Pl} (hl : ts.length ≤ 9223372036854775807) (hs : Seg R ts.length (unC ts) p) : PureR Tryz.prog 120 [J0r ts.length p].toArray (.int .i64 (Jgg ts)) R := by
  have hE : Jgg ts = if decide ((ts.length : Int) < 1) = true ∨ (ts.length : Int) > 6 then 2 else if jF ts = false then 11 else 0 := by
    unfold Jgg
    exact ite_congr (propext (by rw [decide_eq_true_eq]; omega)) (fun _ => rfl) (fun _ => rfl)
  refine Ja Tryz.func120 rfl rfl fun w => ?_; refine JA ?_; refine Jq 2 rfl ?_; refine LN rfl fun r1 => ?_; refine Xa 9 [0] rfl rfl ?_; refine LR rfl (J1 rfl hs rfl) ?_; refine LS 2 [] rfl rfl ?_
  refine J8 8 rfl (fun gb => ?_) (fun gb => ?_) <;> (try simp only [ZZ] at gb) <;> first | (refine LR rfl (J9 rfl rfl rfl) ?_) | (refine LK rfl ?_)
  all_goals refine LW 1 [0] rfl rfl ?_
  all_goals first | refine LR rfl (J1 rfl hs rfl) ?_ | refine LK rfl ?_
  all_goals (
   refine LW 3 [] rfl rfl (Jw 1 rfl (Y6 1 rfl ?_)); refine Jz rfl (fun g => ?_) (fun g => ?_)
   try simp only [ZZ] at g
   refine Ko 8 rfl ?_; refine pT rfl rfl rfl fun w1 hs1 => ?_; refine ⟨?_, hs1.keep⟩; rw [hE]; simp only [JB]
   simp_all
   · try exact Bool.noConfusion g
     all_goals try simp only [ZZ] at g
     all_goals (
      refine Xs 4 [0] rfl rfl ?_; refine Je rfl rfl rfl (enters_of Tryz.func193 (by kernel_rfl) rfl) (Jgh hl (by omega) hs) oR ?_; refine JK 4 rfl ?_; refine cD (fun g => ?_) fun g => ?_
      refine Ko 8 rfl ?_; refine pT rfl rfl rfl fun w1 hs1 => ?_; refine ⟨?_, hs1.keep⟩; rw [hE]; simp only [JB]
      simp_all
      refine Ko 9 rfl ?_; refine pT rfl rfl rfl fun w1 hs1 => ?_; refine ⟨?_, hs1.keep⟩; rw [hE]; simp only [JB]
      simp_all
      skip)
   skip)
theorem Jre {R : Ji} {n k : Nat} (hn : n ≤ 1000) (hk : k ≤ n) {g : FuncId} {caps : List Value} (eg : Enters Tryz.prog g) (hg : ∀ i, i < n → PureR Tryz.prog g (.int .i64 (i : Int) :: caps).toArray (.bool (decide (k ≤ i))) R) :
  PureR Tryz.prog 121 [.int .i64 (n : Int), .func (.func g) #[] caps.toArray].toArray (.int .i64 (k : Int)) R := by
 refine Ja Tryz.func121 rfl rfl fun w => ?_; refine JA ?_; refine JN 14 rfl ?_; refine J0 (σ := Nat × Nat) (fun s => s.1 ≤ k ∧ k ≤ s.2 ∧ s.2 ≤ n) (fun s => [(1, .func (.func g) #[] caps.toArray), (5, .int .i64 (s.1 : Int)), (6, .int .i64 (s.2 : Int))]) (fun _ => []) (fun _ _ _ => True) (fun s => s.2 - s.1) (0, n) ⟨Nat.zero_le _, hk, Nat.le_refl _⟩ (lK rfl) (List.nil_sublist _) (fun _ _ h => h) ?_; rintro ⟨i, j⟩ ⟨hi0, hj0, hj1⟩; simp only at hi0 hj0 hj1; change HC _ _ [(1, _), (5, .int .i64 (i : Int)), (6, .int .i64 (j : Int))] _ _ _ _; refine JN 8 rfl ?_; refine cD (fun h6 => ?_) fun h6 => ?_
 refine Jq 8 rfl ?_; refine Jc (by omega) (by omega) ?_; refine VQ rfl (Wn (by omega) (by omega) (J3 (show _ = Value.int .u64 ((i + j : Nat) : Int) from by rw [Int.natCast_add]) ?_)); refine LR rfl (vE (n := 1) (b := (((i + j) / 2 : Nat) : Int)) rfl rfl rfl (by decide) (by omega) (by omega)) ?_; refine VQ rfl (Jc (by omega) (by omega) (JG 7 rfl ?_)); refine Je rfl rfl rfl eg (hg ((i + j) / 2) (by omega)) oR ?_; refine JK 3 rfl ?_; refine cD (fun h9 => ?_) fun h9 => ?_
 refine Jq 3 rfl ?_; refine Jc (by omega) (by omega) ?_; refine Jw 3 rfl ?_; refine Jx ?_; exact Jt ((i + j) / 2 + 1, j) ⟨by simp only; simp at *; omega, hj0, hj1⟩ (by simp only; omega) (lK rfl) (List.nil_sublist _) (fun _ _ h => h)
 refine Ko 5 rfl ?_; refine Jx ?_; exact Jt (i, (i + j) / 2) ⟨hi0, by simp only; simp at *; omega, by simp only; omega⟩ (by simp only; omega) (lK rfl) (List.nil_sublist _) (fun _ _ h => h)
 ·refine Ko 12 rfl ?_; refine pT rfl rfl rfl fun w1 hs1 => ?_; refine ⟨?_, hs1.keep⟩; rw [show i = k by omega]; rfl
theorem Jyu {R : Ji} {ts : List Nat} {p : Pl} (hs : Seg R ts.length (unC ts) p) {rs rt es et : Nat} {t : Nat} (h1 : (rs, Obj.cells #[KL ts.length p] es (0, 0)) ∈ R) (h2 : (rt, Obj.cells #[uV t] et (0, 0)) ∈ R) (hr : jF ts = true) {i : Nat} (hi : i < ts.length) :
  PureR Tryz.prog 122 [.int .i64 (i : Int), .pointer (some ⟨rs, 0, none⟩), .pointer (some ⟨rt, 0, none⟩)].toArray (.bool (decide (jG t ts ≤ i))) R := by
 obtain ⟨x, hx, hmx⟩ := Jyt hi
 refine Ja Tryz.func122 rfl rfl fun w => ?_; refine JA ?_; refine JN 6 rfl ?_; refine JD 8 (by kernel_rfl) (by kernel_rfl) ?_
 refine Jb rfl rfl rfl (J9 rfl rfl rfl) ?_; refine Jb rfl rfl rfl (Jd rfl (Or.inr h1) rfl rfl) ?_; refine Jb rfl rfl rfl (Jf rfl) ?_
 refine Jb rfl rfl rfl (Jp (j := i) rfl hs rfl rfl rfl (by first | rfl | omega) (by omega)) ?_; refine Jb rfl rfl rfl (VX oR rfl hs (by omega) rfl (Ja1 hx)) ?_; refine Jb rfl rfl rfl (Jd rfl (Or.inr h2) rfl rfl) ?_; refine Jb rfl rfl rfl (Jv rfl rfl rfl) ?_; refine Jb rfl rfl rfl (J6 rfl) ?_; refine JS ?_; refine Jw 3 rfl ?_; refine pT rfl rfl rfl fun w1 hs1 => ?_; refine ⟨?_, hs1.keep⟩; rw [← Jrc hr hx]
 simp [JB]
theorem Jrf {R : Ji} {ts : List Nat} {p : Pl} (hl : ts.length ≤ 9223372036854775807) (hs : Seg R ts.length (unC ts) p) (t : Nat) : PureR Tryz.prog 71 [J0r ts.length p, uV t].toArray (.tuple #[.int .i64 (QT ts t).1, .int .i64 (QT ts t).2]) R := by
 refine Ja Tryz.func71 rfl rfl fun w => ?_; refine JA ?_; refine Jq 2 rfl ?_; refine LN rfl fun r1 => ?_; refine LN rfl fun r2 => ?_; refine JG 7 rfl ?_; refine LR rfl (Jo (vs := [_]) rfl (kn 1 rfl) rfl rfl rfl rfl) ?_; refine Je rfl rfl rfl (enters_of Tryz.func120 (by kernel_rfl) rfl) (Jlx hl hs) oR ?_; refine JK 9 rfl ?_; refine cD (fun g => ?_) fun g => ?_
 refine Ko 9 rfl ?_; refine Jg rfl rfl (.cons (Jl rfl) (.cons (Jl rfl) .nil)) (fun w1 hs1 => ?_); refine ⟨?_, hs1.keep⟩; simp only [JB, QT]
 simp_all
 ·refine JN 3 rfl ?_
  have hz : Jgg ts = 0 := by assumption
  have h6 : 1 ≤ ts.length ∧ ts.length ≤ 6 ∧ jF ts = true := by
   unfold Jgg at hz
   split at hz
   cases hz
   split at hz
   cases hz
   refine ⟨by omega, by omega, ?_⟩; simp_all
  refine Xs 3 [1] rfl rfl ?_; refine LR rfl (J1 rfl hs rfl) ?_; refine LR rfl (JC rfl rfl) ?_; refine Je (Rl := (r1, Obj.cells #[KL ts.length p] 24 (0, 0)) :: (r2, Obj.cells #[uV t] 25 (0, 0)) :: R) rfl rfl rfl (enters_of Tryz.func121 (by kernel_rfl) rfl) (Jre (caps := [.pointer (some ⟨r1, 0, none⟩), .pointer (some ⟨r2, 0, none⟩)]) (by omega) (Ja0 t ts) (enters_of Tryz.func122 (by kernel_rfl) rfl) (fun i hi => Jyu (hs.mono fun q hq => List.mem_cons_of_mem _ (List.mem_cons_of_mem _ hq)) List.mem_cons_self (List.mem_cons_of_mem _ List.mem_cons_self) h6.2.2 hi)) (fun q hq => (List.mem_cons.1 hq).elim (fun h => Or.inl (by rw [h]; simp)) fun hq => (List.mem_cons.1 hq).elim (fun h => Or.inl (by rw [h]; simp)) Or.inr) ?_; refine JK 10 rfl ?_; refine cD (fun g => ?_) fun g => ?_
  refine Ko 8 rfl ?_; refine Jg rfl rfl (.cons (Jl rfl) (.cons (Jl rfl) .nil)) (fun w1 hs1 => ?_); refine ⟨?_, hs1.keep⟩; simp only [JB, QT]
  simp_all
  ·refine JN 3 rfl ?_
   have hc6 := Ja0 t ts
   refine Jq 3 rfl ?_; refine Jc (by omega) (by omega) ?_; refine Jw 5 rfl ?_; refine Jg rfl rfl (.cons (Jl rfl) (.cons (Jl rfl) .nil)) (fun w1 hs1 => ?_); refine ⟨?_, hs1.keep⟩; simp only [JB, QT]
   simp_all
structure GenL : Type where
  ts : List Nat
  tp : Pl
  time : Nat
  rc : Rec
  accts : List AcL
  ap : Pl
def GenL.cells (g : GenL) : List Value := [KL g.ts.length g.tp, uV g.time, uV g.rc.number, uV g.rc.time, uV g.rc.base.a, uV g.rc.base.b, uV g.rc.base.c, uV g.rc.base.d, uV g.rc.blob.a, uV g.rc.blob.b, uV g.rc.blob.c, uV g.rc.blob.d, uV g.rc.overhead.a, uV g.rc.overhead.b, uV g.rc.overhead.c, uV g.rc.overhead.d, uV g.rc.scalar, uV g.rc.extra, uV g.rc.operator, KL g.accts.length g.ap]
def GenL.val (g : GenL) : Value := .agg g.cells.toArray
theorem GenL.cells_eq (g : GenL) : g.cells = [KL g.ts.length g.tp, uV g.time] ++ g.rc.cells ++ [KL g.accts.length g.ap] := rfl
def GenL.st (g : GenL) : StL := ⟨g.accts, g.ap⟩
def GenL.ac (g : GenL) : List AcE := g.accts.map AcL.er
structure GenL.In (R : Ji) (g : GenL) : Prop where
  tlen : g.ts.length ≤ Y9
  tseg : Seg R g.ts.length (unC g.ts) g.tp
  tu : ∀ x ∈ g.ts, VM x
  time : VM g.time
  rc : g.rc.ok
  st : g.st.In R
theorem GenL.In.mono {R R' : Ji} {g : GenL} (h : g.In R) (hs : ∀ q ∈ R, q ∈ R') : g.In R' := ⟨h.tlen, h.tseg.mono hs, h.tu, h.time, h.rc, h.st.mono hs⟩
def Xq (t : Nat) (root : BS) : BS := Wz ((yw t 8).1 ++ root)
theorem Jvr (t : Nat) : (yw t 8).1.length ≤ 8 := by
 unfold yw
 split
 ·exact Nat.zero_le _
 ·show (jf t 8).length ≤ 8
  simp [jf]
theorem Ja2 {t : Nat} (ht : VM t) {root : BS} (hr : root.length ≤ 1000) : Pure Tryz.prog 35 [uV t, J4 root].toArray (J4 (Xq t root)) := by
 have h8 := Jvr t
 refine Jm Tryz.func35 rfl rfl fun w => ?_; refine JA ?_; refine Jq 8 rfl ?_; refine Jn rfl rfl rfl Jto (j0 ht 8) ?_; refine JG 11 rfl ?_
 refine LR rfl (QA rfl rfl (by first | omega | (simp only [List.length_append]; omega))) ?_; refine Jn rfl rfl rfl Jfo (wo (by rw [List.length_append]; omega)) ?_; refine Jw 4 rfl ?_; refine pT rfl rfl rfl fun w1 hs1 => ?_; exact ⟨rfl, hs1.keep⟩
def Jrg (g : GenL) : Bool := ZI g.ac && decide (g.ts.length ≤ 100)
theorem Jyv {R : Ji} {g : GenL} (hg : g.In R) : PureR Tryz.prog 10 [g.val].toArray (.bool (Jrg g)) R := by
 have hts := hg.tseg
 have hF := Jvg hg.st
 have hfe : ZI g.ac = ZI g.st.er := rfl
 refine Ja Tryz.func10 rfl rfl fun w => ?_; refine JA ?_; refine Jq 2 rfl ?_; refine Kh (cs := g.cells.toArray) rfl rfl rfl rfl fun r1 => ?_; refine Xa 7 [0] rfl rfl ?_; refine LR rfl (Js (r := [_]) rfl rfl) ?_; refine Je rfl rfl rfl (enters_of Tryz.func29 (by kernel_rfl) rfl) hF oR ?_; refine QL rfl ?_
 refine J8 7 rfl (fun gb => ?_) (fun gb => ?_) <;> (try simp only [ZZ] at gb) <;> first | (refine LR rfl (J9 rfl rfl rfl) ?_) | (refine LK rfl ?_)
 all_goals first | refine LR rfl (J9 rfl rfl rfl) ?_ | refine LK rfl ?_
 all_goals refine LW 1 [0] rfl rfl ?_
 all_goals first | refine LR rfl (J1 rfl hts rfl) ?_ | refine LK rfl ?_
 all_goals (
  refine LW 3 [] rfl rfl (Jw 1 rfl (ZK 2 rfl ?_)); refine pT rfl rfl rfl fun w1 hs1 => ?_; refine ⟨?_, hs1.keep⟩; simp only [JB, Jrg, hfe]
  simp_all
  all_goals first | done | omega
  skip)
theorem Jvs (a b : AcL) : Pure Tryz.prog 77 [vA a, vA b].toArray (.bool (decide (a.addr = b.addr))) := by
 refine Jm Tryz.func77 rfl rfl fun w => ?_; refine JA ?_; refine Jq 2 rfl ?_; refine LN rfl fun r1 => ?_; refine LN rfl fun r2 => ?_; refine Xa 9 [1, 0] rfl rfl ?_; refine LR rfl (Wi rfl rfl) ?_; refine Jw 4 rfl ?_; refine pT rfl rfl rfl fun w1 hs1 => ?_; exact ⟨rfl, hs1.keep⟩
theorem Jvt (W : Nat) : PureE (α := Nat × Nat) Tryz.prog 30 [Ql W 0].toArray (fun p => .slice (some ⟨p.2, 0, none⟩) 3 3) (fun p => [(p.2, .cells #[.func (.func 70) #[] #[Ql p.1 0], .func (.func 72) #[] #[Ql p.1 0], .func (.func 80) #[] #[Ql p.1 0]] 73 (0, 0)), (p.1, .cells #[Ql W 0] 68 (0, 0))]) := by
 refine Ke Tryz.func30 rfl rfl fun w => ?_; refine JA ?_; refine Jq 2 rfl ?_; refine LN rfl fun r1 => ?_; refine JG 5 rfl ?_; refine LR rfl (JC rfl rfl) ?_; refine LR rfl (JC rfl rfl) ?_; refine LR rfl (JC rfl rfl) ?_; refine JM (vs := [_, _, _]) (zs := [_, _, _]) (r := [_, _, _]) rfl rfl rfl rfl rfl rfl rfl rfl rfl (by show (madeCells #[_] _).toList = _; rw [QW]; exact rfl) rfl fun r2 => ?_; refine Jw 4 rfl ?_; refine pT rfl rfl rfl fun w1 hs1 => ?_; exact ⟨(r1, r2), rfl, hs1⟩
def Yg : List BS → Bool
 | x :: y :: l => decide (x = y) || Yg (y :: l)
 | _ => false
theorem Jjr : ∀ {l : List BS} {i : Nat} {x : BS}, l[i]? = some x → l[i + 1]? = some x → Yg l = true
 | [], i, x, h, _ => by simp at h
 | [a], i, x, _, h => by simp at h
 | a :: b :: l, 0, x, h1, h2 => by
  simp only [List.getElem?_cons_zero, List.getElem?_cons_succ, Nat.zero_add, Option.some.injEq] at h1 h2; subst h1 h2
  unfold Yg
  rw [decide_eq_true rfl]; rfl
 | a :: b :: l, i + 1, x, h1, h2 => by
  rw [List.getElem?_cons_succ] at h1 h2
  unfold Yg
  rw [Jjr h1 h2, Bool.or_true]
theorem Jgi : ∀ {l : List BS}, (∀ i x, l[i]? = some x → l[i + 1]? = some x → False) → Yg l = false
 | [], _ => rfl
 | [a], _ => rfl
 | a :: b :: l, h => by
  unfold Yg
  rw [decide_eq_false fun e => h 0 a rfl (by rw [e]; rfl), Jgi fun i x h1 h2 => h (i + 1) x (by rw [List.getElem?_cons_succ]; exact h1) (by rw [List.getElem?_cons_succ]; exact h2)]; rfl
abbrev jH (xs : List AcL) : List BS := xs.map AcL.addr
theorem vu {xs : List AcL} {i : Nat} {x : AcL} (h : xs[i]? = some x) : (jH xs)[i]? = some x.addr := by rw [List.getElem?_map, h]; rfl
def CompR (xs : List AcL) : Type := { q : Option Addr × Nat × Nat // (q.2.1 < xs.length ↔ Yg (jH xs) = true) ∧ q.2.1 ≤ xs.length }
def CompR.val {xs : List AcL} (q : CompR xs) : Value := .slice q.1.1 q.1.2.1 q.1.2.2
theorem wZ {xs : List AcL} (h : Yg (jH xs) = false) (a : Option Addr) (c : Nat) : (xs.length < xs.length ↔ Yg (jH xs) = true) ∧ xs.length ≤ xs.length := ⟨⟨fun h2 => absurd h2 (Nat.lt_irrefl _), fun h2 => by rw [h] at h2; cases h2⟩, Nat.le_refl _⟩
theorem Jrh {xs : List AcL} (h : xs.length < 2) : Yg (jH xs) = false := Jgi fun i x _ h2 => by
 have := (List.getElem?_eq_some_iff.1 h2).1
 rw [List.length_map] at this; omega
theorem Jly {R : Ji} {xs : List AcL} {row : QU} (hl : xs.length ≤ 1000) (hrow : rowOk 8 xs.length (KO xs) row) {g : FuncId} (eg : Enters Tryz.prog g) (hg : ∀ x y : AcL, Pure Tryz.prog g [vA x, vA y].toArray (.bool (decide (x.addr = y.addr)))) :
  PureT (α := CompR xs) Tryz.prog 78 [JE xs.length row, .func (.func g) #[] #[]].toArray (fun q => q.val) (JP 48 (KO xs) row) (fun _ => []) R := by
 cases row with
 | none =>
  have h0 : xs = [] := by
   have := hrow.1
   exact List.eq_nil_of_length_eq_zero (by simpa using this)
  subst h0; refine Ju Tryz.func78 rfl rfl fun w => ?_; refine JA ?_; refine Jq 9 rfl ?_; refine LR rfl (JU rfl rfl) ?_; refine JK 3 rfl ?_; refine Jz rfl (fun h4 => ?_) (fun h4 => ?_)
  try simp only [ZZ] at h4
  refine Ko 8 rfl ?_; refine pT rfl rfl rfl fun w1 hs1 => ?_; exact ⟨⟨(none, 0, 0), wZ (xs := []) rfl none 0⟩, rfl, hs1⟩
  try exact Bool.noConfusion h4
 | some p =>
  obtain ⟨r, cap, sp⟩ := p
  obtain ⟨hr1, hr2⟩ := hrow
  have hcap : xs.length ≤ cap := by omega
  have hseg : ∀ zs : List AcL, zs.length = xs.length → Seg [(r, .cells (KO zs ++ sp).toArray 48 (0, 0))] zs.length (KO zs) (some (⟨r, 0, none⟩, cap)) := fun zs hz => KF (sz := 8) (row := some (r, cap, sp)) ⟨Kn AcL.len _, by have := hr2; rw [hz]; exact hr2⟩ (by decide)
  refine Ju Tryz.func78 rfl rfl fun w => ?_; refine JA ?_; refine Jq 9 rfl ?_; refine LR rfl (JU rfl rfl) ?_; refine JK 3 rfl ?_; refine Jz rfl (fun h4 => ?_) (fun h4 => ?_)
  try simp only [ZZ] at h4
  refine Ko 8 rfl ?_; refine pT rfl rfl rfl fun w1 hs1 => ?_; exact ⟨⟨(some ⟨r, 0, none⟩, xs.length, cap), wZ (Jrh (by omega)) none 0⟩, rfl, hs1.weakL (List.nil_sublist _)⟩
  ·try simp only [ZZ] at h4
   refine JN 9 rfl ?_; refine J0 (σ := Nat) (fun k => (1 ≤ k ∧ k ≤ xs.length) ∧ ∀ i a, i + 1 < k → (jH xs)[i]? = some a → (jH xs)[i + 1]? = some a → False) (fun k => [(0, .slice (some ⟨r, 0, none⟩) xs.length cap), (1, .func (.func g) #[] #[]), (5, .int .i64 (k : Int))]) (fun _ => [(r, .cells (KO xs ++ sp).toArray 48 (0, 0))]) (fun _ _ _ => True) (fun k => xs.length - k) 1 ⟨⟨Nat.le_refl _, by omega⟩, fun i a hi => absurd hi (by omega)⟩ (lK rfl) (List.Sublist.refl _) (fun _ _ h => h) ?_; rintro k ⟨⟨hk0, hk1⟩, hinv⟩; refine Jq 5 rfl ?_; refine LR rfl (JU rfl rfl) ?_; refine JK 3 rfl ?_; refine cD (fun h10 => ?_) fun h10 => ?_
   ·refine JN 5 rfl ?_
    have hsegz := hseg xs rfl
    obtain ⟨x, hx, hmx⟩ := Q4 (show k - 1 < xs.length by omega)
    obtain ⟨y, hy, hmy⟩ := Q4 (show k < xs.length by omega)
    refine JD 11 (by kernel_rfl) (by kernel_rfl) ?_; refine Jb rfl rfl rfl (Jf rfl) ?_; refine Jb rfl rfl rfl (Jf rfl) ?_; refine Jb rfl rfl rfl (Jf rfl) ?_; refine Jb rfl rfl rfl (JI (j := k) (m := 8) (off' := 0 + (k) * 8) rfl rfl rfl rfl rfl (by omega) (by omega)) ?_; refine Jb rfl rfl rfl (Ka (p := some (⟨r, 0, none⟩, cap)) AcL.len (fun q hq => Or.inl hq) rfl hsegz hy rfl rfl) ?_; refine Jb rfl rfl rfl (Jf rfl) ?_; refine Jb rfl rfl rfl (Jf rfl) ?_; refine Jb rfl rfl rfl (Jv rfl rfl rfl) ?_; refine QD (by omega) (by omega) ?_; refine KU (show _ = Value.int .i64 ((k - 1 : Nat) : Int) from by congr 1; omega) ?_; refine Jb rfl rfl rfl (JI (j := (k - 1)) (m := 8) (off' := 0 + ((k - 1)) * 8) rfl rfl rfl rfl rfl (by omega) (by omega)) ?_; refine Jb rfl rfl rfl (Ka (p := some (⟨r, 0, none⟩, cap)) AcL.len (fun q hq => Or.inl hq) rfl hsegz hx rfl rfl) ?_; refine QM rfl rfl rfl eg ((hg y x).toR) oR ?_; refine JS ?_; refine JK 2 rfl ?_; refine cD (fun h13 => ?_) fun h13 => ?_
    ·refine Jq 4 rfl ?_; refine LR rfl (JO (sz := 8) (m := k) (kl := some k) (kh := none) (km := none) (q := xs.length) (z := cap) (off' := k * 8) rfl rfl rfl ⟨_, rfl⟩ trivial trivial rfl rfl rfl (by omega) (by omega) (by omega) (fun _ => rfl) (by rw [if_neg (by omega)]; omega)) ?_; refine JK 5 rfl ?_
     have hadj : Yg (jH xs) = true := by
      have he : y.addr = x.addr := by simp_all
      have h1 := vu hx
      have h2 := vu hy
      rw [he] at h2
      obtain ⟨k0, rfl⟩ : ∃ k0, k = k0 + 1 := ⟨k - 1, by omega⟩
      exact Jjr h1 h2
     clear hsegz hx hy; refine JN 5 rfl ?_; refine J0 (σ := Nat × Nat × List AcL) (fun s => s.2.2.length = xs.length ∧ (1 ≤ s.1 ∧ s.1 ≤ xs.length - k) ∧ s.2.1 ≤ k + s.1 - 1) (fun s => [(0, .slice (some ⟨r, 0, none⟩) xs.length cap), (1, .func (.func g) #[] #[]), (5, .int .i64 (s.2.1 : Int)), (6, .slice (some ⟨r, k * 8, none⟩) (xs.length - k) (cap - k)), (7, .int .i64 (s.1 : Int))]) (fun s => [(r, .cells (KO s.2.2 ++ sp).toArray 48 (0, 0))]) (fun _ _ _ => True) (fun s => xs.length - k - s.1) (1, k, xs) ⟨rfl, ⟨Nat.le_refl _, by simp only; omega⟩, by simp only; omega⟩ (lK rfl) (List.Sublist.refl _) (fun _ _ h => h) ?_; rintro ⟨k2, i, zs⟩ ⟨hz, ⟨hk2, hk3⟩, hi⟩; simp only at hz hk2 hk3 hi; change HC _ _ [(0, _), (1, _), (5, .int .i64 (i : Int)), (6, _), (7, .int .i64 (k2 : Int))] [(r, .cells (KO zs ++ sp).toArray 48 (0, 0))] _ _ _; refine Jq 5 rfl ?_; refine LR rfl (JU rfl rfl) ?_; refine JK 3 rfl ?_; refine cD (fun h19 => ?_) fun h19 => ?_
     refine JN 5 rfl ?_
     have hsegz := hseg zs hz
     obtain ⟨x, hx, hmx⟩ := Q4 (show k + k2 - 1 < zs.length by omega)
     obtain ⟨y, hy, hmy⟩ := Q4 (show k + k2 < zs.length by omega)
     refine JD 12 (by kernel_rfl) (by kernel_rfl) ?_; refine Jb rfl rfl rfl (Jf rfl) ?_; refine Jb rfl rfl rfl (Jf rfl) ?_; refine Jb rfl rfl rfl (Jf rfl) ?_; refine Jb rfl rfl rfl (JI (j := k2) (m := 8) (off' := 0 + (k + k2) * 8) rfl rfl rfl rfl rfl (by omega) (by omega)) ?_; refine Jb rfl rfl rfl (Ka (p := some (⟨r, 0, none⟩, cap)) AcL.len (fun q hq => Or.inl hq) rfl hsegz hy rfl rfl) ?_; refine Jb rfl rfl rfl (Jf rfl) ?_; refine Jb rfl rfl rfl (Jf rfl) ?_; refine Jb rfl rfl rfl (Jv rfl rfl rfl) ?_; refine QD (by omega) (by omega) ?_; refine KU (show _ = Value.int .i64 ((k2 - 1 : Nat) : Int) from by congr 1; omega) ?_; refine Jb rfl rfl rfl (JI (j := k2 - 1) (m := 8) (off' := 0 + (k + k2 - 1) * 8) rfl rfl rfl rfl rfl (by omega) (by omega)) ?_; refine Jb rfl rfl rfl (Ka (p := some (⟨r, 0, none⟩, cap)) AcL.len (fun q hq => Or.inl hq) rfl hsegz hx rfl rfl) ?_; refine QM rfl rfl rfl eg ((hg y x).toR) oR ?_; refine Jb rfl rfl rfl (Jv rfl rfl rfl) ?_; refine JS ?_; refine JK 2 rfl ?_; refine cD (fun h22 => ?_) fun h22 => ?_
     refine Jq 6 rfl ?_; refine LR rfl (JI (j := k2) (m := 8) (off' := 0 + (k + k2) * 8) rfl rfl rfl rfl rfl (by omega) (by omega)) ?_; refine LR rfl (Ka (p := some (⟨r, 0, none⟩, cap)) AcL.len (fun q hq => Or.inl hq) rfl hsegz hy rfl rfl) ?_; refine LR rfl (JI (j := i) (m := 8) (off' := i * 8) rfl rfl rfl rfl rfl (by omega) (by omega)) ?_; refine Q9 (k := 0) (n := 8) (vs := (AcL.cells y).toArray) (cs' := ((zs.set i y).flatMap AcL.cells ++ sp).toArray) rfl rfl rfl rfl rfl rfl (AcL.one y) (by simp only [List.size_toArray, List.length_append, KO, Kn AcL.len]; omega) (by apply Array.toList_inj.1; simp only [List.toList_toArray]; exact xG AcL.len (show i < zs.length by omega) y sp) rfl ?_; refine JG 5 rfl ?_; refine Jc (by omega) (by omega) ?_; refine JG 7 rfl ?_; refine Jc (by omega) (by omega) ?_; refine Jw 2 rfl ?_; refine Jx ?_; exact Jt (k2 + 1, i + 1, zs.set i y) ⟨by simp only [List.length_set]; exact hz, ⟨by simp only; omega, by simp only; omega⟩, by simp only; omega⟩ (by simp only; omega) (lK rfl) (List.Sublist.refl _) (fun _ _ h => h)
     refine Jq 6 rfl ?_; refine Jc (by omega) (by omega) ?_; refine Jw 2 rfl ?_; refine Jx ?_; exact Jt (k2 + 1, i, zs) ⟨hz, ⟨by simp only; omega, by simp only; omega⟩, by simp only; omega⟩ (by simp only; omega) (lK rfl) (List.Sublist.refl _) (fun _ _ h => h)
     ·refine Jq 9 rfl ?_; refine LR rfl (JO (sz := 8) (m := i) (kl := some i) (kh := none) (km := none) (q := xs.length) (z := cap) (off' := i * 8) rfl rfl rfl ⟨_, rfl⟩ trivial trivial rfl rfl rfl (by omega) (by omega) (by omega) (fun _ => rfl) (by rw [if_neg (by omega)]; omega)) ?_; refine yV (k := 0) (sz := 8) rfl rfl rfl rfl rfl rfl rfl (by decide) (by simp only [List.size_toArray, List.length_append, KO, Kn AcL.len]; omega) rfl rfl ?_; refine JG 6 rfl ?_
      refine LR rfl (JO (sz := 8) (q := i) (kl := none) (kh := some i) (km := none) (m := 0) (z := cap) (off' := 0) rfl rfl rfl trivial ⟨_, rfl⟩ trivial rfl rfl rfl (by omega) (by omega) (by omega) (fun h => by cases h) (by split <;> omega)) ?_; refine Jw 9 rfl ?_; refine pT rfl rfl rfl fun w1 hs1 => ?_; exact ⟨⟨(some ⟨r, 0, none⟩, i, cap), ⟨⟨fun _ => hadj, fun _ => by simp only; omega⟩, by simp only; omega⟩⟩, rfl, hs1.weakL (List.nil_sublist _)⟩
    refine Jq 6 rfl ?_; refine Jc (by omega) (by omega) ?_; refine Jw 2 rfl ?_; refine Jx ?_
    exact Jt (k + 1) ⟨⟨by omega, by omega⟩, fun i a hi h1 h2 => by
     rcases Nat.lt_or_ge (i + 1) k with hq | hq
     exact hinv i a hq h1 h2
     obtain rfl : i = k - 1 := by omega
     rw [show k - 1 + 1 = k by omega] at h2
     have e1 := Option.some.inj ((vu hx).symm.trans h1)
     have e2 := Option.some.inj ((vu hy).symm.trans h2)
     have e3 : y.addr = x.addr := e2.trans e1.symm
     simp_all⟩ (by omega) (lK rfl) (List.Sublist.refl _) (fun _ _ h => h)
   ·refine Ko 12 rfl ?_; refine pT rfl rfl rfl fun w1 hs1 => ?_; exact ⟨⟨(some ⟨r, 0, none⟩, xs.length, cap), wZ (Jgi fun i a h1 h2 => hinv i a (by have := (List.getElem?_eq_some_iff.1 h2).1; rw [List.length_map] at this; omega) h1 h2) none 0⟩, rfl, hs1.weakL (List.nil_sublist _)⟩
def acI (xs : List AcL) (i : Nat) : AcL := xs.getD i ac0L
theorem Jjs {xs : List AcL} {i : Nat} (h : i < xs.length) : xs[i]? = some (acI xs i) ∧ acI xs i ∈ xs := by
 unfold acI
 rw [List.getD_eq_getElem?_getD, List.getElem?_eq_getElem h]; exact ⟨rfl, List.getElem_mem h⟩
def Ja3 (r n : Nat) (p : Pl) : Nat × Obj := (r, .cells #[KL n p] 30 (0, 0))
theorem Jri (n : Nat) (p : Pl) : PureE (α := Nat) Tryz.prog 74 [KL n p].toArray (fun r => .func (.func 125) #[] #[.pointer (some ⟨r, 0, none⟩)]) (fun r => [Ja3 r n p]) := by
 refine Ke Tryz.func74 rfl rfl fun w => ?_; refine JA ?_; refine Jq 2 rfl ?_; refine LN rfl fun r1 => ?_; refine JG 5 rfl ?_; refine LR rfl (JC rfl rfl) ?_; refine Jw 4 rfl ?_; refine pT rfl rfl rfl fun w1 hs1 => ?_; exact ⟨_, rfl, hs1⟩
theorem Jrj {R : Ji} {xs : List AcL} {p : Pl} (hl : xs.length ≤ 9223372036854775807) (hs : Seg R xs.length (KO xs) p) (rv : Nat) :
    ZY Tryz.prog 125 [.pointer (some ⟨rv, 0, none⟩)] (Ja3 rv xs.length p :: R) 0 (nxN (fun i => [vA (acI xs i)]) xs.length) (yr xs.length) := by
  have hs := hs.mono (R' := Ja3 rv xs.length p :: R) fun q hq => List.mem_cons_of_mem _ hq
  refine QY Tryz.func125 rfl rfl fun q xids w2 XI XF hY => ?_; refine JA ?_; refine Jq 2 rfl ?_; refine LR rfl (Jd rfl (J2 (k := 0) rfl) rfl rfl) ?_; refine LR rfl (J1 rfl hs rfl) ?_; refine JK 4 rfl ?_; refine J0 (σ := Nat) (fun i => i ≤ xs.length) (fun i => [(0, .func (.yield q) #[] #[]), (1, .pointer (some ⟨rv, 0, none⟩)), (5, KL xs.length p), (6, .int .i64 (xs.length : Int)), (7, .int .i64 (i : Int))]) (fun _ => []) (fun i => XI i) (fun i => xs.length - i) 0 (Nat.zero_le _) (lK rfl) (List.nil_sublist _) (fun _ _ h => h) ?_; intro i hi; refine JN 6 rfl ?_; refine cD (fun g => ?_) fun g => ?_
  · refine JN 5 rfl ?_
    have hil : i < xs.length := by omega
    have hix := Jjs hil
    refine Jq 1 rfl ?_
    refine LR rfl (Jp (j := i) rfl hs rfl rfl rfl (by first | rfl | omega) (by omega)) ?_; refine LR rfl (Ka AcL.len oR rfl hs hix.1 rfl rfl) ?_; refine LN rfl fun r1 => ?_; refine Jk (k := 0) (n := 8) (ys := AcL.cells (acI xs i)) rfl rfl rfl rfl rfl rfl rfl rfl rfl ?_; refine JG 5 rfl ?_; refine LR rfl (Jh (xs := AcL.cells (acI xs i)) (n := 8) rfl (kn 0 rfl) rfl rfl rfl) ?_; refine Vr (XT := XI (i + 1)) (XF := XF) rfl rfl rfl rfl (hY i [vA (acI xs i)] (i + 1) ⟨hil, rfl, rfl⟩) ?_ ?_
    all_goals (
     refine Jw 2 rfl (Y6 1 rfl ?_); refine Jz rfl (fun g => ?_) (fun g => ?_)
     · try exact Bool.noConfusion g
       all_goals try simp only [ZZ] at g
       all_goals (
        refine Ko 5 rfl ?_; refine Jg rfl rfl .nil (fun w1 hs1 => ?_)
        obtain ⟨xs1, hx1⟩ := hs1.now
        exact ⟨⟨_, rfl⟩, hs1.keep, .inr ⟨_, hx1⟩⟩
        skip)
     · try exact Bool.noConfusion g
       all_goals try simp only [ZZ] at g
       all_goals (
        refine Jq 5 rfl ?_; refine Jc (by omega) (by omega) ?_; refine Jw 2 rfl ?_; refine Jx ?_; exact Jt (i + 1) (by omega) (by omega) (lK rfl) (List.nil_sublist _) (fun _ _ h => h)
        skip)
     skip)
  · refine Ko 4 rfl ?_; refine Kq rfl rfl .nil (fun w1 hs1 => ?_)
    obtain ⟨xs1, hx1⟩ := hs1.now
    exact ⟨⟨_, rfl⟩, hs1.keep, .inl ⟨i, _, (by show i = xs.length; omega), hx1⟩⟩
theorem Jec {xs : List AcL} {i : Nat} (h : i < xs.length) : KO (xs.take i) ++ (AcL.cells (acI xs i)) = KO (xs.take (i + 1)) := by
 rw [List.take_add_one, (Jjs h).1]
 simp [KO, List.flatMap_append]
theorem Jrk {R : Ji} {xs : List AcL} {g : FuncId} {caps : List Value} (hl : xs.length ≤ 1000) (eg : Enters Tryz.prog g) (hit : ZY Tryz.prog g caps R 0 (nxN (fun i => [vA (acI xs i)]) xs.length) (yr xs.length)) :
  PureT (α := { row : QU // rowOk 8 xs.length (KO xs) row }) Tryz.prog 194 [.slice none 0 0, .func (.func g) #[] caps.toArray].toArray (fun x => JE xs.length x.1) [] (fun x => JP 48 (KO xs) x.1) R := by
 refine Ju Tryz.func194 rfl rfl fun w => ?_; refine JA ?_; refine Jq 2 rfl ?_; refine LN rfl fun r1 => ?_; refine JK 10 rfl ?_; refine VV (τ := Unit) (fun i (s : Nat × QU) => i = s.1 ∧ i ≤ xs.length ∧ rowOk 8 i (KO (xs.take i)) s.2) (fun s => (r1, .cells #[JE s.1 s.2] 30 (0, 0)) :: JP 48 (KO (xs.take s.1)) s.2) (fun _ _ => False) (fun _ => []) [] (0, none) rfl rfl eg hit (by rintro _ _ _ ⟨_, rfl, _⟩; rfl) rfl oR rfl ⟨rfl, Nat.zero_le _, ⟨rfl, rfl⟩⟩ ?_ ?_ ?_
 rintro q Xr Xb w3 i _ _ ⟨_, row⟩ ⟨hii, rfl, rfl⟩ ⟨rfl, him, hrow⟩ Kr hKr; refine xj ?_
 simp only at hKr ⊢; refine Jq 1 rfl ?_; refine LN rfl fun r2 => ?_; refine Jk (k := 0) (n := 8) (ys := AcL.cells (acI xs i)) rfl rfl rfl rfl rfl rfl rfl rfl rfl ?_; refine Jw 1 rfl ?_; refine hKr _ _ ?_; refine JA ?_; clear hKr; refine Jq 2 rfl ?_; refine LR rfl (Jd rfl (kn 1 rfl) rfl rfl) ?_; refine LR rfl (Jh (xs := AcL.cells (acI xs i)) (n := 8) rfl (kn 0 rfl) rfl rfl rfl) ?_; refine JM (n := 1) (sz := 8) (vs := [_]) (zs := [_, _, _, _, _, _, _, _]) (r := AcL.cells (acI xs i)) rfl rfl rfl rfl rfl rfl rfl rfl rfl (by rw [Kt]; exact rfl) rfl fun r3 => ?_; refine KI (L0 := [_, _, _]) (xs := KO (xs.take i)) (row := row) (n := i) (sz := 8) (b := 96) (news := AcL.cells (acI xs i)) (List.perm_append_comm (l₁ := [_, _, _])) rfl rfl rfl rfl (kn 0 rfl) rfl rfl rfl rfl rfl (by decide) rfl rfl rfl (by decide) hrow (by omega) (by omega) fun ra cap sp hra => ?_
 refine LT 3 rfl rfl ?_; refine Jw 2 rfl ?_; refine KZ [3, 0] (L' := [_, _]) (by decide) rfl ?_; refine Ki (i + 1, some (ra, cap, sp)) ⟨rfl, by omega, by rw [Jec hii] at hra; exact hra⟩ ?_; simp only [JP, JE, Jec hii]
 rintro D i ⟨_, row⟩ hfi ⟨rfl, him, hrow⟩
 simp only at hrow ⊢
 have hfi : i = xs.length := hfi
 subst hfi; rw [List.take_length] at hrow ⊢; refine Gqq 9 [1] rfl rfl ?_; refine Kw (k := 0) rfl rfl ?_; refine pT rfl rfl rfl fun w1 hs1 => ?_; exact ⟨⟨row, hrow⟩, rfl, hs1.weakL (by simp only [List.set_cons_zero, List.append_nil]; exact List.sublist_append_right [_, _] _)⟩
 ·exact fun _ _ _ h => h.elim
theorem Jlz {R : Ji} {xs : List AcL} {g : FuncId} {caps : List Value} (hl : xs.length ≤ 1000) (eg : Enters Tryz.prog g) (hit : ZY Tryz.prog g caps R 0 (nxN (fun i => [vA (acI xs i)]) xs.length) (yr xs.length)) :
  PureT (α := { row : QU // rowOk 8 xs.length (KO xs) row }) Tryz.prog 123 [.func (.func g) #[] caps.toArray].toArray (fun x => JE xs.length x.1) [] (fun x => JP 48 (KO xs) x.1) R := by
 refine Ju Tryz.func123 rfl rfl fun w => ?_; refine JA ?_; refine Jq 8 rfl ?_; refine Kz rfl rfl rfl (enters_of Tryz.func194 (by kernel_rfl) rfl) (Jrk hl eg hit) oR fun x => ?_; refine Jw 4 rfl ?_; refine pT rfl rfl rfl fun w1 hs1 => ?_; exact ⟨x, rfl, hs1.weakL (List.sublist_append_left _ _)⟩
end Go.Proofs.YtfaagelglpgpkaaGreatDoor
namespace Go.Proofs
open Go.Shelf
def Tryz.laysSortA_ren : Go.Shelf.Ren := ⟨fun | 6 => 124 | 15 => 174 | 14 => 195 | 28 => 234 | 29 => 235 | 20 => 248 | 21 => 249 | 22 => 250 | 23 => 251 | 24 => 252 | 25 => 253 | 26 => 254 | 27 => 255 | 46 => 319 | 47 => 308 | 48 => 309 | 49 => 320 | 50 => 321 | 57 => 349 | n => n, fun | 22 => 30 | 24 => 48 | 25 => 125 | 3 => 3 | 39 => 188 | 0 => 0 | 53 => 261 | 55 => 25 | 4 => 4 | 46 => 254 | 45 => 253 | 50 => 258 | 5 => 5 | 9 => 9 | 66 => 293 | 70 => 297 | 76 => 327 | 77 => 328 | n => n, fun | n => n⟩
theorem Tryz.laysSortA : Go.Proofs.SlLaysF0.n6 Tryz.prog Tryz.laysSortA_ren := {
 mixed := by kernel_rfl
 f6 := ⟨Tryz.f124.name, by decide, Tryz.func124.trans (congrArg some (by kernel_rfl))⟩
 f14 := ⟨Tryz.f195.name, by decide, Tryz.func195.trans (congrArg some (by kernel_rfl))⟩
 f15 := Tryz.func174.trans (congrArg some (by kernel_rfl))
 f20 := ⟨Tryz.f248.name, by decide, Tryz.func248.trans (congrArg some (by kernel_rfl))⟩
 f21 := ⟨Tryz.f249.name, by decide, Tryz.func249.trans (congrArg some (by kernel_rfl))⟩
 f22 := ⟨Tryz.f250.name, by decide, Tryz.func250.trans (congrArg some (by kernel_rfl))⟩
 f23 := ⟨Tryz.f251.name, by decide, Tryz.func251.trans (congrArg some (by kernel_rfl))⟩
 f24 := ⟨Tryz.f252.name, by decide, Tryz.func252.trans (congrArg some (by kernel_rfl))⟩
 f25 := ⟨Tryz.f253.name, by decide, Tryz.func253.trans (congrArg some (by kernel_rfl))⟩
 f26 := ⟨Tryz.f254.name, by decide, Tryz.func254.trans (congrArg some (by kernel_rfl))⟩
 f27 := ⟨Tryz.f255.name, by decide, Tryz.func255.trans (congrArg some (by kernel_rfl))⟩
 f28 := Tryz.func234.trans (congrArg some (by kernel_rfl))
 f29 := Tryz.func235.trans (congrArg some (by kernel_rfl))
 f46 := ⟨Tryz.f319.name, by decide, Tryz.func319.trans (congrArg some (by kernel_rfl))⟩
 f47 := Tryz.func308.trans (congrArg some (by kernel_rfl))
 f48 := Tryz.func309.trans (congrArg some (by kernel_rfl))
 f49 := ⟨Tryz.f320.name, by decide, Tryz.func320.trans (congrArg some (by kernel_rfl))⟩
 f50 := ⟨Tryz.f321.name, by decide, Tryz.func321.trans (congrArg some (by kernel_rfl))⟩
 f57 := ⟨Tryz.f349.name, by decide, Tryz.func349.trans (congrArg some (by kernel_rfl))⟩
 t0 := Tryz.underlying0
 a0 := Tryz.isAgg0
 z0 := Tryz.sizeOf0
 v0 := Tryz.zeroValue0
 t3 := Tryz.underlying3
 a3 := Tryz.isAgg3
 z3 := Tryz.sizeOf3
 v3 := Tryz.zeroValue3
 t4 := Tryz.underlying4
 a4 := Tryz.isAgg4
 z4 := Tryz.sizeOf4
 v4 := Tryz.zeroValue4
 t5 := Tryz.underlying5
 a5 := Tryz.isAgg5
 z5 := Tryz.sizeOf5
 v5 := Tryz.zeroValue5
 t9 := Tryz.underlying9
 a9 := Tryz.isAgg9
 z9 := Tryz.sizeOf9
 v9 := Tryz.zeroValue9
 t22 := Tryz.underlying30
 a22 := Tryz.isAgg30
 z22 := Tryz.sizeOf30
 v22 := Tryz.zeroValue30
 t25 := Tryz.underlying125
 a25 := Tryz.isAgg125
 z25 := Tryz.sizeOf125
 v25 := Tryz.zeroValue125
 t39 := Tryz.underlying188
 a39 := Tryz.isAgg188
 z39 := Tryz.sizeOf188
 v39 := Tryz.zeroValue188
 t45 := Tryz.underlying253
 a45 := Tryz.isAgg253
 z45 := Tryz.sizeOf253
 v45 := Tryz.zeroValue253
 t46 := Tryz.underlying254
 a46 := Tryz.isAgg254
 z46 := Tryz.sizeOf254
 v46 := Tryz.zeroValue254
 t50 := Tryz.underlying258
 a50 := Tryz.isAgg258
 z50 := Tryz.sizeOf258
 v50 := Tryz.zeroValue258
 t53 := Tryz.underlying261
 a53 := Tryz.isAgg261
 z53 := Tryz.sizeOf261
 v53 := Tryz.zeroValue261
 t55 := Tryz.underlying25
 a55 := Tryz.isAgg25
 z55 := Tryz.sizeOf25
 v55 := Tryz.zeroValue25
 t66 := Tryz.underlying293
 a66 := Tryz.isAgg293
 z66 := Tryz.sizeOf293
 v66 := Tryz.zeroValue293
 t70 := Tryz.underlying297
 a70 := Tryz.isAgg297
 z70 := Tryz.sizeOf297
 v70 := Tryz.zeroValue297
 t76 := Tryz.underlying327
 a76 := Tryz.isAgg327
 z76 := Tryz.sizeOf327
 v76 := Tryz.zeroValue327
 t77 := Tryz.underlying328
 a77 := Tryz.isAgg328
 z77 := Tryz.sizeOf328
 v77 := Tryz.zeroValue328 }
end Go.Proofs
namespace Go.Proofs.YtfaagelglpgpkaaGreatDoor
set_option linter.all false
open Go.SL Go.RowKit Go.Shelf
open Go.Proofs
theorem Jrl (a : ByteArray) (W : World) : Calls Tryz.prog 126 #[.string a] W fun e w' => e = .returned (.bool false) ∧ w' = W := by
 go_enter Tryz.func126, Tryz.ntmps126
 go_wp2
 go_ret
 exact ⟨by simp, rfl⟩
theorem Jvu (a b : BS) (t : TypeId) (w : World) : (binOp .gtr t (.string (bs a)) (.string (bs b))).run Tryz.prog w = .ok (.bool (Op.bytesLess b a)) w := by
 simp only [binOp, eqGuard, Op.stringOp, Sem.run_bind, VW]
 rw [show Op.bytesLess b a = !(Op.bytesLess a b || a == b) from by
  rcases Xf a b with rfl | h | h
  ·rw [VF]; simp
  ·rw [h, WK h]; rfl
  ·rw [h, WK h, show (a == b) = false from beq_eq_false_iff_ne.2 (qu h).symm]; rfl]
 rfl
theorem Jgk (a b : BS) (W : World) : Calls Tryz.prog 76 #[.string (bs a), .string (bs b)] W fun e w' => e = .returned (.int .i64 (XS a b)) ∧ w' = W := by
 have h := Jrl
 have hg := Jvu
 unfold XS
 go_enter Tryz.func76, Tryz.ntmps76
 go_wp2_with (first | (go_at_call 126; refine (h _ _).mono ?_; rintro e w' ⟨rfl, rfl⟩) | rw [hg])
 all_goals go_ret
 all_goals refine ⟨?_, rfl⟩
 all_goals simp_all [VW]
theorem Jvv (x y : AcL) (W : World) : Calls Tryz.prog 75 #[.agg (AcL.cells x).toArray, .agg (AcL.cells y).toArray] W fun e w' => e = .returned (.int .i64 (XS x.addr y.addr)) ∧ ∃ q os', w' = Go.Sort.grow (W.drewN q) os' := by
 have hcon := fun W' => Jgk x.addr y.addr W'
 generalize XS x.addr y.addr = r at hcon ⊢
 obtain ⟨xa, xn, ⟨xb, xc, xd, xe⟩, xo, xs, xp⟩ := x
 obtain ⟨ya, yn, ⟨yb, yc, yd, ye⟩, yo, ys, yp⟩ := y
 simp only [AcL.cells] at hcon ⊢
 go_enter Tryz.func75, Tryz.ntmps75
 go_wp2_with (go_at_call 76; refine (hcon _).mono ?_; rintro e w' ⟨rfl, rfl⟩)
 go_ret
 exact ⟨rfl, 0, _, by rw [Go.Sort.alloc_eq_grow, Go.Sort.alloc_eq_grow, Go.Sort.grow_grow]; rfl⟩
theorem Jed {w w' : World} {blk n : Nat} {os : Array Obj} {xs ys : List Value} {sp : List Value} {e : TypeId} (hl : ys.length = xs.length) (hw : w' = Go.Sort.grow (Go.Sort.putRow id (Go.Sort.ahead w n) blk 0 ys.toArray) os)
  (hb : w.heap[blk]? = some (.cells (xs ++ sp).toArray e (0, 0))) : Keep [blk] w w' ∧ w'.heap[blk]? = some (.cells (ys ++ sp).toArray e (0, 0)) := by
 have hlt := J7 hb
 have hh : ∀ k, k < w.heap.size → w'.heap[k]? = (w.heap.modify blk (Go.Sort.onCells (Go.Sort.putCells id 0 ys.toArray)))[k]? := fun k hk => by
  subst hw
  show (_ ++ _ : Array Obj)[k]? = _
  rw [Array.getElem?_append_left]
  ·rfl
  ·show k < (Array.modify _ _ _).size
   rw [Array.size_modify]; exact hk
 refine ⟨⟨by subst hw; rfl, by subst hw; rfl, by subst hw; rfl, ?_, fun k hk hn => ?_⟩, ?_⟩
 ·subst hw
  show _ ≤ (_ ++ _ : Array Obj).size
  rw [Array.size_append]
  show _ ≤ (Array.modify _ _ _).size + _
  rw [Array.size_modify]; exact Nat.le_add_right _ _
 ·rw [hh k hk, Array.getElem?_modify, if_neg]
  intro e; exact hn (by simp [e])
 ·rw [hh blk hlt, Array.getElem?_modify, if_pos rfl, hb]
  simp only [Option.map_some, Go.Sort.onCells, Option.some.injEq, Obj.cells.injEq, and_true]
  apply Array.toList_inj.1
  apply List.ext_getElem?
  intro j; simp only [Go.Sort.putCells, Nat.zero_le, true_and, Nat.zero_add, List.size_toArray, Nat.sub_zero, Array.toList_mapIdx, List.getElem?_mapIdx]
  by_cases hj : j < ys.length
  ·rw [List.getElem?_append_left (by omega), List.getElem?_append_left hj]
   simp [hj, (by omega : j < xs.length)]
  ·rw [List.getElem?_append_right (by omega), List.getElem?_append_right (by omega)]
   simp only [hl, if_neg (by omega : ¬ j < xs.length)]
   cases sp[j - xs.length]? <;> simp
theorem Jgl {w : World} {blk : Nat} {xs : List Value} {sp : List Value} {e : TypeId} (hb : w.heap[blk]? = some (.cells (xs ++ sp).toArray e (0, 0))) : Go.Sort.Holds id w blk 0 xs.toArray := fun j hj => by
 have hj' : j < xs.length := by simpa using hj
 rw [Nat.zero_add, Vi hb, XJ hb (show frB (0, 0) j = false from by simp [frB, Nat.blt, Nat.ble])]; refine ⟨?_, rfl⟩
 simp [hj', List.getElem?_append_left]
instance : Inhabited AcL := ⟨ac0L⟩
theorem Jee (xs : List AcL) : Go.Sort.flatK AcL.cells 8 xs.toArray = (KO xs).toArray := by
 refine Go.Sort.ext_get! (by rw [Go.Sort.size_flatK]; simp [KO, Kn AcL.len]) fun t ht => ?_; rw [Go.Sort.size_flatK, List.size_toArray] at ht
 have hq : t / 8 < xs.length := by omega
 have hx : xs[t / 8]? = some xs[t / 8] := List.getElem?_eq_getElem hq
 have hr : t % 8 < (AcL.cells xs[t / 8]).length := by rw [AcL.len]; omega
 have h := Jch (f := AcL.cells) AcL.len hx (List.getElem?_eq_getElem hr)
 rw [show t / 8 * 8 + t % 8 = t by omega] at h; rw [Go.Sort.get_flatK _ _ _ _ (by rw [List.size_toArray]; exact ht)]
 have h2 : (KO xs).toArray[t]? = some (AcL.cells xs[t / 8])[t % 8] := by simpa [KO] using h
 have e1 : ∀ (a : Array Value) (v : Value), a[t]? = some v → a[t]! = v := fun a v h => by rw [Array.getElem!_eq_getD, Array.getD_eq_getD_getElem?, h]; rfl
 rw [e1 _ _ h2]
 simp [hq, hr]
theorem Jrm : Go.Sort.SWO (Go.Proofs.ltOf fun x y : AcL => XS x.addr y.addr) := by
 have h : ∀ x y : AcL, Go.Proofs.ltOf (fun x y : AcL => XS x.addr y.addr) x y = Op.bytesLess x.addr y.addr := fun x y => vi _ _
 refine ⟨fun x => by rw [h]; exact VF _, fun x y z h1 h2 => by rw [h] at h1 h2 ⊢; exact QB h1 h2, fun x y z h1 h2 => ?_⟩; rw [h] at h1 h2 ⊢
 rcases Xf x.addr z.addr with e | e | e
 ·rw [e]; exact VF _
 ·rcases Xf x.addr y.addr with f | f | f
  ·rw [f] at e; rw [e] at h2; cases h2
  ·rw [f] at h1; cases h1
  ·have := QB f e; rw [this] at h2; cases h2
 ·exact WK e
def SortR (xs : List AcL) : Type := { ys : List AcL // ys.Perm xs ∧ ∀ (i j : Nat) (x y : AcL), i < j → ys[i]? = some x → ys[j]? = some y → Op.bytesLess y.addr x.addr = false }
theorem Jyw : Pure Tryz.prog 248 [.slice none 0 0, .int .i64 0, .int .i64 0, fV 75].toArray (.tuple #[]) := by
 refine Jm Tryz.func248 rfl rfl fun w => ?_; refine JA ?_; refine Jq 4 rfl ?_; refine Jc (by omega) (by omega) ?_; refine JK 4 rfl ?_; refine J0 (σ := Unit) (fun _ => True) (fun _ => [(2, .int .i64 0), (8, .int .i64 1)]) (fun _ => []) (fun _ _ _ => True) (fun _ => 0) () trivial (lK rfl) (List.nil_sublist _) (fun _ _ h => h) ?_; rintro ⟨⟩ -; refine JN 8 rfl ?_; refine Jz rfl (fun h4 => ?_) (fun h4 => ?_)
 exact absurd h4 (by decide)
 ·try simp only [ZZ] at h4
  refine Ko 4 rfl ?_; refine Kq rfl rfl .nil (fun w1 hs1 => ?_); exact ⟨rfl, hs1.keep⟩
theorem Jyx : Pure Tryz.prog 195 [.slice none 0 0, .int .i64 0, .int .i64 0, .int .i64 0, fV 75].toArray (.tuple #[]) := by
 refine Jm Tryz.func195 rfl rfl fun w => ?_; refine JA ?_; refine JN 11 rfl ?_; refine J0 (σ := Unit) (fun _ => True) (fun _ => [(0, .slice none 0 0), (1, .int .i64 0), (2, .int .i64 0), (4, fV 75)]) (fun _ => []) (fun _ _ _ => True) (fun _ => 0) () trivial (lK rfl) (List.nil_sublist _) (fun _ _ h => h) ?_; rintro ⟨⟩ -; refine Jq 6 rfl ?_; refine Jc (by omega) (by omega) ?_; refine JK 10 rfl ?_; refine Jz rfl (fun h6 => ?_) (fun h6 => ?_)
 try simp only [ZZ] at h6
 refine Jq 6 rfl ?_; refine Jn rfl rfl rfl (enters_of Tryz.func248 (by kernel_rfl) rfl) Jyw ?_; refine Jw 7 rfl ?_; refine Jg rfl rfl .nil (fun w1 hs1 => ?_); exact ⟨rfl, hs1.keep⟩
 ·exact absurd h6 (by decide)
theorem P_sortA_nil : Pure Tryz.prog 124 [.slice none 0 0, fV 75].toArray (.tuple #[]) := by
 refine Jm Tryz.func124 rfl rfl fun w => ?_; refine JA ?_; refine Jq 3 rfl ?_; refine LR rfl (JU rfl rfl) ?_; refine JG 8 rfl ?_; refine Wn (by omega) (by omega) ?_; refine Jn rfl rfl rfl (enters_of Tryz.func174 (by kernel_rfl) rfl) wX ?_; refine QL rfl (Jn rfl rfl rfl (enters_of Tryz.func195 (by kernel_rfl) rfl) Jyx (Jw 1 rfl ?_)); refine Kq rfl rfl .nil (fun w1 hs1 => ?_); exact ⟨rfl, hs1.keep⟩
theorem Jvw {R : Ji} {xs : List AcL} {row : QU} (hl : xs.length ≤ 1000) (hrow : rowOk 8 xs.length (KO xs) row) :
  PureT (α := SortR xs) Tryz.prog 124 [JE xs.length row, fV 75].toArray (fun _ => .tuple #[]) (JP 48 (KO xs) row) (fun ys => JP 48 (KO ys.1) row) R := by
 cases row with
 | none =>
  have h0 : xs = [] := by
   have := hrow.1
   exact List.eq_nil_of_length_eq_zero (by simpa using this)
  subst h0; exact P_sortA_nil.toR.toT.map (fun _ => ⟨[], List.Perm.refl _, fun i j x y _ h => by simp at h⟩) (fun _ => rfl) (fun _ => List.Sublist.refl _)
 | some p =>
  obtain ⟨r, cap, sp⟩ := p
  obtain ⟨hr1, hr2⟩ := hrow
  refine ⟨fun w hT hR hd hne => ?_⟩
  have hb : w.heap[r]? = some (.cells (KO xs ++ sp).toArray 48 (0, 0)) := hT _ List.mem_cons_self
  have hH : Go.Sort.HoldsK AcL.cells 8 w r 0 xs.toArray := by
   unfold Go.Sort.HoldsK
   rw [Jee]; exact Jgl hb
  have eg : ∀ args w, (callFunc 75 args).run Tryz.prog w = .ok (.enter 75 args) w := enters_of Tryz.func75 (by kernel_rfl) rfl
  have hcon := AnyQ.slices_SortFunc Tryz.laysSortA 8 Tryz.isAgg48 Tryz.sizeOf48 AcL.cells AcL.len (fun x v hv => by simp [AcL.cells] at hv; rcases hv with rfl | rfl | rfl | rfl | rfl | rfl | rfl | rfl <;> rfl) (fun x y => XS x.addr y.addr) Jrm 75 #[] r 0 cap xs.toArray w eg (fun _ _ _ _ x y => Jvv x y _) hH (J7 hb) (by rw [List.size_toArray]; omega)
  change Calls Tryz.prog 124 #[.slice (some ⟨r, 0, none⟩) xs.length cap, fV 75] w _ at hcon; refine hcon.mono ?_; rintro e w' ⟨rfl, d', n, os, ⟨hp1, _, hp3⟩, hso, hw⟩
  have hsz : d'.toList.length = xs.length := by rw [Array.length_toList, hp1, List.size_toArray]
  have hfl : Go.Sort.flatK AcL.cells 8 d' = (KO d'.toList).toArray := Jee d'.toList
  have hw2 : w' = Go.Sort.grow (Go.Sort.putRow id (Go.Sort.ahead w n) r 0 (KO d'.toList).toArray) os := by rw [hw, ← hfl]; rfl
  obtain ⟨h1, h2⟩ := Jed (ys := KO d'.toList) (by simp only [KO, Kn AcL.len, hsz]) hw2 hb
  have hperm : d'.toList.Perm xs := by
   rw [List.size_toArray] at hp3
   have e1 : (d'.extract 0 xs.length).toList = d'.toList := by rw [Array.toList_extract]; simp [← hsz]; exact List.take_of_length_le (by simp)
   have e2 : (xs.toArray.extract 0 xs.length).toList = xs := by rw [Array.toList_extract]; simp
   rw [e1, e2] at hp3; exact hp3
  have hs : ∀ (i j : Nat) (x y : AcL), i < j → d'.toList[i]? = some x → d'.toList[j]? = some y → Op.bytesLess y.addr x.addr = false := fun i j x y hij hx hy => by
   have hj := (List.getElem?_eq_some_iff.1 hy).1
   have h := hso i j (Nat.zero_le _) hij (by rw [List.size_toArray]; omega)
   have g : ∀ (k : Nat) (z : AcL), d'.toList[k]? = some z → d'[k]! = z := fun k z hz => by
    have h3 : d'[k]? = some z := by simpa using hz
    rw [Array.getElem!_eq_getD, Array.getD_eq_getD_getElem?, h3]; rfl
   rw [g j y hy, g i x hx] at h
   have h4 : Op.bytesLess y.addr x.addr = decide (XS y.addr x.addr < 0) := (vi _ _).symm
   rw [h4]; exact h
  exact ⟨⟨d'.toList, hperm, hs⟩, rfl, h1, fun p hp => by
   rw [List.mem_singleton.1 hp]; exact ⟨.inl (by simp [JP]), h2⟩, List.pairwise_singleton _ _⟩
theorem Jl0 {R : Ji} {xs : List AcL} {g : FuncId} {caps : List Value} (hl : xs.length ≤ 1000) (eg : Enters Tryz.prog g) (hit : ZY Tryz.prog g caps R 0 (nxN (fun i => [vA (acI xs i)]) xs.length) (yr xs.length)) :
  PureT (α := { y : SortR xs × QU // rowOk 8 xs.length (KO y.1.1) y.2 }) Tryz.prog 73 [.func (.func g) #[] caps.toArray, fV 75].toArray (fun y => JE xs.length y.1.2) [] (fun y => JP 48 (KO y.1.1.1) y.1.2) R := by
 refine Ju Tryz.func73 rfl rfl fun w => ?_; refine JA ?_; refine Jq 8 rfl ?_; refine Kz rfl rfl rfl (enters_of Tryz.func123 (by kernel_rfl) rfl) (Jlz hl eg hit) oR fun x => ?_
 obtain ⟨row, hrow⟩ := x
 refine JG 7 rfl ?_; refine Qr (T := JP 48 (KO xs) row) (L0 := []) (Rl := []) (List.Perm.refl _) rfl rfl rfl (enters_of Tryz.func124 (by kernel_rfl) rfl) (Jvw hl hrow) oN fun ys => ?_; refine Jw 9 rfl ?_; refine pT rfl rfl rfl fun w1 hs1 => ?_; exact ⟨⟨(ys, row), hrow.same (by rw [KO, KO, Kn AcL.len, Kn AcL.len, ys.2.1.length_eq])⟩, rfl, hs1.weakL (List.sublist_append_left _ _)⟩
def wkC (g : GenL) (n : Nat) (p : Pl) (f : Int) : List Value := [KL g.ts.length g.tp, uV g.time, uV g.rc.number, uV g.rc.time, uV g.rc.base.a, uV g.rc.base.b, uV g.rc.base.c, uV g.rc.base.d, uV g.rc.blob.a, uV g.rc.blob.b, uV g.rc.blob.c, uV g.rc.blob.d, uV g.rc.overhead.a, uV g.rc.overhead.b, uV g.rc.overhead.c, uV g.rc.overhead.d, uV g.rc.scalar, uV g.rc.extra, uV g.rc.operator, KL g.accts.length g.ap, KL n p, .int .i64 f]
def yC (W : Nat) (g : GenL) (n : Nat) (p : Pl) (f : Int) : Nat × Obj := (W, .cells (wkC g n p f).toArray 70 (0, 0))
def rpB (rp W : Nat) : Nat × Obj := (rp, .cells #[Ql W 0] 68 (0, 0))
theorem Jvx {R : Ji} {g : GenL} (hg : g.In R) (rp W n : Nat) (p : Pl) (f : Int) : PureT (α := Unit) Tryz.prog 70 [Ql rp 0].toArray (fun _ => .int .i64 (QT g.ts g.time).2) [yC W g n p f] (fun _ => [yC W g n p (QT g.ts g.time).1]) (rpB rp W :: R) := by
 have hA := (Jrf hg.tlen hg.tseg g.time).mono (R' := rpB rp W :: R) fun q hq => List.mem_cons_of_mem _ hq
 refine Ju Tryz.func70 rfl rfl fun w => ?_; refine JA ?_; refine JN 6 rfl ?_
 refine JJ [] [(0, .pure), (1, .pure), (2, .pure), (3, .pure), (4, .pure), (6, .pure), (7, .pure), (8, .pure), (9, .pure), (12, .pure), (13, .pure), (14, .pure), (15, .pure), (16, .pure), (17, .turn), (18, .pure)] 19 [0, 1, 2, 3, 4, 5, 6, 7, 8, 9, 10, 11, 12, 13, 14, 15, 16, 17, 18] (by kernel_rfl) (by kernel_rfl) (by first | exact (fun _ h => absurd h List.not_mem_nil) | simp [SubS] | (intro p hp; simp [hp])) ?_; refine Jj (k := 0) rfl rfl rfl rfl rfl (fun _ hS => (Jd rfl (J2 (k := 0) rfl) rfl rfl)) ?_; refine Jj (k := 1) rfl rfl rfl rfl rfl (fun _ hS => (Jd rfl (J2 (k := 0) rfl) rfl rfl)) ?_; refine Jj (k := 2) rfl rfl rfl rfl rfl (fun _ hS => (Jv rfl rfl rfl)) ?_
 refine Jj (k := 3) rfl rfl rfl rfl rfl (fun _ hS => (J9 rfl rfl rfl)) ?_
 refine Jj (k := 4) rfl rfl rfl rfl rfl (fun _ hS => (J9 rfl rfl rfl)) ?_; refine Kv (k := 5) rfl rfl rfl rfl rfl (Jo (vs := [_]) rfl (kn 0 rfl) rfl rfl rfl rfl) ?_; refine Jj (k := 6) rfl rfl rfl rfl rfl (fun _ hS => (Jd rfl (J2 (k := 0) rfl) rfl rfl)) ?_; refine Jj (k := 7) rfl rfl rfl rfl rfl (fun _ hS => (Jv rfl rfl rfl)) ?_
 refine Jj (k := 8) rfl rfl rfl rfl rfl (fun _ hS => (J9 rfl rfl rfl)) ?_
 refine Jj (k := 9) rfl rfl rfl rfl rfl (fun _ hS => (J9 rfl rfl rfl)) ?_; refine Kv (k := 10) rfl rfl rfl rfl rfl (Jd rfl (kn 0 rfl) rfl rfl) ?_; refine KA (k := 11) rfl rfl rfl rfl rfl (enters_of Tryz.func71 (by kernel_rfl) rfl) (hA) (fun q hq => .inr hq) ?_; refine Jj (k := 12) rfl rfl rfl rfl rfl (fun _ hS => (Jf rfl)) ?_; refine Jj (k := 13) rfl rfl rfl rfl rfl (fun _ hS => (JL rfl rfl)) ?_; refine Jj (k := 14) rfl rfl rfl rfl rfl (fun _ hS => (JL rfl rfl)) ?_; refine Jj (k := 15) rfl rfl rfl rfl rfl (fun _ hS => (Jv rfl rfl rfl)) ?_
 refine Jj (k := 16) rfl rfl rfl rfl rfl (fun _ hS => (J9 rfl rfl rfl)) ?_
 refine XN (k := 17) (q := 0) rfl rfl rfl rfl rfl rfl rfl rfl rfl (by first | (simp only [List.setIfInBounds_toArray, List.set_cons_zero, List.set_cons_succ]; exact rfl) | exact rfl) (by first | (simp only [List.set_cons_zero, List.set_cons_succ]; exact rfl) | exact rfl) (by first | exact (fun _ h => absurd h List.not_mem_nil) | simp [SubS] | (intro p hp; simp [hp])) ?_; refine Jj (k := 18) rfl rfl rfl rfl rfl (fun _ hS => (J6 rfl)) ?_; refine Km ?_; refine Jw 9 rfl ?_; refine pT rfl rfl rfl fun w1 hs1 => ?_; exact ⟨(), rfl, hs1⟩
theorem Jvy {R : Ji} {g : GenL} (hg : g.In R) {s : StL} (hs : s.In R) (rp W : Nat) (f : Int) : PureT (α := StRes R (QJ f s.er g.rc)) Tryz.prog 80 [Ql rp 0].toArray (fun x => .int .i64 x.err) [yC W g s.accts.length s.p f] (fun x => yC W g x.s.accts.length x.s.p f :: x.L) (rpB rp W :: R) := by
 have hw0 := Jvc f hs hg.rc
 refine Jav Tryz.func80 rfl rfl fun w hR => ?_; refine JA ?_
 obtain ⟨x0⟩ := hw0.ne (fun p hp => hR p (List.mem_cons_of_mem _ hp))
 refine JN 6 rfl ?_
 refine JJ [] [(0, .pure), (1, .pure), (2, .pure), (3, .pure), (5, .pure), (6, .pure), (7, .pure), (9, .pure), (10, .pure), (11, .pure), (12, .pure), (14, .grow (Qj x0 (fun x => x.val) (fun x => x.L))), (15, .pure), (16, .pure), (17, .pure), (18, .pure), (19, .pure), (20, .turn), (21, .pure)] 22 [0, 1, 2, 3, 4, 5, 6, 7, 8, 9, 10, 11, 12, 13, 14, 15, 16, 17, 18, 19, 20, 21] (by kernel_rfl) (by kernel_rfl) (by first | exact (fun _ h => absurd h List.not_mem_nil) | simp [SubS] | (intro p hp; simp [hp])) ?_; refine Jj (k := 0) rfl rfl rfl rfl rfl (fun _ hS => (Jd rfl (J2 (k := 0) rfl) rfl rfl)) ?_; refine Jj (k := 1) rfl rfl rfl rfl rfl (fun _ hS => (Jd rfl (J2 (k := 0) rfl) rfl rfl)) ?_; refine Jj (k := 2) rfl rfl rfl rfl rfl (fun _ hS => (Jv rfl rfl rfl)) ?_
 refine Jj (k := 3) rfl rfl rfl rfl rfl (fun _ hS => (J9 rfl rfl rfl)) ?_; refine Kv (k := 4) rfl rfl rfl rfl rfl (Jd rfl (kn 0 rfl) rfl rfl) ?_; refine Jj (k := 5) rfl rfl rfl rfl rfl (fun _ hS => (Jd rfl (J2 (k := 0) rfl) rfl rfl)) ?_; refine Jj (k := 6) rfl rfl rfl rfl rfl (fun _ hS => (Jv rfl rfl rfl)) ?_
 refine Jj (k := 7) rfl rfl rfl rfl rfl (fun _ hS => (J9 rfl rfl rfl)) ?_; refine Kv (k := 8) rfl rfl rfl rfl rfl (Jo (vs := [_]) rfl (kn 0 rfl) rfl rfl rfl rfl) ?_; refine Jj (k := 9) rfl rfl rfl rfl rfl (fun _ hS => (Jd rfl (J2 (k := 0) rfl) rfl rfl)) ?_; refine Jj (k := 10) rfl rfl rfl rfl rfl (fun _ hS => (Jv rfl rfl rfl)) ?_
 refine Jj (k := 11) rfl rfl rfl rfl rfl (fun _ hS => (J9 rfl rfl rfl)) ?_
 refine Jj (k := 12) rfl rfl rfl rfl rfl (fun _ hS => (J9 rfl rfl rfl)) ?_; refine Kv (k := 13) rfl rfl rfl rfl rfl (Jo (vs := [_, _, _, _, _, _, _, _, _, _, _, _, _, _, _, _, _]) rfl (kn 0 rfl) rfl rfl rfl rfl) ?_; refine Qd (k := 14) rfl rfl rfl rfl rfl (enters_of Tryz.func81 (by kernel_rfl) rfl) hw0 (fun q hq => .inr (List.mem_cons_of_mem _ hq)) fun x => ?_; refine Jj (k := 15) rfl rfl rfl rfl rfl (fun _ hS => (Jf rfl)) ?_; refine Jj (k := 16) rfl rfl rfl rfl rfl (fun _ hS => (JL rfl rfl)) ?_; refine Jj (k := 17) rfl rfl rfl rfl rfl (fun _ hS => (JL rfl rfl)) ?_; refine Jj (k := 18) rfl rfl rfl rfl rfl (fun _ hS => (Jv rfl rfl rfl)) ?_
 refine Jj (k := 19) rfl rfl rfl rfl rfl (fun _ hS => (J9 rfl rfl rfl)) ?_; refine zz (k := 20) (q := x.L.length) (n := 1) (off := 20) (vs := x.s.cells.toArray) (cs := (wkC g s.accts.length s.p f).toArray) (e := 70) (E' := x.L ++ [yC W g x.s.accts.length x.s.p f]) (cs' := (wkC g x.s.accts.length x.s.p f).toArray) rfl rfl rfl rfl List.getElem?_concat_length rfl rfl rfl rfl (by exact Nat.le_of_ble_eq_true rfl) rfl (by simp [yC]) (fun _ h => absurd h List.not_mem_nil) ?_; refine Jj (k := 21) rfl rfl rfl rfl rfl (fun _ hS => (J6 rfl)) ?_; refine Km ?_; refine Jw 9 rfl ?_; refine pT rfl rfl rfl fun w1 hs1 => ?_; exact ⟨x, rfl, hs1.perm (List.perm_append_comm)⟩
section
variable {c : Cx} {l : Ks} {E : Ji} {X : XP} {d : List Deferred} {ops : Array Oper} {rest : List Nat} {k i : Nat} {tb : ZL} {S : Ji} {T : Ji → Act → Prop}
theorem zE {α : Type} {T0 L0 Rl : Ji} {f : Operand} {args : Array Operand} {at_ : Array TypeId} {g : FuncId} {vs : List Value} {V : α → Value} {LL E' : α → Ji} {ty : TypeId} {ps : String} {af : Array Edge} {gd : Option (Nat × Bool)}
  (hp : E.Perm (T0 ++ L0)) (hE : ∀ x, (LL x ++ L0).Perm (E' x)) (hk : WP ops.toList k = some ⟨some i, .call ⟨.value f, args, at_⟩, ty, ps, af, gd⟩) (hg : Kc l ops ⟨some i, .call ⟨.value f, args, at_⟩, ty, ps, af, gd⟩ = some true) (hi : Nat.ble (i + 1) c.n = true) (hA : tb k = .turn) (hca : Kk l f args = some (g, vs)) (eg : Enters c.P g)
  (hpt : PureT c.P g vs.toArray V T0 LL Rl) (hR : ∀ p ∈ Rl, known c L0 p.1 p.2) (hS : ∀ x, SubS S (E' x)) (h : ∀ x, HB c d ((i, V x) :: l) (E' x) X S ops tb rest T) : HB c d l E X S ops tb (k :: rest) T := fun a hf => by
 refine ⟨_, Q5 hk, ?_⟩; rw [hA]; refine .inl ⟨α, V, E', ⟨JF hf hg, fun w hs => ?_⟩, fun x => ⟨hS x, h x _ (hf.put (Nat.le_of_ble_eq_true hi))⟩⟩
 have hs := hs.perm hp
 obtain ⟨hd1, _, hd3⟩ := List.pairwise_append.1 hs.distinct
 refine Wo hf hca eg ((hpt.run w (fun p hp => (hs.own p (List.mem_append_left _ hp)).2.2) (fun p hp => ?_) hd1 (fun p hp q hq => ?_)).mono fun _ _ ⟨x, he, hk, h1, h2⟩ => ⟨V x, he, x, rfl, (hs.turnT hk h1 h2).perm (hE x)⟩)
 ·exact (hR p hp).elim (fun h => (hs.own _ (List.mem_append_right _ h)).2.2) hs.readR
 ·rcases hR p hp with h | h
  ·exact fun e => hd3 q hq _ h e.symm
  ·rintro e
   obtain ⟨h1, _, h3⟩ := hs.ext _ h
   have h3 := J7 h3
   rcases (hs.own q (List.mem_append_left _ hq)).1 with h4 | h4
   ·exact h1 (e ▸ h4)
   ·simp only at h3 e; omega
theorem Jrn {o : Oper} {v : Value} (hk : WP ops.toList k = some o) (hg : Kc l ops o = some true) (hd : o.dst = some i) (hi : Nat.ble (i + 1) c.n = true) (hA : tb k = .turn) (hr : J5 c d l E X o v) (hS : SubS S E) (h : HB c d ((i, v) :: l) E X S ops tb rest T) : HB c d l E X S ops tb (k :: rest) T := fun a hf => by
 refine ⟨o, Q5 hk, ?_⟩; rw [hA]; refine .inl ⟨Unit, fun _ => v, fun _ => E, ⟨JF hf hg, fun w hs => Yk (hr a w hf hs) ⟨(), rfl, hs⟩⟩, fun _ => ⟨hS, ?_⟩⟩; rw [hd]; exact h _ (hf.put (Nat.le_of_ble_eq_true hi))
end
theorem Jro (xs : List AcL) : Nonempty { row : QU // rowOk 8 xs.length (xs.flatMap AcL.cells) row } := ⟨⟨some (0, xs.length, []), ⟨Kn AcL.len xs, by simp⟩⟩⟩
structure Step2R (g : GenL) : Type where
  ys : SortR g.accts
  row : QU
  ok : rowOk 8 ys.1.length (KO ys.1) row
def Step2R.st {g : GenL} (x : Step2R g) : StL := ⟨x.ys.1, Vc x.row⟩
def Step2R.L {g : GenL} (x : Step2R g) : Ji := JP 48 (KO x.ys.1) x.row
def Jgm (ys : List AcL) : Int := if Yg (jH ys) = true then 13 else KR (ys.map AcL.er)
theorem Jef {R : Ji} {g : GenL} (hg : g.In R) (x : Step2R g) : x.st.In (x.L ++ R) :=
 ⟨by show x.ys.1.length ≤ Y9; rw [x.ys.2.1.length_eq]; exact hg.st.len, (KF x.ok (by decide)).mono fun q hq => List.mem_append_left _ hq, fun a ha => (hg.st.accts a (x.ys.2.1.mem_iff.1 ha)).mono fun q hq => List.mem_append_right _ hq⟩
theorem Jvz {R : Ji} {g : GenL} (hg : g.In R) (hf : g.accts.length ≤ 1000) (rp W n : Nat) (p : Pl) (f : Int) : PureT (α := Step2R g) Tryz.prog 72 [Ql rp 0].toArray (fun x => .int .i64 (Jgm x.ys.1)) [yC W g n p f] (fun x => yC W g x.ys.1.length (Vc x.row) f :: x.L) (rpB rp W :: R) := by
 have hseg : Seg (rpB rp W :: R) g.accts.length (KO g.accts) g.ap := hg.st.seg.mono fun q hq => List.mem_cons_of_mem _ hq
 have hg2 : g.In (rpB rp W :: R) := hg.mono fun q hq => List.mem_cons_of_mem _ hq
 have hb : g.accts.length ≤ 9223372036854775807 := by omega
 refine Ju Tryz.func72 rfl rfl fun w => ?_; refine JA ?_; refine JN 6 rfl ?_
 refine JJ [] [(0, .pure), (1, .pure), (2, .pure), (3, .pure), (4, .pure), (5, .turn), (6, .grow (Qj (0 : Nat) (fun r => Value.func (.func 125) #[] #[.pointer (some ⟨r, 0, none⟩)]) (fun r => [Ja3 r g.accts.length g.ap]))), (7, .turn), (8, .pure), (9, .pure), (10, .pure), (11, .turn)] 12 [0, 1, 2, 3, 4, 5, 6, 7, 8, 9, 10, 11] (by kernel_rfl) (by kernel_rfl) (by first | exact (fun _ h => absurd h List.not_mem_nil) | simp [SubS] | (intro p hp; simp [hp])) ?_; refine Jj (k := 0) rfl rfl rfl rfl rfl (fun _ hS => (Jd rfl (J2 (k := 0) rfl) rfl rfl)) ?_; refine Jj (k := 1) rfl rfl rfl rfl rfl (fun _ hS => (Jd rfl (J2 (k := 0) rfl) rfl rfl)) ?_; refine Jj (k := 2) rfl rfl rfl rfl rfl (fun _ hS => (Jv rfl rfl rfl)) ?_
 refine Jj (k := 3) rfl rfl rfl rfl rfl (fun _ hS => (J9 rfl rfl rfl)) ?_
 refine Jj (k := 4) rfl rfl rfl rfl rfl (fun _ hS => (J9 rfl rfl rfl)) ?_; refine Jrn (k := 5) rfl rfl rfl rfl rfl (Jd rfl (kn 0 rfl) rfl rfl) (fun _ h => absurd h List.not_mem_nil) ?_; refine WQ (k := 6) rfl rfl rfl rfl rfl (enters_of Tryz.func74 (by kernel_rfl) rfl) (Jri _ _) fun rv => ?_
 refine zE (k := 7) (α := { y : SortR g.accts × QU // rowOk 8 g.accts.length (KO y.1.1) y.2 }) (V := fun y => JE g.accts.length y.1.2) (LL := fun y => JP 48 (KO y.1.1.1) y.1.2) (T0 := []) (L0 := [Ja3 rv g.accts.length g.ap, yC W g n p f]) (Rl := Ja3 rv g.accts.length g.ap :: rpB rp W :: R) (E' := fun x => yC W g n p f :: Ja3 rv g.accts.length g.ap :: JP 48 (KO x.1.1.1) x.1.2) (List.Perm.refl _) (fun x => List.perm_append_comm.trans (List.Perm.swap _ _ _)) rfl rfl rfl rfl rfl (enters_of Tryz.func73 (by kernel_rfl) rfl) (Jl0 hf (enters_of Tryz.func125 (by kernel_rfl) rfl) (Jrj hb hseg rv)) (fun q hq => by rcases List.mem_cons.1 hq with rfl | h; exact .inl (List.mem_cons_self ..); exact .inr h) (fun _ _ h => absurd h List.not_mem_nil) fun x => ?_
 obtain ⟨⟨ys, row⟩, hrow⟩ := x
 simp only at hrow ⊢
 have hyl := ys.2.1.length_eq
 rw [← hyl] at hrow; refine VN (v' := KL ys.1.length (Vc row)) (by rw [← hyl]; exact (Xi _ _ (fun h => by subst h; exact hrow.1)).symm) ?_; refine Jj (k := 8) rfl rfl rfl rfl rfl (fun _ hS => (Jv rfl rfl rfl)) ?_
 refine Jj (k := 9) rfl rfl rfl rfl rfl (fun _ hS => (J9 rfl rfl rfl)) ?_
 refine Jj (k := 10) rfl rfl rfl rfl rfl (fun _ hS => (J9 rfl rfl rfl)) ?_; refine XN (k := 11) (q := 0) (off := 20) (cs' := (wkC g ys.1.length (Vc row) f).toArray) rfl rfl rfl rfl rfl rfl rfl rfl rfl rfl rfl (fun _ h => absurd h List.not_mem_nil) ?_; refine Km ?_; refine JK 9 rfl ?_
 obtain ⟨x0⟩ := Jro ys.1
 have hyl2 : ys.1.length ≤ 1000 := by omega
 have hsy : Seg (JP 48 (KO ys.1) row) ys.1.length (ys.1.flatMap AcL.cells) (Vc row) := KF hrow (by decide)
 refine JJ (yC W g ys.1.length (Vc row) f :: JP 48 (KO ys.1) row) [(0, .pure), (1, .pure), (2, .pure), (3, .pure), (4, .pure), (5, .grow (Qj x0 (fun x => JE ys.1.length x.1) (fun x => JP 48 (ys.1.flatMap AcL.cells) x.1))), (6, .pure), (7, .turn), (8, .pure), (9, .pure), (10, .pure), (11, .pure), (12, .pure), (13, .pure), (14, .pure), (15, .pure)] 16 [0, 1, 2, 3, 4, 6, 9, 10, 11, 12, 13, 14, 5, 7, 8, 15] (by kernel_rfl) (by kernel_rfl) (fun q hq => by rcases List.mem_cons.1 hq with rfl | h; exact List.mem_cons_self ..; exact List.mem_cons_of_mem _ (List.mem_cons_of_mem _ h)) ?_; refine Jj (k := 0) rfl rfl rfl rfl rfl (fun _ hS => (Jd rfl (J2 (k := 0) rfl) rfl rfl)) ?_; refine Jj (k := 1) rfl rfl rfl rfl rfl (fun _ hS => (Jv rfl rfl rfl)) ?_
 refine Jj (k := 2) rfl rfl rfl rfl rfl (fun _ hS => (J9 rfl rfl rfl)) ?_
 refine Jj (k := 3) rfl rfl rfl rfl rfl (fun _ hS => (J9 rfl rfl rfl)) ?_; refine Jj (k := 4) rfl rfl rfl rfl rfl (fun _ hS => (Jd rfl (.inl (hS _ (Jr (n := 0) rfl))) rfl rfl)) ?_; refine Jj (k := 6) rfl rfl rfl rfl rfl (fun _ hS => (Jf rfl)) ?_; refine Jj (k := 9) rfl rfl rfl rfl rfl (fun _ hS => (Jd rfl (J2 (k := 0) rfl) rfl rfl)) ?_; refine Jj (k := 10) rfl rfl rfl rfl rfl (fun _ hS => (Jv rfl rfl rfl)) ?_
 refine Jj (k := 11) rfl rfl rfl rfl rfl (fun _ hS => (J9 rfl rfl rfl)) ?_
 refine Jj (k := 12) rfl rfl rfl rfl rfl (fun _ hS => (J9 rfl rfl rfl)) ?_; refine Jj (k := 13) rfl rfl rfl rfl rfl (fun _ hS => (Jd rfl (.inl (hS _ (Jr (n := 0) rfl))) rfl rfl)) ?_; refine Jj (k := 14) rfl rfl rfl rfl rfl (fun _ hS => (JU rfl rfl)) ?_; refine Qd (k := 5) rfl rfl rfl rfl rfl (enters_of Tryz.func79 (by kernel_rfl) rfl) (Jd2 hyl2 hsy) (fun q hq => .inl (List.mem_cons_of_mem _ hq)) fun x2 => ?_
 obtain ⟨row2, hrow2⟩ := x2
 refine zE (k := 7) (α := CompR ys.1) (V := fun q => q.val) (LL := fun _ => []) (T0 := JP 48 (KO ys.1) row2) (Rl := []) (L0 := yC W g ys.1.length (Vc row) f :: Ja3 rv g.accts.length g.ap :: JP 48 (KO ys.1) row) (E' := fun _ => yC W g ys.1.length (Vc row) f :: Ja3 rv g.accts.length g.ap :: JP 48 (KO ys.1) row) (List.Perm.refl _) (fun x => List.Perm.refl _) rfl rfl rfl rfl rfl (enters_of Tryz.func78 (by kernel_rfl) rfl) (Jly hyl2 hrow2 (enters_of Tryz.func77 (by kernel_rfl) rfl) Jvs) oN (fun _ => (fun q hq => by rcases List.mem_cons.1 hq with rfl | h; exact List.mem_cons_self ..; exact List.mem_cons_of_mem _ (List.mem_cons_of_mem _ h))) fun qq => ?_; refine Jj (k := 8) rfl rfl rfl rfl rfl (fun _ hS => (JU rfl rfl)) ?_; refine Jj (k := 15) rfl rfl rfl rfl rfl (fun _ hS => (Jv rfl rfl rfl)) ?_; refine Km ?_; refine JK 2 rfl ?_; refine cD (fun h6 => ?_) fun h6 => ?_
 refine Ko 7 rfl ?_; refine pT rfl rfl rfl fun w1 hs1 => ?_
 (have ha : Yg (jH ys.1) = true := qq.2.1.1 (by omega)
  exact ⟨⟨ys, row, hrow⟩, by rw [Jgm, if_pos ha]; rfl, hs1.weakL (.cons₂ _ (.cons _ (List.Sublist.refl _)))⟩)
 ·refine JN 3 rfl ?_
  have hst := Jef hg2 ⟨ys, row, hrow⟩
  refine Jq 1 rfl ?_; refine LR rfl (Jd rfl (J2 (k := 0) rfl) rfl rfl) ?_; refine Xa 3 [0] rfl rfl ?_; refine Je rfl rfl rfl Jof (Yc hst) (fun q hq => (List.mem_append.1 hq).elim (fun h => .inl (List.mem_cons_of_mem _ (List.mem_cons_of_mem _ h))) .inr) ?_; refine Jw 4 rfl ?_; refine pT rfl rfl rfl fun w1 hs1 => ?_
  (have ha : ¬ Yg (jH ys.1) = true := fun ha => by
    have := qq.2.1.2 ha
    omega
   exact ⟨⟨ys, row, hrow⟩, by rw [Jgm, if_neg ha]; rfl, hs1.weakL (.cons₂ _ (.cons _ (List.Sublist.refl _)))⟩)
def zF (x y : AcE) : Bool := !Op.bytesLess y.addr x.addr
def QS (l : List AcE) : List AcE := l.mergeSort zF
theorem zG (x y z : AcE) (h1 : zF x y = true) (h2 : zF y z = true) : zF x z = true := by
 simp only [zF, Bool.not_eq_true'] at h1 h2 ⊢
 rcases Xf x.addr z.addr with e | e | e
 ·rw [e]; exact VF _
 ·exact WK e
 ·rcases Xf x.addr y.addr with f | f | f
  ·rw [f] at e; rw [e] at h2; cases h2
  ·have := QB e f; rw [this] at h2; cases h2
  ·rw [f] at h1; cases h1
theorem zH (x y : AcE) : (zF x y || zF y x) = true := by
 simp only [zF]
 rcases Xf x.addr y.addr with e | e | e
 ·rw [e, VF]; rfl
 ·rw [WK e]; rfl
 ·rw [WK e]; simp
theorem yf {x y : AcE} (h1 : zF x y = true) (h2 : zF y x = true) : x.addr = y.addr := by
 simp only [zF, Bool.not_eq_true'] at h1 h2
 rcases Xf x.addr y.addr with e | e | e
 ·exact e
 ·rw [e] at h2; cases h2
 ·rw [e] at h1; cases h1
theorem SortR.pair {xs : List AcL} (ys : SortR xs) : (ys.1.map AcL.er).Pairwise fun x y => zF x y = true := by
 rw [List.pairwise_map]
 rw [List.pairwise_iff_getElem]
 intro i j hi hj hij
 simp only [zF, Bool.not_eq_true']
 exact ys.2.2 i j _ _ hij (List.getElem?_eq_getElem hi) (List.getElem?_eq_getElem hj)
theorem Jju {l : List AcE} (hn : (l.map AcE.addr).Nodup) {x y : AcE} (hx : x ∈ l) (hy : y ∈ l) (h : x.addr = y.addr) : x = y := by
 induction l with
 | nil => cases hx
 | cons a l ih =>
  rw [List.map_cons, List.nodup_cons] at hn
  rcases List.mem_cons.1 hx with rfl | hx2
  ·rcases List.mem_cons.1 hy with rfl | hy2
   ·rfl
   ·exact absurd (h ▸ List.mem_map_of_mem hy2) hn.1
  ·rcases List.mem_cons.1 hy with rfl | hy2
   ·exact absurd (h ▸ List.mem_map_of_mem hx2) hn.1
   ·exact ih hn.2 hx2 hy2
theorem SortR.uniq {xs : List AcL} (ys : SortR xs) (hn : ((xs.map AcL.er).map AcE.addr).Nodup) : ys.1.map AcL.er = QS (xs.map AcL.er) := by
 have hp : (ys.1.map AcL.er).Perm (xs.map AcL.er) := ys.2.1.map _
 have hp2 : (QS (xs.map AcL.er)).Perm (xs.map AcL.er) := List.mergeSort_perm _ _
 have hs2 : (QS (xs.map AcL.er)).Pairwise fun x y => zF x y = true := List.pairwise_mergeSort zG zH _
 exact List.Perm.eq_of_pairwise (fun x y hx hy h1 h2 => Jju hn (hp.mem_iff.1 hx) (hp2.mem_iff.1 hy) (yf h1 h2)) ys.pair hs2 (hp.trans hp2.symm)
theorem zI : ∀ {l : List AcE}, l.Pairwise (fun x y => zF x y = true) → (Yg (l.map AcE.addr) = true ↔ ¬ (l.map AcE.addr).Nodup)
 | [], _ => by simp [Yg]
 | [x], _ => by simp [Yg]
 | x :: y :: l, h => by
  have ih := zI (List.pairwise_cons.1 h).2
  have e : Yg ((x :: y :: l).map AcE.addr) = (decide (x.addr = y.addr) || Yg ((y :: l).map AcE.addr)) := rfl
  rw [e, Bool.or_eq_true, decide_eq_true_eq, ih]
  have e2 : ((x :: y :: l).map AcE.addr).Nodup ↔ x.addr ∉ (y :: l).map AcE.addr ∧ ((y :: l).map AcE.addr).Nodup := List.nodup_cons
  rw [e2]
  constructor
  ·rintro (h1 | h1) ⟨h2, h3⟩
   ·exact h2 (by rw [h1]; exact List.mem_map_of_mem (List.mem_cons_self ..))
   ·exact h1 h3
  ·intro h1
   by_cases h2 : ((y :: l).map AcE.addr).Nodup
   ·left
    by_cases h3 : x.addr ∈ (y :: l).map AcE.addr
    ·obtain ⟨z, hz, hzx⟩ := List.mem_map.1 h3
     have hxy := (List.pairwise_cons.1 h).1 y (List.mem_cons_self ..)
     rcases List.mem_cons.1 hz with rfl | hz
     ·exact hzx.symm
     ·have hyz := (List.pairwise_cons.1 (List.pairwise_cons.1 h).2).1 z hz
      refine yf hxy ?_
      simp only [zF] at hyz ⊢
      rw [← hzx]; exact hyz
    ·exact absurd ⟨h3, h2⟩ h1
   ·exact .inr h2
def V9 (l : List AcE) : Int := if (l.map AcE.addr).Nodup then KR (QS l) else 13
theorem Ja4 {xs : List AcL} (ys : SortR xs) : Jgm ys.1 = V9 (xs.map AcL.er) := by
 have ha : jH ys.1 = (ys.1.map AcL.er).map AcE.addr := by simp [jH, AcL.er]
 have hp : ((ys.1.map AcL.er).map AcE.addr).Perm ((xs.map AcL.er).map AcE.addr) := (ys.2.1.map _).map _
 have h := zI ys.pair
 rw [← ha] at h
 unfold Jgm V9
 by_cases hn : ((xs.map AcL.er).map AcE.addr).Nodup
 ·have : ¬ Yg (jH ys.1) = true := fun h2 => h.1 h2 (ha ▸ hp.nodup_iff.2 hn)
  rw [if_neg this, if_pos hn, ys.uniq hn]
 ·rw [if_neg hn, if_pos (h.2 fun h2 => hn (hp.nodup_iff.1 (ha ▸ h2)))]
def Vh (ts : List Nat) (t : Nat) (rc : Rec) (l : List AcE) : List AcE × Int × Int :=
 if (QT ts t).2 ≠ 0 then ([], 0, (QT ts t).2) else if V9 l ≠ 0 then ([], 0, V9 l) else
  if (QJ (QT ts t).1 (QS l) rc).2 ≠ 0 then ([], 0, (QJ (QT ts t).1 (QS l) rc).2) else ((QJ (QT ts t).1 (QS l) rc).1, (QT ts t).1, 0)
abbrev leL (a b : AcL) : Prop := Op.bytesLess b.addr a.addr = false
structure GenOk (ts : List Nat) (t : Nat) (rc : Rec) (l s : List AcE) (f : Int) : Prop where
  act : QT ts t = (f, 0)
  nd : (l.map AcE.addr).Nodup
  chk : KR (QS l) = 0
  wr : QJ f (QS l) rc = (s, 0)
theorem Jyy {ts : List Nat} {t : Nat} {rc : Rec} {l s : List AcE} {f : Int} (h : Vh ts t rc l = (s, f, 0)) : GenOk ts t rc l s f := by
 unfold Vh at h
 split at h
 ·rename_i h1; exact absurd (Prod.mk.inj (Prod.mk.inj h).2).2 h1
 rename_i h1
 split at h
 ·rename_i h2; exact absurd (Prod.mk.inj (Prod.mk.inj h).2).2 h2
 rename_i h2
 split at h
 ·rename_i h3; exact absurd (Prod.mk.inj (Prod.mk.inj h).2).2 h3
 rename_i h3
 have h1 := Decidable.not_not.1 h1
 have h2 := Decidable.not_not.1 h2
 have h3 := Decidable.not_not.1 h3
 obtain ⟨e1, e2⟩ := Prod.mk.inj h
 have e2 := (Prod.mk.inj e2).1
 unfold V9 at h2
 split at h2
 ·rename_i hn
  exact ⟨by rw [← e2, ← h1], hn, h2, by rw [← e1, ← e2, ← h3]⟩
 ·cases h2
theorem Jv0 {ts : List Nat} {t : Nat} {rc : Rec} {l : List AcE} (h : (Vh ts t rc l).2.2 ≠ 0) : (Vh ts t rc l).1 = [] ∧ (Vh ts t rc l).2.1 = 0 := by
 unfold Vh at h ⊢
 split
 ·exact ⟨rfl, rfl⟩
 ·rename_i h1
  rw [if_neg h1] at h
  split
  ·exact ⟨rfl, rfl⟩
  ·rename_i h2
   rw [if_neg h2] at h
   split
   ·exact ⟨rfl, rfl⟩
   ·rename_i h3
    rw [if_neg h3] at h
    exact absurd rfl h
structure Ov (f : Int) (s t : List AcE) : Prop where
  kept : Kept s t
  fee : ¬ (KE f 1).2 = true → JZ t A1 = JZ s A1
theorem yg {f g : Int} (hg : g ≤ f) (h : (KE g 1).2 = true) : (KE f 1).2 = true := by
 unfold KE at h ⊢
 rw [if_pos rfl] at h ⊢
 split at h
 ·rw [if_pos (by omega)]
 ·cases h
theorem Ov.of {f g : Int} {s t : List AcE} {r : Rec} (hg : g ≤ f) (W : Wrote g s t r) : Ov f s t := ⟨W.kept, fun hf => by
 have h := W.fee
 rw [if_neg fun h2 => hf (yg hg h2)] at h
 exact h⟩
theorem Ov.trans {f g : Int} {s t u : List AcE} (hg : g ≤ f) (h : Ov g s t) (k : Ov f t u) : Ov f s u := ⟨h.kept.trans k.kept, fun hf => (k.fee hf).trans (h.fee fun h2 => hf (yg hg h2))⟩
theorem Ov.mono {f g : Int} {s t : List AcE} (hg : g ≤ f) (h : Ov g s t) : Ov f s t := ⟨h.kept, fun hf => h.fee fun h2 => hf (yg hg h2)⟩
theorem Jeg : ∀ {l m : List BS}, l.Nodup → (∀ x ∈ l, x ∈ m) → l.length ≤ m.length
 | [], _, _, _ => Nat.zero_le _
 | x :: l, m, hn, h => by
  obtain ⟨h1, h2⟩ := List.nodup_cons.1 hn
  have := Jeg h2 (m := m.erase x) fun y hy => (List.mem_erase_of_ne (fun e => h1 (by rw [← e]; exact hy))).2 (h y (List.mem_cons_of_mem _ hy))
  rw [List.length_erase_of_mem (h x List.mem_cons_self)] at this
  have := List.length_pos_of_mem (h x List.mem_cons_self)
  simp only [List.length_cons]; omega
theorem jI {s : List AcE} (h : Ky AcE.addr s) : (s.map AcE.addr).Nodup := by
 unfold List.Nodup
 rw [List.pairwise_map]
 exact h.imp fun h => qu h
theorem Jl1 {f : Int} {s t : List AcE} {r : Rec} (W : Wrote f s t r) : t.length ≤ s.length + 2 := by
 have hs := (W1.1 W.new).2.2
 have h := Jeg (l := t.map AcE.addr) (m := A0 :: A1 :: s.map AcE.addr) (jI hs) fun k hk => by
  obtain ⟨a, ha, rfl⟩ := List.mem_map.1 hk
  by_cases h0 : a.addr = A0
  ·rw [h0]; exact List.mem_cons_self
  by_cases h1 : a.addr = A1
  ·rw [h1]; exact List.mem_cons_of_mem _ List.mem_cons_self
  have e := W.others a.addr h0 h1
  have e2 : JZ t a.addr = some a := XQ hs ha
  rw [e2] at e
  obtain ⟨g1, g2⟩ := Zc e.symm
  exact List.mem_cons_of_mem _ (List.mem_cons_of_mem _ (List.mem_map.2 ⟨a, g2, rfl⟩))
 simpa using h
theorem Jv1 {ts : List Nat} {t : Nat} {rc : Rec} {l s : List AcE} {f : Int} (h : GenOk ts t rc l s f) : s.length ≤ l.length + 2 := by
 have := Jl1 (Jck h.wr)
 rw [show (QS l).length = l.length from (List.mergeSort_perm l zF).length_eq] at this
 exact this
theorem Jrp {ts : List Nat} {t : Nat} {rc : Rec} {l s : List AcE} {f : Int} (h : GenOk ts t rc l s f) {a : AcE} (ha : a ∈ l) :
  (JZ s a.addr).isSome = true ∧ (a.addr ≠ A0 → a.addr ≠ A1 → JZ s a.addr = some a) ∧ (Q1 s a.addr).nonce = a.nonce ∧ (Q1 s a.addr).bal = a.bal := by
 have K := (Jck h.wr).kept
 have e : JZ (QS l) a.addr = some a := XQ (W1.1 h.chk).2.2 ((List.mergeSort_perm l zF).mem_iff.2 ha)
 have e2 : Q1 (QS l) a.addr = a := by unfold Q1; rw [e]; rfl
 refine ⟨K.there _ (by rw [e]; rfl), fun h0 h1 => (K.others _ h0 h1).trans e, ?_, ?_⟩
 ·rw [K.nonce, e2]
 ·rw [K.bal, e2]
theorem Jwq : ∀ s : BS, wL (s.map ZN) = s.length
 | [] => by rw [List.map_nil, wL]; rfl
 | b :: s => by rw [List.map_cons, wL, Jwq s, List.length_cons]; show Y1 (.mk b.toNat 0 0 0 [] none [] none 0) + s.length = _; rw [Y1, wL]; simp; omega
theorem Jjv (s : BS) : Y1 (yA s) = 1 + s.length := by unfold yA KY; rw [Y1, Jwq]; simp
theorem Jrq : ∀ l : List (BS × BS), (∀ x ∈ l, x.1.length = 32 ∧ x.2.length = 32) → wL (l.map wH) = 67 * l.length
 | [], _ => by rw [List.map_nil, wL]; rfl
 | x :: l, h => by
  obtain ⟨h1, h2⟩ := h x List.mem_cons_self
  rw [List.map_cons, wL, Jrq l fun y hy => h y (List.mem_cons_of_mem _ hy), List.length_cons]
  unfold wH KY
  rw [Y1, wL, wL, wL, Jjv, Jjv, h1, h2]; simp; omega
def wA (a : AcE) : Nat := 26 + a.code.length + 67 * a.slots.length
theorem J0t {a : AcE} (h : WB a = 0) : Y1 (acV a) = wA a := by
 obtain ⟨h1, h2, _⟩ := QQ h
 unfold acV KY wA
 rw [Y1, wL, wL, wL, wL, wL, wL, Jjv, Jjv, Y1, Y1, Y1, wL, Jrq _ fun x hx => ⟨(h2 x hx).1, (h2 x hx).2.1⟩, h1]; simp; omega
def wS (l : List AcE) : Nat := (l.map wA).sum
theorem Jwr : ∀ l : List AcE, (∀ a ∈ l, WB a = 0) → wL (l.map acV) = wS l
 | [], _ => by rw [List.map_nil, wL]; simp [wS]
 | a :: l, h => by
  have ih := Jwr l fun b hb => h b (List.mem_cons_of_mem _ hb)
  rw [List.map_cons, wL, J0t (h a List.mem_cons_self), ih]
  unfold wS
  rw [List.map_cons, List.sum_cons]
theorem Jrr {l : List AcE} (h : KR l = 0) : Y1 (YR l) = 1 + wS l := by
 unfold YR KY
 rw [Y1, Jwr l (W1.1 h).2.1]; simp
def slN (l : List AcE) : Nat := (l.map fun a => a.slots.length).sum
theorem Jrs {a : AcE} (h : XH a = true) (h2 : a.code.length ≤ 512) : a.code.length ≤ 60 := by
 unfold XH at h
 simp only [Bool.and_eq_true, Bool.not_eq_true', Bool.or_eq_false_iff, Bool.and_eq_false_iff, decide_eq_false_iff_not] at h
 omega
theorem Jrt : ∀ l : List AcE, (∀ a ∈ l, WB a = 0 ∧ XH a = true) → wS l ≤ 86 * l.length + 67 * slN l
 | [], _ => by simp [wS]
 | a :: l, h => by
  obtain ⟨h1, h2⟩ := h a List.mem_cons_self
  have ih := Jrt l fun b hb => h b (List.mem_cons_of_mem _ hb)
  have hc := Jrs h2 (QQ h1).2.2.2.1
  unfold wS slN wA at ih ⊢
  rw [List.map_cons, List.sum_cons, List.map_cons, List.sum_cons, List.length_cons]
  omega
theorem Jjw : ∀ (l : List AcE) (i : Nat) (n : Int), i + l.length ≤ 41 → (Zu i n l).1 = true → (∀ a ∈ l, XH a = true) ∧ (Zu i n l).2 = n + (slN l : Int)
 | [], i, n, _, _ => ⟨fun a ha => (nomatch ha), by unfold Zu slN; simp⟩
 | a :: l, i, n, hl, h => by
  rw [List.length_cons] at hl
  unfold Zu at h ⊢
  rw [if_neg (by omega)] at h ⊢
  by_cases hf : XH a = false
  ·rw [if_pos hf] at h; cases h
  ·rw [if_neg hf] at h ⊢
   obtain ⟨h1, h2⟩ := Jjw l (i + 1) (n + (a.slots.length : Int)) (by omega) h
   refine ⟨fun b hb => ?_, ?_⟩
   ·rcases List.mem_cons.1 hb with rfl | hb
    ·simpa using hf
    ·exact h1 b hb
   ·rw [h2]; unfold slN; rw [List.map_cons, List.sum_cons]; omega
theorem Jjx {l : List AcE} (h : ZI l = true) : l.length ≤ 40 ∧ (∀ a ∈ l, XH a = true) ∧ slN l ≤ 40 := by
 unfold ZI at h
 simp only [Bool.and_eq_true, decide_eq_true_eq] at h
 obtain ⟨h1, h2, h3⟩ := h
 obtain ⟨g1, g2⟩ := Jjw l 0 0 (by omega) h1
 exact ⟨h2, g1, by omega⟩
theorem Jjy {l m : List AcE} (h : l.Perm m) : wS l = wS m := (h.map wA).sum_nat
theorem Jws : ∀ {l m : List AcE}, l.Nodup → (∀ x ∈ l, x ∈ m) → wS l ≤ wS m
 | [], _, _, _ => by simp [wS]
 | x :: l, m, hn, h => by
  obtain ⟨h1, h2⟩ := List.nodup_cons.1 hn
  have ih := Jws h2 (m := m.erase x) fun y hy => (List.mem_erase_of_ne (fun e => h1 (by rw [← e]; exact hy))).2 (h y (List.mem_cons_of_mem _ hy))
  have hp := Jjy (List.perm_cons_erase (h x List.mem_cons_self))
  rw [hp]
  unfold wS at ih ⊢
  rw [List.map_cons, List.sum_cons, List.map_cons, List.sum_cons]
  omega
theorem Jru {a : AcE} (h : WB a = 0) : wA a ≤ 1610 := by
 obtain ⟨_, _, _, h4, h5⟩ := QQ h
 unfold wA; omega
theorem Jrv (s : List AcE) (hs : KR s = 0) (k : BS) : wA (Q1 s k) ≤ 1610 := by
 unfold Q1
 cases h : JZ s k with
 | none => simp [wA, ac0]
 | some a => exact Jru (jt hs h).2
theorem Jrw {f : Int} {s t : List AcE} {r : Rec} (W : Wrote f s t r) : wS t ≤ wS s + 3220 := by
 have hs := (W1.1 W.new).2.2
 have hn : t.Nodup := by
  have := jI hs
  unfold List.Nodup at this ⊢
  rw [List.pairwise_map] at this
  exact this.imp fun h e => h (by rw [e])
 have h := Jws (m := Q1 t A0 :: Q1 t A1 :: s) hn fun a ha => by
  have e2 : JZ t a.addr = some a := XQ hs ha
  by_cases h0 : a.addr = A0
  ·have : Q1 t A0 = a := by unfold Q1; rw [← h0, e2]; rfl
   rw [this]; exact List.mem_cons_self
  by_cases h1 : a.addr = A1
  ·have : Q1 t A1 = a := by unfold Q1; rw [← h1, e2]; rfl
   rw [this]; exact List.mem_cons_of_mem _ List.mem_cons_self
  rw [W.others a.addr h0 h1] at e2
  exact List.mem_cons_of_mem _ (List.mem_cons_of_mem _ (Zc e2).2)
 have g0 := Jrv t W.new A0
 have g1 := Jrv t W.new A1
 unfold wS at h ⊢
 rw [List.map_cons, List.sum_cons, List.map_cons, List.sum_cons] at h
 omega
theorem Jrx {ts : List Nat} {t : Nat} {rc : Rec} {l s : List AcE} {f : Int} (h : GenOk ts t rc l s f) (hf : ZI l = true) : KR s = 0 ∧ Y1 (YR s) ≤ 20000 := by
 have W := Jck h.wr
 obtain ⟨f1, f2, f3⟩ := Jjx hf
 obtain ⟨c1, c2, _⟩ := W1.1 h.chk
 have hp := List.mergeSort_perm l zF
 have hlk : ∀ a ∈ l, WB a = 0 ∧ XH a = true := fun a ha => ⟨c2 a (hp.mem_iff.2 ha), f2 a ha⟩
 have h1 := Jrt l hlk
 have h2 := Jrw W
 rw [show wS (QS l) = wS l from Jjy hp] at h2
 have h3 := (W1.1 W.new).1
 exact ⟨W.new, by rw [Jrr W.new]; omega⟩
def W9 (s : List AcE) : List AcE := [(JZ s A0).getD ac0]
theorem Jry {f : Int} {s t : List AcE} {r : Rec} (W : Wrote f s t r) : KR (W9 t) = 0 ∧ Y1 (YR (W9 t)) ≤ 20000 := by
 obtain ⟨b, b1, b2, _⟩ := W.acct
 have e : W9 t = [b] := by unfold W9; rw [b1]; rfl
 have hc : KR [b] = 0 := by rw [chk_one]; exact b2
 rw [e]
 refine ⟨hc, ?_⟩
 have := Jru b2
 rw [Jrr hc]
 unfold wS
 simp only [List.map_cons, List.map_nil, List.sum_cons, List.sum_nil]
 omega
def yD (f : Int) : Int := Jjm (vl f 5)
def yh (ts : List Nat) (t : Nat) (rc : Rec) (l : List AcE) : BS × Int :=
 if (Vh ts t rc l).2.2 ≠ 0 then ([], (Vh ts t rc l).2.2) else (Xq t (Qz (Vh ts t rc l).1).1, 0)
def Ja5 (f : Int) (rc : Rec) : Nat := if yD f = 1 then rc.number else 0
def ZJ (ts : List Nat) (t : Nat) (rc : Rec) (l : List AcE) : BS × Int :=
 if (Vh ts t rc l).2.2 ≠ 0 then ([], (Vh ts t rc l).2.2) else
  Xp (yD (Vh ts t rc l).2.1) [(Qz (Vh ts t rc l).1).1, (Qz (W9 (Vh ts t rc l).1)).1, Xq t (Qz (Vh ts t rc l).1).1] (Ja5 (Vh ts t rc l).2.1 rc)
theorem Jyz (f : Int) : yD f = 0 ∨ yD f = 1 := by
 unfold yD Jjm
 by_cases h : (vl f 5) = []
 ·rw [h]; exact .inl rfl
 ·have hl : (vl f 5).length - 1 < (vl f 5).length := by have := List.length_pos_iff.2 h; omega
  have hm : (vl f 5).getD ((vl f 5).length - 1) 0 ∈ vl f 5 := by
   rw [List.getD_eq_getElem?_getD, List.getElem?_eq_getElem hl, Option.getD_some]; exact List.getElem_mem hl
  have hm2 := (List.mem_filter.1 hm).1
  simpa [qI] using hm2
theorem zJ {l : List AcE} (h : KR l = 0) (hn : ∀ a ∈ l, VM a.nonce) : (Qz l).1.length = 32 ∧ (Qz l).2 = 0 := by
 rw [Jd6 h (Jat h hn)]
 exact ⟨WS _ _ 0 Ji5 (Jat h hn), rfl⟩
def U1 : BS := [173, 50, 40, 182, 118, 247, 211, 205, 66, 132, 165, 68, 63, 23, 241, 150, 43, 54, 228, 145, 179, 10, 64, 178, 64, 88, 73, 229, 151, 186, 95, 181]
def U2 : BS := [180, 193, 25, 81, 149, 124, 111, 143, 100, 44, 74, 246, 28, 214, 178, 70, 64, 254, 198, 220, 127, 198, 7, 238, 130, 6, 169, 158, 146, 65, 13, 48]
def U3 : BS := [33, 221, 185, 163, 86, 129, 92, 63, 172, 16, 38, 182, 222, 197, 223, 49, 36, 175, 186, 219, 72, 92, 155, 165, 163, 227, 57, 138, 4, 183, 186, 133]
def U4 : BS := [229, 135, 105, 179, 42, 27, 234, 241, 234, 39, 55, 90, 68, 9, 90, 13, 31, 182, 100, 206, 45, 211, 88, 231, 252, 191, 183, 140, 38, 161, 147, 68]
def U5 : BS := [14, 176, 30, 191, 201, 237, 39, 80, 12, 212, 223, 201, 121, 39, 45, 31, 9, 19, 204, 159, 102, 84, 13, 126, 128, 5, 129, 17, 9, 225, 207, 45]
def Jv2 : BS := [111, 110, 101, 0, 0, 0, 0, 0, 0, 0, 0, 0, 0, 0, 0, 0, 0, 0, 0, 0, 0, 0, 0, 0, 0, 0, 0, 0, 0, 0, 0, 0]
def UAd : BS := [66, 0, 0, 0, 0, 0, 0, 0, 0, 0, 0, 0, 0, 0, 0, 0, 0, 0, 0, 1, 0, 0, 0, 0, 0, 0, 0, 0, 0, 0, 0, 0]
def U6 : BS := [35, 243, 31, 87, 200, 20, 215, 123, 214, 192, 83, 67, 196, 40, 91, 130, 219, 75, 152, 38, 171, 132, 39, 130, 169, 132, 223, 125, 157, 106, 47, 69]
def U7 : BS := [131, 241, 113, 45, 226, 69, 37, 146, 43, 71, 20, 186, 3, 103, 171, 114, 46, 40, 106, 0, 255, 158, 222, 54, 24, 194, 237, 212, 173, 254, 220, 131]
def U8 : BS := [242, 186, 62, 27, 111, 140, 127, 23, 29, 217, 54, 77, 62, 57, 244, 120, 135, 65, 67, 42, 144, 41, 240, 241, 210, 153, 39, 8, 186, 55, 34, 213]
def U9 : BS := [33, 180, 236, 129, 209, 3, 231, 208, 120, 175, 195, 1, 158, 91, 71, 27, 49, 166, 79, 106, 42, 35, 105, 27, 30, 222, 120, 211, 167, 168, 139, 135]
def U10 : BS := [125, 225, 35, 91, 207, 235, 186, 242, 16, 196, 211, 228, 105, 77, 66, 123, 190, 229, 22, 9, 253, 235, 200, 196, 240, 97, 205, 75, 152, 210, 249, 126]
def U11 : BS := [50, 178, 115, 232, 148, 162, 253, 184, 200, 103, 108, 40, 44, 53, 250, 226, 67, 39, 85, 153, 173, 52, 25, 113, 190, 215, 6, 171, 166, 218, 61, 3]
def U12 : BS := [113, 204, 200, 86, 198, 253, 158, 85, 5, 131, 130, 73, 154, 154, 255, 0, 169, 41, 85, 96, 145, 202, 185, 51, 234, 104, 27, 232, 152, 96, 71, 248]
def U13 : BS := [132, 90, 164, 89, 164, 191, 80, 223, 178, 73, 159, 94, 140, 113, 233, 133, 102, 110, 174, 45, 34, 63, 195, 68, 238, 232, 104, 179, 81, 128, 234, 139]
def U14 : BS := [235, 114, 203, 217, 247, 64, 52, 193, 8, 30, 239, 190, 180, 198, 98, 176, 42, 249, 8, 173, 66, 240, 249, 56, 193, 75, 35, 171, 233, 208, 193, 195]
def U15 : BS := [164, 30, 190, 90, 41, 216, 190, 217, 85, 253, 216, 224, 7, 23, 171, 243, 88, 41, 83, 46, 207, 20, 69, 81, 243, 174, 71, 105, 10, 76, 147, 226]
def U16 : BS := [105, 102, 245, 27, 161, 222, 241, 181, 192, 86, 124, 98, 245, 190, 192, 54, 192, 63, 144, 3, 170, 4, 51, 225, 238, 10, 187, 77, 166, 236, 80, 115]
def U17 : BS := [10, 27, 235, 237, 66, 167, 30, 71, 6, 137, 246, 233, 78, 173, 243, 225, 156, 94, 59, 228, 197, 207, 199, 254, 209, 32, 79, 241, 25, 121, 182, 70]
def U18 : BS := [45, 63, 26, 239, 217, 230, 108, 101, 248, 231, 99, 101, 145, 158, 81, 76, 1, 45, 239, 215, 186, 35, 73, 247, 12, 176, 246, 235, 168, 152, 41, 208]
def U19 : BS := [83, 222, 232, 149, 76, 179, 109, 14, 136, 74, 190, 125, 178, 41, 59, 97, 160, 72, 246, 61, 180, 126, 236, 139, 6, 133, 137, 19, 179, 63, 187, 122]
def U20 : BS := [17, 238, 144, 76, 186, 158, 216, 91, 9, 196, 227, 243, 243, 253, 17, 83, 74, 68, 104, 161, 76, 150, 16, 48, 11, 32, 58, 250, 73, 27, 28, 188]
def U21 : BS := [220, 132, 225, 78, 18, 16, 82, 55, 250, 166, 171, 196, 184, 137, 66, 234, 243, 70, 30, 243, 118, 93, 157, 90, 173, 62, 193, 0, 44, 42, 179, 104]
def U22 : BS := [168, 203, 117, 212, 196, 131, 35, 196, 128, 0, 198, 72, 59, 250, 217, 105, 45, 64, 183, 82, 19, 160, 167, 124, 155, 84, 205, 96, 106, 220, 133, 188]
def U23 : BS := [226, 171, 200, 37, 18, 134, 109, 196, 173, 119, 38, 26, 229, 87, 194, 26, 95, 114, 197, 167, 124, 172, 103, 224, 254, 45, 15, 145, 239, 132, 203, 46]
def ULe : BS := [6, 0, 0, 0, 0, 0, 0, 0]
def U24 : BS := [42, 123, 160, 192, 217, 163, 200, 255, 136, 106, 193, 125, 8, 79, 43, 190, 169, 215, 147, 160, 73, 244, 233, 147, 58, 4, 119, 152, 128, 29, 116, 250]
def UHd : BS := [0, 0, 0, 0, 0, 0, 0, 0, 0, 0, 0, 0, 0, 0, 0, 0, 0, 0, 0, 0, 0, 0, 0, 0, 0, 0, 0, 0, 0, 0, 0, 0]
def U25 : BS := [156, 238, 190, 167, 74, 13, 235, 10, 52, 177, 34, 104, 132, 238, 41, 29, 152, 1, 252, 49, 101, 106, 191, 80, 101, 242, 97, 240, 51, 57, 169, 37]
theorem uq1 : Wz (z32 ++ z32) = U1 := by decide +kernel
theorem uq2 : Wz (U1 ++ U1) = U2 := by decide +kernel
theorem uq3 : Wz (U2 ++ U2) = U3 := by decide +kernel
theorem uq4 : Wz (U3 ++ U3) = U4 := by decide +kernel
theorem uq5 : Wz (U4 ++ U4) = U5 := by decide +kernel
theorem uq6 : Wz (Jv2 ++ z32) = U6 := by decide +kernel
theorem uq7 : Wz (U6 ++ U1) = U7 := by decide +kernel
theorem uq8 : Wz (U7 ++ U2) = U8 := by decide +kernel
theorem uq9 : Wz (U8 ++ U3) = U9 := by decide +kernel
theorem J16 : Ys U9 3 = U10 := by decide +kernel
theorem J17 : Ys U4 0 = U11 := by decide +kernel
theorem J18 : Wz (UAd ++ z32) = U12 := by decide +kernel
theorem J19 : Wz (z32 ++ U10) = U13 := by decide +kernel
theorem J2a : Wz (U11 ++ z32) = U14 := by decide +kernel
theorem J2b : Wz (U12 ++ U13) = U15 := by decide +kernel
theorem J2c : Wz (U14 ++ U1) = U16 := by decide +kernel
theorem J2d : Wz (U15 ++ U16) = U17 := by decide +kernel
theorem J2e : Wz (U17 ++ z32) = U18 := by decide +kernel
theorem J2f : Wz (U18 ++ U1) = U19 := by decide +kernel
theorem J2g : Wz (U19 ++ U2) = U20 := by decide +kernel
theorem J2h : Wz (U20 ++ U3) = U21 := by decide +kernel
theorem J2i : Wz (U21 ++ U4) = U22 := by decide +kernel
theorem J2j : Ys U22 1 = U23 := by decide +kernel
theorem J2k : Wz (ULe ++ U23) = U24 := by decide +kernel
theorem J2l : Wz (UHd ++ [U23, U23, U24].flatten) = U25 := by decide +kernel
theorem jJ (k : Nat) (a z : BS) : Vw (k + 1) [a] z = Vw k [Wz (a ++ z)] (Wz (z ++ z)) := rfl
theorem Jjz (k : Nat) (z : BS) : Vw (k + 1) [] z = Vw k [] (Wz (z ++ z)) := rfl
theorem J0u (k : Nat) (a b z : BS) : Vw (k + 1) [a, b] z = Vw k [Wz (a ++ b)] (Wz (z ++ z)) := by rw [Vw]; simp [Qk, SL.pairUp]
theorem J0v (k : Nat) (a b c z : BS) : Vw (k + 1) [a, b, c] z = Vw k [Wz (a ++ b), Wz (c ++ z)] (Wz (z ++ z)) := by rw [Vw]; simp [Qk, SL.pairUp]
theorem J0w (k : Nat) (a b c d e z : BS) : Vw (k + 1) [a, b, c, d, e] z = Vw k [Wz (a ++ b), Wz (c ++ d), Wz (e ++ z)] (Wz (z ++ z)) := by rw [Vw]; simp [Qk, SL.pairUp]
theorem Jrz (a z : BS) : Vw 0 [a] z = a := rfl
theorem J0x (z : BS) : Vw 0 [] z = z := rfl
theorem zK {l : List Vl} {x : Ty} {n : Int} (hx : Xn x = false) : KS (KY l 0) (.mk 4 n none [x]) = Ys (Vd (JY l 4 0 [x] 0) n.toNat) l.length := by
 unfold KY
 rw [Xo, if_neg (by decide), if_pos rfl]
 unfold WM
 rw [if_neg (by decide), if_neg (by rw [show [x].getD 0 default = x from rfl, hx]; decide)]
theorem Jr0 {l : List Vl} {ins : List Ty} : KS (KY l 0) (.mk 7 0 none ins) = Vd (JY l 7 0 ins 0) ins.length := by
 unfold KY
 rw [Xo, if_neg (by decide), if_neg (by decide), if_neg (by decide), if_neg (by decide), if_neg (by decide)]
 unfold WM
 rw [if_pos rfl]
def b25 : AcE := ⟨A0, 0, w40, cOne, []⟩
theorem Jl3 : KS (yA cOne) (Xv 4 512) = U10 := by
 have e1 : WM 4 512 [byT] (cOne.map ZN) (JY (cOne.map ZN) 4 0 [byT] 0) = Vd [Jv2] 16 := by
  unfold WM
  rw [if_neg (by decide), if_pos (by decide +kernel), show Yv (WL (cOne.map ZN) ([byT].getD 0 default)) = [Jv2] by decide +kernel, show ((512 : Int).toNat * (KX ([byT].getD 0 default)).toNat + 31) / 32 = 16 by decide +kernel]
 have e2 : Vd [Jv2] 16 = U9 := by
  rw [← jw (by decide), show lg 16 = 4 by decide +kernel, jJ, uq6, uq1, jJ, uq7, uq2, jJ, uq8, uq3, jJ, uq9, uq4, Jrz]
 unfold yA KY Xv
 rw [Xo, if_neg (by decide), if_pos rfl]
 show Ys (WM 4 512 [byT] (cOne.map ZN) (JY (cOne.map ZN) 4 0 [byT] 0)) 3 = _
 rw [e1, e2, J16]
theorem Jr1 : KS (yA A0) (Xv 3 20) = UAd := by decide +kernel
theorem Jgo : KS (KY [] 0) (.mk 4 16 none [Jad]) = U11 := by
 rw [zK (by decide +kernel)]
 show Ys (Vd [] 16) 0 = _
 rw [← jw (by decide), show lg 16 = 4 by decide +kernel, Jjz, uq1, Jjz, uq2, Jjz, uq3, Jjz, uq4, J0x, J17]
theorem Jv3 : KS (acV b25) acT = U17 := by
 unfold acV acT
 rw [Jr0]
 show Vd [KS (yA A0) (Xv 3 20), KS (.mk 0 0 0 0 [] none [] none 0) (.mk 1 8 none []), KS (.mk 0 0 0 0 [] none [] none 0) (.mk 1 32 none []), KS (yA cOne) (Xv 4 512), KS (KY [] 0) (.mk 4 16 none [Jad])] 5 = _
 rw [Jr1, Jl3, Jgo, show KS (.mk 0 0 0 0 [] none [] none 0) (.mk 1 8 none []) = z32 by decide +kernel, show KS (.mk 0 0 0 0 [] none [] none 0) (.mk 1 32 none []) = z32 by decide +kernel, ← jw (by decide), show lg 5 = 3 by decide +kernel, J0w, J18, J19, J2a, uq1, J0v, J2b, J2c, uq2, J0u, J2d, Jrz]
theorem Jr2 : KS (YR [b25]) qf = U23 := by
 unfold YR qf
 rw [zK (by decide +kernel)]
 show Ys (Vd [KS (acV b25) acT] 32) 1 = _
 rw [Jv3, ← jw (by decide), show lg 32 = 5 by decide +kernel, jJ, J2e, uq1, jJ, J2f, uq2, jJ, J2g, uq3, jJ, J2h, uq4, jJ, J2i, uq5, Jrz, J2j]
theorem J0y : KR [b25] = 0 := by decide +kernel
theorem J0z : Qz [b25] = (U23, 0) := by rw [Jd6 J0y (by decide +kernel), Jr2]
theorem J00 : Xq 6 U23 = U24 := by
 unfold Xq
 rw [show (yw 6 8).1 = ULe by decide +kernel, J2k]
theorem J2m : yD 0 = 0 := by decide +kernel
theorem J2n : Xp 0 [U23, U23, U24] 0 = (U25, 0) := by
 have e : Wy 0 [U23, U23, U24] 0 = (UHd ++ [U23, U23, U24].flatten, 0) := by decide +kernel
 unfold Xp
 rw [e, if_pos rfl, J2l]
theorem J2o : U24 ≠ U25 := by decide +kernel
theorem Jeh {l m : List AcE} (h : m.Perm l) (hp : m.Pairwise fun x y => zF x y = true) (hn : (l.map AcE.addr).Nodup) : QS l = m := by
 have h1 : (QS l).Perm l := List.mergeSort_perm _ _
 exact List.Perm.eq_of_pairwise (fun x y hx hy a b => Jju hn (h1.mem_iff.1 hx) (h.mem_iff.1 hy) (yf a b)) (List.pairwise_mergeSort zG zH _) hp (h1.trans h.symm)
def yq (b : BS) : AcE := ⟨b, 0, w40, [], []⟩
def yi : BS := List.replicate 20 0
def m25 : BS := 98 :: List.replicate 19 0
theorem Jy0 : Vh [5, 9] 6 rec0 [] = ([b25], 0, 0) := by
 have e : QS [] = [] := Jeh (List.Perm.refl _) List.Pairwise.nil List.nodup_nil
 have e1 : V9 [] = 0 := by unfold V9; rw [e]; decide +kernel
 unfold Vh
 rw [e1, e, show QT [5, 9] 6 = (0, 0) by decide +kernel, show QJ 0 [] rec0 = ([b25], 0) by decide +kernel]
 rfl
theorem J2p : Vh [5, 9] 6 rec0 [yq m25, yq yi] = ([yq yi, b25, yq m25], 0, 0) := by
 have hn : ([yq m25, yq yi].map AcE.addr).Nodup := by decide +kernel
 have e : QS [yq m25, yq yi] = [yq yi, yq m25] := Jeh (List.Perm.swap _ _ _) (by decide +kernel) hn
 have e1 : V9 [yq m25, yq yi] = 0 := by unfold V9; rw [if_pos hn, e]; decide +kernel
 unfold Vh
 rw [e1, e, show QT [5, 9] 6 = (0, 0) by decide +kernel, show QJ 0 [yq yi, yq m25] rec0 = ([yq yi, b25, yq m25], 0) by decide +kernel]
 rfl
theorem J2q : Vh [5, 9] 6 rec0 [yq m25, yq yi, yq yi] = ([], 0, 13) := by
 have e1 : V9 [yq m25, yq yi, yq yi] = 13 := by unfold V9; rw [if_neg (by decide +kernel)]
 unfold Vh
 rw [e1, show QT [5, 9] 6 = (0, 0) by decide +kernel]
 rfl
theorem J2r (l : List AcE) : Vh [5, 9] 4 rec0 l = ([], 0, 10) := by
 unfold Vh
 rw [show QT [5, 9] 4 = (0, 10) by decide +kernel]
 rfl
theorem J2s : yh [5, 9] 6 rec0 [] = (U24, 0) := by
 unfold yh
 rw [Jy0]
 show (if (0 : Int) ≠ 0 then _ else (Xq 6 (Qz [b25]).1, 0)) = _
 rw [if_neg (by simp), J0z, J00]
theorem J2t : ZJ [5, 9] 6 rec0 [] = (U25, 0) := by
 have e : W9 [b25] = [b25] := by decide +kernel
 unfold ZJ
 rw [Jy0]
 show (if (0 : Int) ≠ 0 then _ else Xp (yD 0) [(Qz [b25]).1, (Qz (W9 [b25])).1, Xq 6 (Qz [b25]).1] (Ja5 0 rec0)) = _
 rw [if_neg (by simp), e, J0z, J2m, J00, show Ja5 0 rec0 = 0 by decide +kernel]
 exact J2n
structure BldR (R : Ji) (e : List AcE × Int × Int) : Type where
  s : StL
  f : Int
  err : Int
  L : Ji
  ok : s.In (L ++ R)
  eq : (s.er, f, err) = e
def BldR.val {R : Ji} {e : List AcE × Int × Int} (x : BldR R e) : Value := .tuple #[x.s.val, .int .i64 x.f, .int .i64 x.err]
structure BSt : Type where
  i : Nat
  n : Nat
  p : Pl
  f : Int
  L : Ji
def BSt.ok (R : Ji) (g : GenL) (b : BSt) : Prop :=
 (b.i = 0 ∧ b.n = 0 ∧ b.p = none ∧ b.f = 0 ∧ b.L = []) ∨
 (b.i = 1 ∧ b.n = 0 ∧ b.p = none ∧ b.f = (QT g.ts g.time).1 ∧ (QT g.ts g.time).2 = 0 ∧ b.L = []) ∨
 (b.i = 2 ∧ b.f = (QT g.ts g.time).1 ∧ (QT g.ts g.time).2 = 0 ∧ ∃ x : Step2R g, Jgm x.ys.1 = 0 ∧ b.n = x.ys.1.length ∧ b.p = Vc x.row ∧ b.L = x.L) ∨
 (b.i = 3 ∧ b.f = (QT g.ts g.time).1 ∧ (QT g.ts g.time).2 = 0 ∧ V9 (g.accts.map AcL.er) = 0 ∧ ∃ s : StL, s.In (b.L ++ R) ∧ b.n = s.accts.length ∧ b.p = s.p ∧ (s.er, (0 : Int)) = QJ b.f (QS (g.accts.map AcL.er)) g.rc)
theorem Jy1 {ts : List Nat} {t : Nat} {rc : Rec} {l : List AcE} (h : (QT ts t).2 = 0) (h2 : V9 l ≠ 0) : Vh ts t rc l = ([], 0, V9 l) := by unfold Vh; rw [if_neg (by simpa using h), if_pos h2]
theorem Jr3 {ts : List Nat} {t : Nat} {rc : Rec} {l : List AcE} (h : (QT ts t).2 = 0) (h2 : V9 l = 0) : Vh ts t rc l = if (QJ (QT ts t).1 (QS l) rc).2 ≠ 0 then ([], 0, (QJ (QT ts t).1 (QS l) rc).2) else ((QJ (QT ts t).1 (QS l) rc).1, (QT ts t).1, 0) := by
 unfold Vh; rw [if_neg (by simpa using h), if_neg (by simpa using h2)]
structure BStep (R : Ji) (g : GenL) (b : BSt) : Type where
  n : Nat
  p : Pl
  f : Int
  err : Int
  L : Ji
  ok : err = 0 → BSt.ok R g ⟨b.i + 1, n, p, f, L ++ b.L⟩
  bad : err ≠ 0 → Vh g.ts g.time g.rc g.ac = ([], 0, err)
def fnN (i : Nat) : FuncId := if i = 0 then 70 else if i = 1 then 72 else 80
theorem Jgp (i : Nat) : Enters Tryz.prog (fnN i) := by
 unfold fnN
 split
 ·exact enters_of Tryz.func70 (by kernel_rfl) rfl
 ·split
  ·exact enters_of Tryz.func72 (by kernel_rfl) rfl
  ·exact enters_of Tryz.func80 (by kernel_rfl) rfl
theorem Jr4 {l : List AcE} (h : V9 l = 0) : (l.map AcE.addr).Nodup := by
 unfold V9 at h
 split at h
 ·assumption
 ·cases h
theorem Jv4 {R : Ji} {g : GenL} (hg : g.In R) (hf : g.accts.length ≤ 1000) {b : BSt} (hb : b.ok R g) (hi : b.i < 3) (rp W : Nat) :
  PureT (α := BStep R g b) Tryz.prog (fnN b.i) [Ql rp 0].toArray (fun y => .int .i64 y.err) [yC W g b.n b.p b.f] (fun y => yC W g y.n y.p y.f :: y.L) (rpB rp W :: (b.L ++ R)) := by
 obtain ⟨i, n, p, f, L⟩ := b
 rcases hb with ⟨h1, h2, h3, h4, h5⟩ | ⟨h1, h2, h3, h4, h5, h6⟩ | ⟨h1, h2, h3, x, h4, h5, h6, h7⟩ | ⟨h1, _⟩
 ·simp only at h1 h2 h3 h4 h5
  subst h1 h2 h3 h4 h5; exact (Jvx hg rp W 0 none 0).map (fun _ => ⟨0, none, (QT g.ts g.time).1, (QT g.ts g.time).2, [], fun h => .inr (.inl ⟨rfl, rfl, rfl, rfl, h, rfl⟩), fun h => by unfold Vh; rw [if_pos h]⟩) (fun _ => rfl) fun _ => List.Sublist.refl _
 ·simp only at h1 h2 h3 h4 h6
  subst h1 h2 h3 h4 h6
  exact (Jvz hg hf rp W 0 none _).map (fun x => ⟨x.ys.1.length, Vc x.row, (QT g.ts g.time).1, Jgm x.ys.1, x.L, fun h => .inr (.inr (.inl ⟨rfl, rfl, h5, x, h, rfl, rfl, List.append_nil _⟩)), fun h => by
   have h2 : V9 g.ac ≠ 0 := by rw [Ja4] at h; exact h
   rw [Ja4]; exact Jy1 h5 h2⟩) (fun _ => rfl) fun _ => List.Sublist.refl _
 ·simp only at h1 h2 h5 h6 h7
  subst h1 h2 h5 h6 h7
  have he : V9 g.ac = 0 := by rw [← h4, Ja4]; rfl
  have hs : x.st.er = QS g.ac := x.ys.uniq (Jr4 he)
  have hq : QJ (QT g.ts g.time).1 x.st.er g.rc = QJ (QT g.ts g.time).1 (QS g.ac) g.rc := by rw [hs]
  exact (Jvy (hg.mono fun q hq => List.mem_append_right _ hq) (Jef hg x) rp W _).map (fun y => ⟨y.s.accts.length, y.s.p, (QT g.ts g.time).1, y.err, y.L, fun h => .inr (.inr (.inr ⟨rfl, rfl, h3, he, y.s, by
    show y.s.In (y.L ++ x.L ++ R)
    rw [List.append_assoc]; exact y.ok, rfl, rfl, by
    have e := y.eq.trans hq
    rw [h] at e; exact e⟩)), fun h => by
   have e := y.eq.trans hq
   rw [Jr3 h3 he, ← e, if_pos h]⟩) (fun _ => rfl) fun _ => List.Sublist.refl _
 ·simp only at h1 hi; omega
def Jr5 (rq rp : Nat) : Nat × Obj := (rq, .cells #[.func (.func 70) #[] #[Ql rp 0], .func (.func 72) #[] #[Ql rp 0], .func (.func 80) #[] #[Ql rp 0]] 73 (0, 0))
theorem Yz {R : Ji} {g : GenL} (hg : g.In R) (hf : g.accts.length ≤ 1000) : PureT (α := BldR R (Vh g.ts g.time g.rc g.ac)) Tryz.prog 11 [g.val].toArray (fun x => x.val) [] (fun x => x.L) R := by
 refine Ju Tryz.func11 rfl rfl fun w => ?_; refine JA ?_; refine Jq 2 rfl ?_; refine Kh (cs := g.cells.toArray) rfl rfl rfl rfl fun r1 => ?_; refine LN rfl fun r2 => ?_; refine JG 6 rfl ?_; refine LR rfl (Jh (xs := g.cells) (n := 20) rfl (kn 1 rfl) rfl rfl rfl) ?_; refine LR rfl (Js (r := [_, _, _, _, _, _, _, _, _, _, _, _, _, _, _, _, _, _, _, _, _, _]) rfl rfl) ?_; refine Kh (cs := (wkC g 0 none 0).toArray) rfl rfl rfl rfl fun W => ?_; refine JG 7 rfl ?_; refine JQ rfl rfl rfl (enters_of Tryz.func30 (by kernel_rfl) rfl) (Jvt W) fun pp => ?_
 obtain ⟨rp, rq⟩ := pp
 change HL _ _ _ (Jr5 rq rp :: rpB rp W :: yC W g 0 none 0 :: (r2, _) :: (r1, _) :: []) _ _ _ _; refine LR rfl (JU rfl rfl) ?_; refine JK 4 rfl ?_; refine J0 (σ := BSt) (fun b => b.ok R g ∧ b.i ≤ 3) (fun b => [(2, Ql r2 0), (3, .int .i64 0), (4, .int .i64 0), (5, Ql W 0), (13, .slice (some ⟨rq, 0, none⟩) 3 3), (14, .int .i64 3), (15, .int .i64 (b.i : Int))]) (fun b => Jr5 rq rp :: rpB rp W :: yC W g b.n b.p b.f :: (r2, .cells #[KL 0 none] 36 (0, 0)) :: (r1, .cells g.cells.toArray 32 (0, 0)) :: b.L) (fun _ _ _ => True) (fun b => 3 - b.i) ⟨0, 0, none, 0, []⟩ ⟨.inl ⟨rfl, rfl, rfl, rfl, rfl⟩, Nat.zero_le _⟩ (lK rfl) (List.Sublist.refl _) (fun _ _ h => h) ?_; rintro b ⟨hok, hi1⟩; refine JN 6 rfl ?_; refine cD (fun h7 => ?_) fun h7 => ?_
 ·refine JN 5 rfl ?_
  have hb3 : b.i < 3 := by omega
  have hi3 : b.i = 0 ∨ b.i = 1 ∨ b.i = 2 := by omega
  refine Jq 1 rfl ?_; refine LR rfl (JI (j := b.i) (m := 1) (off' := b.i) rfl rfl rfl rfl rfl hb3 (by omega)) ?_
  refine LR rfl (Jd (v := .func (.func (fnN b.i)) #[] #[Ql rp 0]) rfl (kn 0 rfl) rfl (by rcases hi3 with h | h | h <;> rw [h] <;> rfl)) ?_; refine JG 6 rfl ?_; refine Qr (T := [yC W g b.n b.p b.f]) (L0 := Jr5 rq rp :: rpB rp W :: (r2, _) :: (r1, _) :: b.L) (Rl := rpB rp W :: (b.L ++ R)) (List.perm_middle (l₁ := [_, _])) rfl rfl rfl (Jgp b.i) (Jv4 hg hf hok hb3 rp W) (fun q hq => (List.mem_cons.1 hq).elim (fun h => .inl (by rw [h]; exact List.mem_cons_of_mem _ List.mem_cons_self)) fun hq => (List.mem_append.1 hq).elim (fun h => .inl (List.mem_cons_of_mem _ (List.mem_cons_of_mem _ (List.mem_cons_of_mem _ (List.mem_cons_of_mem _ h))))) .inr) fun y => ?_; refine Kx (((VJ y.L [_, _, _, _] b.L).cons _).trans (List.perm_middle (l₁ := [_, _])).symm) ?_; change HL _ _ _ (Jr5 rq rp :: rpB rp W :: yC W g y.n y.p y.f :: (r2, _) :: (r1, _) :: (y.L ++ b.L)) _ _ _ _; refine JK 9 rfl ?_; refine cD (fun h12 => ?_) fun h12 => ?_
  refine Jq 2 rfl ?_; refine LR rfl (Js (r := [_]) rfl rfl) ?_; refine QL rfl ?_
  refine LT 3 rfl rfl ?_; refine Jw 10 rfl ?_; refine Jg rfl rfl (.cons (Jy (vs := [_]) rfl (kn 3 rfl) rfl rfl) (.cons (Jl rfl) (.cons (Jl rfl) .nil))) (fun w1 hs1 => ?_)
  (have hbad := y.bad (by omega)
   exact ⟨⟨st0L, 0, y.err, [], Jfb, hbad.symm⟩, rfl, hs1.weakL (List.nil_sublist _)⟩)
  refine Jq 5 rfl ?_; refine Jc (by omega) (by omega) ?_; refine Jw 2 rfl ?_; refine Jx ?_; exact Jt ⟨b.i + 1, y.n, y.p, y.f, y.L ++ b.L⟩ ⟨y.ok (by omega), by show b.i + 1 ≤ 3; omega⟩ (by show 3 - (b.i + 1) < 3 - b.i; omega) (lK rfl) (List.Sublist.refl _) (fun _ _ h => h)
 ·refine JN 6 rfl ?_; refine JJ [yC W g b.n b.p b.f] [(0, .pure), (1, .pure), (2, .pure), (3, .pure), (4, .pure), (5, .pure), (6, .pure), (7, .pure), (8, .turn), (9, .pure), (10, .pure)] 11 [0, 1, 2, 3, 4, 5, 6, 7, 8, 9, 10] (by kernel_rfl) (by kernel_rfl) (fun q hq => by rw [List.mem_singleton.1 hq]; exact List.mem_cons_of_mem _ (List.mem_cons_of_mem _ List.mem_cons_self)) ?_; refine Jj (k := 0) rfl rfl rfl rfl rfl (fun _ hS => (Jf rfl)) ?_; refine Jj (k := 1) rfl rfl rfl rfl rfl (fun _ hS => (Jv rfl rfl rfl)) ?_
  refine Jj (k := 2) rfl rfl rfl rfl rfl (fun _ hS => (J9 rfl rfl rfl)) ?_; refine Jj (k := 3) rfl rfl rfl rfl rfl (fun _ hS => (Jo (vs := [_]) rfl (.inl (hS _ (Jr (n := 0) rfl))) rfl rfl rfl rfl)) ?_; refine Jj (k := 4) rfl rfl rfl rfl rfl (fun _ hS => (Jf rfl)) ?_; refine Jj (k := 5) rfl rfl rfl rfl rfl (fun _ hS => (Jv rfl rfl rfl)) ?_
  refine Jj (k := 6) rfl rfl rfl rfl rfl (fun _ hS => (J9 rfl rfl rfl)) ?_; refine Jj (k := 7) rfl rfl rfl rfl rfl (fun _ hS => (Jd rfl (.inl (hS _ (Jr (n := 0) rfl))) rfl rfl)) ?_; refine zz (k := 8) (q := 3) (n := 1) (off := 0) (vs := #[KL b.n b.p]) (E' := Jr5 rq rp :: rpB rp W :: yC W g b.n b.p b.f :: (r2, _) :: (r1, _) :: b.L) (cs' := #[KL b.n b.p]) rfl rfl rfl rfl rfl rfl rfl rfl rfl (by exact Nat.le_of_ble_eq_true rfl) rfl rfl (fun q hq => by rw [List.mem_singleton.1 hq]; exact List.mem_cons_of_mem _ (List.mem_cons_of_mem _ List.mem_cons_self)) ?_; refine Jj (k := 9) rfl rfl rfl rfl rfl (fun _ hS => (J6 rfl)) ?_; refine Jj (k := 10) rfl rfl rfl rfl rfl (fun _ hS => (J6 rfl)) ?_; refine Km ?_; refine Jw 3 rfl ?_; refine Jg rfl rfl (.cons (Jy (vs := [_]) rfl (kn 3 rfl) rfl rfl) (.cons (Jl rfl) (.cons (Jl rfl) .nil))) (fun w1 hs1 => ?_)
  (rcases hok with ⟨h1, _⟩ | ⟨h1, _⟩ | ⟨h1, _⟩ | ⟨h1, h2, h3, h4, s, h5, h6, h7, h8⟩
   omega
   omega
   omega
   ·refine ⟨⟨s, b.f, 0, b.L, h5, ?_⟩, ?_, hs1.weakL (List.sublist_append_right [_, _, _, _, _] _)⟩
    have h9 : (s.er, (0 : Int)) = QJ b.f (QS g.ac) g.rc := h8
    have h10 : V9 g.ac = 0 := h4
    rw [Jr3 h3 h10, ← h2, ← h9, if_neg (by simp)]
    ·rw [h6, h7]; rfl)
theorem yj {R : Ji} {s : StL} (hs : s.In R) : ∀ a ∈ s.er, VM a.nonce := fun a ha => by
 obtain ⟨b, hb, rfl⟩ := List.mem_map.1 ha
 exact (hs.accts b hb).nonce
theorem Jgq {R : Ji} {ts : List Nat} {t : Nat} {rc : Rec} {l : List AcE} (x : BldR R (Vh ts t rc l)) (h : x.err = 0) : GenOk ts t rc l x.s.er x.f := Jyy (x.eq.symm.trans (by rw [h]))
theorem yl {g : GenL} (hf : ZI g.ac = true) : g.accts.length ≤ 40 := by
 have := (Jjx hf).1
 unfold GenL.ac at this
 rwa [List.length_map] at this
theorem Ja6 {l : List AcE} (h : KR l = 0) (hn : ∀ a ∈ l, VM a.nonce) : ∃ s : BS, Qz l = (s, 0) ∧ s.length = 32 := ⟨(Qz l).1, Prod.ext rfl (zJ h hn).2, (zJ h hn).1⟩
theorem zM {ts : List Nat} {t : Nat} {rc : Rec} {l s : List AcE} {f e : Int} (h : (s, f, e) = Vh ts t rc l) (he : e ≠ 0) : yh ts t rc l = ([], e) ∧ ZJ ts t rc l = ([], e) := by
 constructor
 ·unfold yh; rw [← h, if_pos he]
 ·unfold ZJ; rw [← h, if_pos he]
theorem Jr6 {ts : List Nat} {t : Nat} {rc : Rec} {l s : List AcE} {f e : Int} (h : (s, f, e) = Vh ts t rc l) (he : e = 0) {rt : BS} (hr : Qz s = (rt, 0)) : yh ts t rc l = (Xq t rt, 0) := by
 unfold yh; rw [← h, if_neg (by simpa using he)]
 show (Xq t (Qz s).1, (0 : Int)) = _
 rw [hr]
theorem Jl5 {ts : List Nat} {t : Nat} {rc : Rec} {l s : List AcE} {f e : Int} (h : (s, f, e) = Vh ts t rc l) (he : e = 0) {rt st : BS} (hr : Qz s = (rt, 0)) (hs : Qz (W9 s) = (st, 0)) : ZJ ts t rc l = Xp (yD f) [rt, st, Xq t rt] (Ja5 f rc) := by
 unfold ZJ; rw [← h, if_neg (by simpa using he)]
 show Xp (yD f) [(Qz s).1, (Qz (W9 s)).1, Xq t (Qz s).1] (Ja5 f rc) = _
 rw [hr, hs]
theorem ym (s : StL) (rv : Nat) : StL.er ⟨[JW s A0], some (⟨rv, 0, none⟩, 1)⟩ = W9 s.er := by
 show [(JW s A0).er] = W9 s.er
 unfold W9
 rw [Zg]
theorem Jy2 {R : Ji} {g : GenL} (hg : g.In R) (hf : ZI g.ac = true) : PureR Tryz.prog 14 [g.val].toArray (Zs (yh g.ts g.time g.rc g.ac)) R := by
 have hl := yl hf
 refine Ja Tryz.func14 rfl rfl fun w => ?_; refine JA ?_; refine Jq 2 rfl ?_; refine Kh (cs := g.cells.toArray) rfl rfl rfl rfl fun r1 => ?_; refine JG 6 rfl ?_; refine LR rfl (Jh (xs := g.cells) (n := 20) rfl (kn 0 rfl) rfl rfl rfl) ?_; refine Kz rfl rfl rfl Jfn (Yz hg (by omega)) oR fun x => ?_; refine Kx List.perm_append_comm ?_; change HL _ _ ((10, .tuple #[x.s.val, .int .i64 x.f, .int .i64 x.err]) :: _) ((r1, _) :: x.L) _ _ _ _; refine LS 4 [] rfl rfl ?_; refine LN rfl fun r4 => ?_; refine Jk (k := 0) (n := 1) (ys := x.s.cells) rfl rfl rfl rfl rfl rfl rfl rfl rfl ?_; refine JK 11 rfl ?_; refine cD (fun h5 => ?_) fun h5 => ?_
 refine JN 1 rfl ?_
 have hbad := zM x.eq (by omega)
 refine Ko 8 rfl ?_; refine Jg rfl rfl (.cons (Jl rfl) (.cons (Jl rfl) .nil)) (fun w1 hs1 => ?_)
 (refine ⟨?_, hs1.keep⟩
  rw [hbad.1]; rfl)
 ·refine JN 3 rfl ?_
  have he : x.err = 0 := by omega
  obtain ⟨hck, hw⟩ := Jrx (Jgq x he) hf
  obtain ⟨rt, hrt, hrl⟩ := Ja6 hck (yj x.ok)
  have hG := Jr6 x.eq he hrt
  refine Jq 1 rfl ?_; refine LR rfl (Jh (xs := x.s.cells) (n := 1) rfl (kn 0 rfl) rfl rfl rfl) ?_; refine Je rfl rfl rfl Jxi (wR (R := x.L ++ R) x.ok (fun _ => hw)) (fun q hq => (List.mem_append.1 hq).elim (fun h => Or.inl (List.mem_cons_of_mem _ (List.mem_cons_of_mem _ h))) (fun hq => Or.inr hq)) ?_; refine J3 (congrArg Zs hrt) ?_; refine Xa 12 [1] rfl rfl ?_; refine Jn rfl rfl rfl Jxj (Ja2 (root := rt) hg.time (by omega)) ?_; refine Jw 6 rfl ?_; refine Jg rfl rfl (.cons (Jl rfl) (.cons (Jl rfl) .nil)) (fun w1 hs1 => ?_)
  (refine ⟨?_, hs1.keep⟩
   rw [hG]; rfl)
theorem Jv5 {R : Ji} {g : GenL} (hg : g.In R) (hf : ZI g.ac = true) : PureR Tryz.prog 16 [g.val].toArray (Zs (ZJ g.ts g.time g.rc g.ac)) R := by
 have hl := yl hf
 have hn0 : g.rc.number < 18446744073709551616 := hg.rc.1
 refine Ja Tryz.func16 rfl rfl fun w => ?_; refine JA ?_; refine Jq 2 rfl ?_; refine Kh (cs := g.cells.toArray) rfl rfl rfl rfl fun r1 => ?_; refine JG 6 rfl ?_; refine LR rfl (Jh (xs := g.cells) (n := 20) rfl (kn 0 rfl) rfl rfl rfl) ?_; refine Kz rfl rfl rfl Jfn (Yz hg (by omega)) oR fun x => ?_; refine Kx List.perm_append_comm ?_; change HL _ _ ((18, .tuple #[x.s.val, .int .i64 x.f, .int .i64 x.err]) :: _) ((r1, _) :: x.L) _ _ _ _; refine LS 4 [] rfl rfl ?_; refine LN rfl fun r4 => ?_; refine Jk (k := 0) (n := 1) (ys := x.s.cells) rfl rfl rfl rfl rfl rfl rfl rfl rfl ?_; refine JK 11 rfl ?_; refine cD (fun h5 => ?_) fun h5 => ?_
 refine JN 1 rfl ?_
 have hbad := zM x.eq (by omega)
 refine Ko 8 rfl ?_; refine Jg rfl rfl (.cons (Jl rfl) (.cons (Jl rfl) .nil)) (fun w1 hs1 => ?_)
 (refine ⟨?_, hs1.keep⟩
  rw [hbad.2]; rfl)
 ·refine JN 3 rfl ?_
  have he : x.err = 0 := by omega
  have hok := Jgq x he
  obtain ⟨hck, hw⟩ := Jrx hok hf
  obtain ⟨hck2, hw2⟩ := Jry (Jck hok.wr)
  obtain ⟨rt, hrt, hrl⟩ := Ja6 hck (yj x.ok)
  obtain ⟨st, hst, hsl⟩ := Ja6 hck2 (by rw [← ym x.s 0]; exact yj (Jq2 (Zh x.ok A0) 0))
  have hC := Jl5 x.eq he hrt hst
  obtain ⟨v, hv⟩ : ∃ v, v = yD x.f := ⟨_, rfl⟩
  have hv01 := Jyz x.f
  rw [← hv] at hC hv01; refine Jq 1 rfl ?_; refine LR rfl (Jh (xs := x.s.cells) (n := 1) rfl (kn 0 rfl) rfl rfl rfl) ?_; refine Je rfl rfl rfl Jxi (wR (R := x.L ++ R) x.ok (fun _ => hw)) (fun q hq => (List.mem_append.1 hq).elim (fun h => Or.inl (List.mem_cons_of_mem _ (List.mem_cons_of_mem _ h))) (fun hq => Or.inr hq)) ?_; refine J3 (congrArg Zs hrt) ?_; refine JK 8 rfl ?_
  refine JJ [] [(3, .pure), (4, .pure), (5, .pure), (6, .grow (Vo jR (.cells #[.string ⟨#[]⟩, .int .u64 0, .int .u64 0, .int .u64 0, .int .u64 0, .int .u64 0, .string ⟨#[]⟩, .slice none 0 0] 48 (0, 0)))), (7, .turn), (8, .pure)] 9 [0, 1, 2, 3, 4, 5, 6, 7, 8] (by kernel_rfl) (by kernel_rfl) (by first | exact (fun _ h => absurd h List.not_mem_nil) | simp [SubS] | (intro p hp; simp [hp])) ?_; refine Kv (k := 0) rfl rfl rfl rfl rfl (Jh (xs := x.s.cells) (n := 1) rfl (kn 0 rfl) rfl rfl rfl) ?_; refine KA (k := 1) rfl rfl rfl rfl rfl Jcz (P_Addr0.toR) (fun q hq => .inr hq) ?_; refine KA (k := 2) rfl rfl rfl rfl rfl Jkz (qg (R := x.L ++ R) x.ok A0) (fun q hq => (List.mem_append.1 hq).elim (fun h => Or.inl (List.mem_cons_of_mem _ (List.mem_cons_of_mem _ h))) (fun hq => Or.inr hq)) ?_; refine Jj (k := 3) rfl rfl rfl rfl rfl (fun _ hS => (Jf rfl)) ?_; refine Jj (k := 4) rfl rfl rfl rfl rfl (fun _ hS => (JL rfl rfl)) ?_; refine Jj (k := 5) rfl rfl rfl rfl rfl (fun _ hS => (JL rfl rfl)) ?_; refine Vu (k := 6) (cs := #[_, _, _, _, _, _, _, _]) rfl rfl rfl rfl rfl rfl fun r9 => ?_; refine Qx (k := 7) (q := 0) (n := 8) (ys := (JW x.s A0).cells) rfl rfl rfl rfl rfl rfl rfl rfl rfl rfl rfl (fun _ h => absurd h List.not_mem_nil) ?_; refine Jj (k := 8) rfl rfl rfl rfl rfl (fun _ hS => (J6 rfl)) ?_; refine Km ?_; refine JG 4 rfl ?_; refine LR rfl (Jh (xs := (JW x.s A0).cells) (n := 8) rfl (kn 0 rfl) rfl rfl rfl) ?_; refine JM (n := 1) (sz := 8) (vs := [_]) (zs := [_, _, _, _, _, _, _, _]) (r := (JW x.s A0).cells) rfl rfl rfl rfl rfl rfl rfl rfl rfl (by rw [Kt]; exact rfl) rfl fun rv => ?_; refine LR rfl (Js (r := [_]) rfl rfl) ?_; refine Je (v := Zs (Qz (StL.er ⟨[JW x.s A0], some (⟨rv, 0, none⟩, 1)⟩))) rfl rfl rfl Jxi (wR (Jq2 (Zh x.ok A0) rv) (fun _ => by rw [ym]; exact hw2)) (fun q hq => (List.mem_cons.1 hq).elim (fun h => .inl (by rw [h]; exact List.mem_cons_self)) fun hq => (List.mem_append.1 hq).elim (fun h => Or.inl (List.mem_cons_of_mem _ (List.mem_cons_of_mem _ (List.mem_cons_of_mem _ (List.mem_cons_of_mem _ h))))) (fun hq => Or.inr hq)) ?_; refine J3 (congrArg Zs ((congrArg Qz (ym x.s rv)).trans hst)) ?_; refine JG 10 rfl ?_; refine Jn rfl rfl rfl (enters_of Tryz.func21 (by kernel_rfl) rfl) (J0q x.f 5) ?_; refine J3 (show _ = Value.tuple #[.int .i64 v, .int .i64 (Jq9 (vl x.f 5))] from by rw [hv]; rfl) ?_; refine Goc 22 [3] rfl rfl ?_; refine cD (fun h14 => ?_) fun h14 => ?_
  refine Xs 12 [3] rfl rfl ?_; refine Jn rfl rfl rfl Jxj (Ja2 (root := rt) hg.time (by omega)) ?_; refine LR rfl (Js (r := [_, _, _]) rfl rfl) ?_; refine QL rfl ?_
  first | (refine Jn rfl rfl rfl Jtk (Yy (p := [rt, st, Xq g.time rt]) rfl (n := 0) (by decide) v) ?_) | (refine Jn rfl rfl rfl Jtk (Yy (p := [rt, st, Xq g.time rt]) rfl (n := g.rc.number) hn0 v) ?_)
  refine Jw 7 rfl ?_; refine Jg rfl rfl (.cons (Jl rfl) (.cons (Jl rfl) .nil)) (fun w1 hs1 => ?_)
  (refine ⟨?_, hs1.keep⟩
   rw [hC, show Ja5 x.f g.rc = 0 from by unfold Ja5; rw [← hv, if_neg (by omega)]]; rfl)
  ·refine Xs 10 [3] rfl rfl ?_; refine Jn rfl rfl rfl Jxj (Ja2 (root := rt) hg.time (by omega)) ?_; refine LR rfl (Js (r := [_, _, _]) rfl rfl) ?_; refine QL rfl ?_
   first | (refine Jn rfl rfl rfl Jtk (Yy (p := [rt, st, Xq g.time rt]) rfl (n := 0) (by decide) v) ?_) | (refine Jn rfl rfl rfl Jtk (Yy (p := [rt, st, Xq g.time rt]) rfl (n := g.rc.number) hn0 v) ?_)
   refine Jw 7 rfl ?_; refine Jg rfl rfl (.cons (Jl rfl) (.cons (Jl rfl) .nil)) (fun w1 hs1 => ?_)
   (refine ⟨?_, hs1.keep⟩
    rw [hC, show Ja5 x.f g.rc = g.rc.number from by unfold Ja5; rw [← hv, if_pos (by omega)]]; rfl)
def VL (fs : Array Field) (i : Nat) : Option (TypeId × Nat) := (fs[i]?).map (fun f => (f.type, f.offset))
section
variable {H : Type} {enc : TypeId × Value → H} {P : Program} {w : World} {base : Nat} {sp : Nat → Bool} {held : Bool}
theorem Jl6 {tR tW tu tI fuel : Nat} {fa : Array Field} (ha : P.underlying tR = some (.struct fa)) (hA : P.cellsOf tR = 17) (a0 : VL fa 0 = some (tI, 0)) (a1 : VL fa 1 = some (tI, 1)) (a2 : VL fa 2 = some (tW, 2)) (a3 : VL fa 3 = some (tW, 6)) (a4 : VL fa 4 = some (tW, 10))
  (a5 : VL fa 5 = some (tI, 14)) (a6 : VL fa 6 = some (tI, 15)) (a7 : VL fa 7 = some (tI, 16))
  (hI : P.underlying tI = some (.int .u64)) (hIc : P.cellsOf tI = 1) (hW : P.underlying tW = some (.array 4 tu)) (hWc : P.cellsOf tW = 4) (hu : P.underlying tu = some (.int .u64)) (huc : P.cellsOf tu = 1)
  {cs : List Value} {x : DataW H × List MemPlace} (h : DataW.trod enc P w base sp held fuel tR cs = some x) : ∃ s : Rec, cs = s.cells ∧ s.ok := by
 have hl := Zd ha hA h
 match cs, hl with
 | [c0, c1, c2, c3, c4, c5, c6, c7, c8, c9, c10, c11, c12, c13, c14, c15, c16], _ =>
  obtain ⟨n0, y0, _, e0⟩ := Kg ha a0 hIc h
  obtain ⟨n1, y1, _, e1⟩ := Kg ha a1 hIc h
  obtain ⟨n2, y2, _, e2⟩ := Kg ha a2 hWc h
  obtain ⟨n3, y3, _, e3⟩ := Kg ha a3 hWc h
  obtain ⟨n4, y4, _, e4⟩ := Kg ha a4 hWc h
  obtain ⟨n5, y5, _, e5⟩ := Kg ha a5 hIc h
  obtain ⟨n6, y6, _, e6⟩ := Kg ha a6 hIc h
  obtain ⟨n7, y7, _, e7⟩ := Kg ha a7 hIc h
  obtain ⟨x0, f0, g0⟩ := Wt hI e0
  obtain ⟨x1, f1, g1⟩ := Wt hI e1
  obtain ⟨u0, u1, u2, u3, f2, k0, k1, k2, k3⟩ := vh hW hWc huc hu e2
  obtain ⟨v0, v1, v2, v3, f3, l0, l1, l2, l3⟩ := vh hW hWc huc hu e3
  obtain ⟨w0, w1, w2, w3, f4, m0, m1, m2, m3⟩ := vh hW hWc huc hu e4
  obtain ⟨x5, f5, g5⟩ := Wt hI e5
  obtain ⟨x6, f6, g6⟩ := Wt hI e6
  obtain ⟨x7, f7, g7⟩ := Wt hI e7
  obtain rfl : c0 = uV x0 := by simpa using f0
  obtain rfl : c1 = uV x1 := by simpa using f1
  obtain ⟨rfl, rfl, rfl, rfl⟩ : c2 = uV u0 ∧ c3 = uV u1 ∧ c4 = uV u2 ∧ c5 = uV u3 := by simpa using f2
  obtain ⟨rfl, rfl, rfl, rfl⟩ : c6 = uV v0 ∧ c7 = uV v1 ∧ c8 = uV v2 ∧ c9 = uV v3 := by simpa using f3
  obtain ⟨rfl, rfl, rfl, rfl⟩ : c10 = uV w0 ∧ c11 = uV w1 ∧ c12 = uV w2 ∧ c13 = uV w3 := by simpa using f4
  obtain rfl : c14 = uV x5 := by simpa using f5
  obtain rfl : c15 = uV x6 := by simpa using f6
  obtain rfl : c16 = uV x7 := by simpa using f7
  exact ⟨⟨x0, x1, ⟨u0, u1, u2, u3⟩, ⟨v0, v1, v2, v3⟩, ⟨w0, w1, w2, w3⟩, x5, x6, x7⟩, rfl, ⟨g0, g1, ⟨k0, k1, k2, k3⟩, ⟨l0, l1, l2, l3⟩, ⟨m0, m1, m2, m3⟩, g5, g6, g7⟩⟩
theorem Jei {α β : Type} (f : α → β) : ∀ l : List α, l.flatMap (fun x => [f x]) = l.map f
 | [] => rfl
 | x :: l => by rw [List.flatMap_cons, Jei f l]; rfl
theorem open_gen {tG tC tN tR tX tA tT tS tL tW tu tI : Nat} {fg fc fr fs fa : Array Field} (ht : P.underlying tT = some (.struct fs)) (hT : P.cellsOf tT = 2) (h0 : VL fs 0 = some (tS, 0)) (h1 : VL fs 1 = some (tS, 1)) (hS : P.underlying tS = some .string) (hSc : P.cellsOf tS = 1)
  (ha : P.underlying tA = some (.struct fa)) (hA : P.cellsOf tA = 8) (a0 : VL fa 0 = some (tS, 0)) (a1 : VL fa 1 = some (tI, 1)) (a2 : VL fa 2 = some (tW, 2)) (a3 : VL fa 3 = some (tS, 6)) (a4 : VL fa 4 = some (tL, 7))
  (hI : P.underlying tI = some (.int .u64)) (hIc : P.cellsOf tI = 1) (hW : P.underlying tW = some (.array 4 tu)) (hWc : P.cellsOf tW = 4) (hu : P.underlying tu = some (.int .u64)) (huc : P.cellsOf tu = 1) (hL : P.underlying tL = some (.slice tT)) (hLc : P.cellsOf tL = 1)
  (hX : P.underlying tX = some (.slice tA)) (hXc : P.cellsOf tX = 1)
  (hr : P.underlying tR = some (.struct fr)) (hRc : P.cellsOf tR = 17) (r0 : VL fr 0 = some (tI, 0)) (r1 : VL fr 1 = some (tI, 1)) (r2 : VL fr 2 = some (tW, 2)) (r3 : VL fr 3 = some (tW, 6)) (r4 : VL fr 4 = some (tW, 10))
  (r5 : VL fr 5 = some (tI, 14)) (r6 : VL fr 6 = some (tI, 15)) (r7 : VL fr 7 = some (tI, 16))
  (hc : P.underlying tC = some (.struct fc)) (hCc : P.cellsOf tC = 1) (c0 : VL fc 0 = some (tN, 0)) (hN : P.underlying tN = some (.slice tI)) (hNc : P.cellsOf tN = 1)
  (hg : P.underlying tG = some (.struct fg)) (hGc : P.cellsOf tG = 20) (g0 : VL fg 0 = some (tC, 0)) (g1 : VL fg 1 = some (tI, 1)) (g2 : VL fg 2 = some (tR, 2)) (g3 : VL fg 3 = some (tX, 19))
  {r : Reach} {b0 : Nat} {v : Value} {d : DataW H} {ps : List MemPlace} (hval : Value.okWide P w r b0 tG v) (hd : DataW.Trod enc P w base sp held tG v d ps) : ∃ g : GenL, v = g.val ∧ g.In (Jev w) := by
 obtain ⟨fuel, h⟩ := hd
 have hl := Zd hg hGc h
 generalize hcs : v.cells.toList = cs at h hl
 obtain ⟨n0, y0, _, e0⟩ := Kg hg g0 hCc h
 obtain ⟨n1, y1, _, e1⟩ := Kg hg g1 hIc h
 obtain ⟨n2, y2, _, e2⟩ := Kg hg g2 hRc h
 obtain ⟨n3, y3, _, e3⟩ := Kg hg g3 hXc h
 obtain ⟨m0, z0, _, k0⟩ := Kg hc c0 hNc e0
 obtain ⟨ts, tp, ets, tsg, tlen, tok⟩ := Y8 (f := fun n => [uV n]) (ok := VM) (by decide) (fun _ => rfl) hN hIc (fun m hm cs x hx => Wt hI hx) k0
 obtain ⟨t, et, tu64⟩ := Wt hI e1
 obtain ⟨rc, erc, hrc⟩ := Jl6 hr hRc r0 r1 r2 r3 r4 r5 r6 r7 hI hIc hW hWc hu huc e2
 obtain ⟨l, p, ep, hsg, hlen, hok⟩ := Y8 (f := AcL.cells) (ok := AcL.In (Jev w)) (by decide) AcL.len hX hA (fun m hm cs x hx => Js3 ht hT h0 h1 hS hSc ha hA a0 a1 a2 a3 a4 hI hIc hW hWc hu huc hL hLc hx) e3
 rw [Jei] at tsg
 refine ⟨⟨ts, tp, t, rc, l, p⟩, Jcg hg hval (hcs.trans ?_), ⟨tlen, tsg, tok, tu64, hrc, ⟨hlen, hsg, hok⟩⟩⟩
 rw [GenL.cells_eq]
 have q0 : cs.take 1 = [KL ts.length tp] := by rw [← ets]; simp [List.take_take]
 have q3 : cs.drop 19 = [KL l.length p] := by
  rw [← ep, List.take_of_length_le]; rw [List.length_drop, hl]; decide
 have s1 : cs = cs.take 1 ++ ((cs.drop 1).take 1 ++ ((cs.drop 2).take 17 ++ cs.drop 19)) := by
  have a : ∀ (k n : Nat), cs.drop k = (cs.drop k).take n ++ cs.drop (k + n) := fun k n => by rw [← List.drop_drop, List.take_append_drop]
  rw [← a 2 17, ← a 1 1, List.take_append_drop]
 rw [s1, q0, et, erc, q3]
 rfl
end
theorem J01 {a b : Bool} (h : a = b) : Value.bool a = .bool b := congrArg _ h
theorem J02 {a b : BS} (h : a ≠ b) : (!decide (a = b)) = true := by simp [h]
theorem Jr7 {s : BS} {n : Nat} (h : s.length = n) : Value.int .i64 (s.length : Int) = .int .i64 (n : Int) := by rw [h]
def g25 (r t : Nat) (l : List AcL) (p : Pl) : GenL := ⟨[5, 9], some (⟨r, 0, none⟩, 2), t, rec0, l, p⟩
def tB (r : Nat) : Nat × Obj := (r, .cells #[uV 5, uV 9] 25 (0, 0))
theorem Ja7 {R : Ji} {r t : Nat} {l : List AcL} {p : Pl} (h : tB r ∈ R) (ht : VM t) (hs : StL.In R ⟨l, p⟩) : (g25 r t l p).In R := by
 refine ⟨show (2 : Nat) ≤ Y9 by decide, ?_, ?_, ht, Jhm, hs⟩
 ·exact (KF (row := some (r, 2, [])) (sz := 1) (n := 2) (e := 25) (cs := [uV 5, uV 9]) ⟨rfl, rfl⟩ (by decide)).mono fun q hq => by rw [List.mem_singleton.1 hq]; exact h
 ·intro x hx
  rcases List.mem_cons.1 hx with rfl | hx
  ·exact qk (by decide)
  ·rw [List.mem_singleton.1 hx]; exact qk (by decide)
def xL (b : BS) : AcL := ⟨b, 0, w40, [], [], none⟩
theorem Jej {R : Ji} {b : BS} (h : b.length ≤ Y9) : (xL b).In R := ⟨h, QR, w40_ok, Nat.zero_le _, Nat.zero_le _, rfl, by simp [xL]⟩
def l25 : List AcL := [xL m25, xL yi]
def k25 : List AcL := [xL m25, xL yi, xL yi]
theorem Jy3 {R : Ji} : ∀ a ∈ l25, a.In R := fun a ha => by
 rcases List.mem_cons.1 ha with rfl | ha
 ·exact Jej (by decide)
 ·rw [List.mem_singleton.1 ha]; exact Jej (by decide)
theorem Jy4 {R : Ji} : ∀ a ∈ k25, a.In R := fun a ha => by
 rcases List.mem_cons.1 ha with rfl | ha
 ·exact Jej (by decide)
 rcases List.mem_cons.1 ha with rfl | ha
 ·exact Jej (by decide)
 ·rw [List.mem_singleton.1 ha]; exact Jej (by decide)
def aB (rv : Nat) : Nat × Obj := (rv, .cells (KO l25).toArray 48 (0, 0))
theorem J03 (r rv : Nat) : StL.In [tB r, aB rv] ⟨l25, some (⟨rv, 0, none⟩, 2)⟩ :=
 ⟨show (2 : Nat) ≤ Y9 by decide, (KF (row := some (rv, 2, [])) (sz := 8) (n := 2) (e := 48) (cs := KO l25) ⟨rfl, rfl⟩ (by decide)).mono fun q hq => by rw [List.mem_singleton.1 hq]; exact List.mem_cons_of_mem _ (List.mem_singleton.2 (by simp [aB])), Jy3⟩
def cB (ra : Nat) (sp : List Value) : Nat × Obj := (ra, .cells (KO l25 ++ (xL yi).cells ++ sp).toArray 48 (0, 0))
theorem Jwu {r ra cap : Nat} {sp : List Value} (h : rowOk 8 3 (KO l25 ++ (xL yi).cells) (some (ra, cap, sp))) : StL.In [tB r, cB ra sp] ⟨k25, some (⟨ra, 0, none⟩, cap)⟩ :=
 ⟨show (3 : Nat) ≤ Y9 by decide, (KF (n := 3) (e := 48) (cs := KO l25 ++ (xL yi).cells) h (by decide)).mono fun q hq => by rw [List.mem_singleton.1 hq]; exact List.mem_cons_of_mem _ (List.mem_singleton.2 rfl), Jy4⟩
set_option maxHeartbeats 2000000 in
theorem Jl7 {R : Ji} : PureR Tryz.prog 9 #[] (.bool true) R := by
 have hH := J2s
 have hK := J2t
 have hne := J2o
 have hl1 : U24.length = 32 := by decide
 have hl2 : U25.length = 32 := by decide
 generalize U24 = hh at hH hne hl1
 generalize U25 = cc at hK hne hl2
 refine Ja Tryz.func9 rfl rfl fun w => ?_; refine JA ?_; refine Jq 7 rfl ?_; refine JM (n := 2) (sz := 1) (vs := [_, _]) (zs := [_, _]) (r := [uV 5, uV 9]) rfl rfl rfl rfl rfl rfl rfl rfl rfl (by rw [Kt]; exact rfl) rfl fun r1 => ?_; refine LR rfl (Js (r := [_]) rfl rfl) ?_; refine LR rfl (Js (r := [_, _, _, _, _, _, _, _, _, _, _, _, _, _, _, _, _, _, _, _]) rfl rfl) ?_; refine LN rfl fun r2 => ?_; refine Jk (k := 0) (n := 20) (ys := ((g25 r1 6 [] none)).cells) rfl rfl rfl rfl rfl rfl rfl rfl rfl ?_
 have hg1 : GenL.In [tB r1] (g25 r1 6 [] none) := Ja7 (List.mem_singleton.2 rfl) (qk (by decide)) Jfb
 refine JG 4 rfl ?_; refine LR rfl (Jh (xs := (g25 r1 6 [] none).cells) (n := 20) rfl (kn 0 rfl) rfl rfl rfl) ?_; refine Kz rfl rfl rfl Jfn (Yz (R := [tB r1]) hg1 (Nat.zero_le _)) (fun q hq => by rw [List.mem_singleton.1 hq]; exact .inl (List.mem_cons_of_mem _ List.mem_cons_self)) fun x => ?_; refine Kx List.perm_append_comm ?_; change HL _ _ ((24, .tuple #[x.s.val, .int .i64 x.f, .int .i64 x.err]) :: _) ((r2, _) :: (r1, _) :: x.L) _ _ _ _
 obtain ⟨hx1, hx2⟩ := Prod.mk.inj (x.eq.trans Jy0)
 obtain ⟨hx2, hx3⟩ := Prod.mk.inj hx2
 rw [hx2, hx3]; refine LS 4 [] rfl rfl ?_; refine LN rfl fun r3 => ?_; refine Jk (k := 0) (n := 1) (ys := x.s.cells) rfl rfl rfl rfl rfl rfl rfl rfl rfl ?_; refine JG 6 rfl ?_; refine LR rfl (Jh (xs := (g25 r1 6 [] none).cells) (n := 20) rfl (kn 1 rfl) rfl rfl rfl) ?_; refine Je rfl rfl rfl (enters_of Tryz.func14 (by kernel_rfl) rfl) (Jy2 (R := [tB r1]) hg1 (show ZI [] = true by decide)) (fun q hq => by rw [List.mem_singleton.1 hq]; exact .inl (List.mem_cons_of_mem _ (List.mem_cons_of_mem _ List.mem_cons_self))) ?_; refine J3 (congrArg Zs hH) ?_; refine JG 9 rfl ?_; refine LR rfl (Jh (xs := (g25 r1 6 [] none).cells) (n := 20) rfl (kn 1 rfl) rfl rfl rfl) ?_; refine Je rfl rfl rfl (enters_of Tryz.func16 (by kernel_rfl) rfl) (Jv5 (R := [tB r1]) hg1 (show ZI [] = true by decide)) (fun q hq => by rw [List.mem_singleton.1 hq]; exact .inl (List.mem_cons_of_mem _ (List.mem_cons_of_mem _ List.mem_cons_self))) ?_; refine J3 (congrArg Zs hK) ?_; refine JG 9 rfl ?_; refine WH (n := 20) (b := 1) rfl rfl rfl rfl rfl rfl rfl rfl rfl (by decide) (by decide) fun rk => ?_; rw [show List.replicate 20 (Value.int .u8 0) = (yi).map bV from rfl]; refine LR rfl (Q0 (b := yi) (row := some (rk, 20, [])) (e := 5) (show _ = some (JE (List.length yi) _) from rfl) ⟨rfl, rfl⟩ (fun p hp => .inl (by rw [List.mem_singleton.1 hp, List.append_nil]; exact List.mem_cons_self)) rfl rfl rfl) ?_; refine JG 6 rfl ?_; refine LR rfl (jO (kl := some (.i64, 1)) (kh := none) (m := 1) (n := 20) rfl rfl rfl rfl rfl rfl (by decide) (by decide) (show _ = List.replicate 19 0 from rfl)) ?_; refine LR rfl (QA (a := [98]) (b := List.replicate 19 0) rfl rfl (by decide)) ?_; refine J3 (show _ = J4 m25 from rfl) ?_; refine LR rfl (Js (r := [_, _, _, _, _, _, _, _]) rfl rfl) ?_; refine QL rfl (LR rfl (Js (r := [_, _, _, _, _, _, _, _]) rfl rfl) ?_); refine JM (n := 2) (sz := 8) (vs := [_, _]) (zs := [_, _, _, _, _, _, _, _, _, _, _, _, _, _, _, _]) (r := KO l25) rfl rfl rfl rfl rfl rfl rfl rfl rfl (by rw [Kt]; exact rfl) rfl fun rv => ?_
 refine LS 1 [] rfl rfl ?_; refine KP (k := 3) (cs' := ((g25 r1 6 l25 (some (⟨rv, 0, none⟩, 2)))).cells.toArray) rfl rfl rfl rfl rfl rfl rfl rfl rfl rfl ?_
 have hg2 : GenL.In [tB r1, aB rv] (g25 r1 6 l25 (some (⟨rv, 0, none⟩, 2))) := Ja7 List.mem_cons_self (qk (by decide)) (J03 r1 rv)
 refine JG 4 rfl ?_; refine LR rfl (Jh (xs := (g25 r1 6 l25 (some (⟨rv, 0, none⟩, 2))).cells) (n := 20) rfl (kn 3 rfl) rfl rfl rfl) ?_; refine Kz rfl rfl rfl Jfn (Yz (R := [tB r1, aB rv]) hg2 (show (2 : Nat) ≤ 1000 by decide)) (fun q hq => (List.mem_cons.1 hq).elim (fun h => .inl (by rw [h]; exact (List.mem_cons_of_mem _ (List.mem_cons_of_mem _ (List.mem_cons_of_mem _ (List.mem_cons_of_mem _ List.mem_cons_self)))))) fun h => .inl (by rw [List.mem_singleton.1 h]; exact List.mem_cons_self)) fun y => ?_; refine Kx (VJ y.L [_, _, _, _, _] (x.L)) ?_; change HL _ _ ((50, .tuple #[y.s.val, .int .i64 y.f, .int .i64 y.err]) :: _) ((rv, _) :: (rk, _) :: (r3, _) :: (r2, _) :: (r1, _) :: (y.L ++ (x.L))) _ _ _ _
 obtain ⟨hy1, hy2⟩ := Prod.mk.inj (y.eq.trans J2p)
 obtain ⟨hy2, hy3⟩ := Prod.mk.inj hy2
 rw [hy2, hy3]; refine LS 4 [] rfl rfl ?_; refine LN rfl fun r10 => ?_; refine Jk (k := 0) (n := 1) (ys := y.s.cells) rfl rfl rfl rfl rfl rfl rfl rfl rfl ?_; refine Xa 9 [4] rfl rfl ?_; refine LR rfl (Js (r := [_, _, _, _, _, _, _, _]) rfl rfl) ?_; refine JM (n := 1) (sz := 8) (vs := [_]) (zs := [_, _, _, _, _, _, _, _]) (r := (xL yi).cells) rfl rfl rfl rfl rfl rfl rfl rfl rfl (by rw [Kt]; exact rfl) rfl fun rw1 => ?_; refine KI (L0 := _ :: _ :: _ :: _ :: _ :: _ :: (y.L ++ x.L)) (xs := KO l25) (row := some (rv, 2, [])) (n := 2) (sz := 8) (b := 96) (news := (xL yi).cells) (List.perm_middle (l₁ := [_, _])) rfl rfl rfl rfl (kn 0 rfl) rfl rfl rfl rfl rfl (by decide) rfl rfl rfl (by decide) ⟨rfl, rfl⟩ (by decide) (by decide) fun ra cap sp hra => ?_
 refine LS 1 [] rfl rfl ?_; refine KP (k := 5) (cs' := ((g25 r1 6 k25 (some (⟨ra, 0, none⟩, cap)))).cells.toArray) rfl rfl rfl rfl rfl rfl rfl rfl rfl rfl ?_
 have hg3 : GenL.In [tB r1, cB ra sp] (g25 r1 6 k25 (some (⟨ra, 0, none⟩, cap))) := Ja7 List.mem_cons_self (qk (by decide)) (Jwu hra)
 have hg4 : GenL.In [tB r1, cB ra sp] (g25 r1 4 k25 (some (⟨ra, 0, none⟩, cap))) := Ja7 List.mem_cons_self (qk (by decide)) (Jwu hra)
 refine JG 4 rfl ?_; refine LR rfl (Jh (xs := (g25 r1 6 k25 (some (⟨ra, 0, none⟩, cap))).cells) (n := 20) rfl (kn 5 rfl) rfl rfl rfl) ?_; refine Kz rfl rfl rfl Jfn (Yz (R := [tB r1, cB ra sp]) hg3 (show (3 : Nat) ≤ 1000 by decide)) (fun q hq => (List.mem_cons.1 hq).elim (fun h => .inl (by rw [h]; exact (List.mem_cons_of_mem _ (List.mem_cons_of_mem _ (List.mem_cons_of_mem _ (List.mem_cons_of_mem _ (List.mem_cons_of_mem _ (List.mem_cons_of_mem _ List.mem_cons_self)))))))) fun h => .inl (by rw [List.mem_singleton.1 h]; exact List.mem_cons_self)) fun z => ?_; refine Kx (VJ z.L [_, _, _, _, _, _, _] (y.L ++ x.L)) ?_; change HL _ _ ((63, .tuple #[z.s.val, .int .i64 z.f, .int .i64 z.err]) :: _) ((ra, _) :: (rw1, _) :: (r10, _) :: (rk, _) :: (r3, _) :: (r2, _) :: (r1, _) :: (z.L ++ (y.L ++ x.L))) _ _ _ _
 obtain ⟨hz1, hz2⟩ := Prod.mk.inj (z.eq.trans J2q)
 obtain ⟨hz2, hz3⟩ := Prod.mk.inj hz2
 rw [hz2, hz3]; refine LS 4 [] rfl rfl ?_; refine LN rfl fun r13 => ?_; refine Jk (k := 0) (n := 1) (ys := z.s.cells) rfl rfl rfl rfl rfl rfl rfl rfl rfl ?_; refine JG 7 rfl ?_; refine KP (k := 6) (cs' := ((g25 r1 4 k25 (some (⟨ra, 0, none⟩, cap)))).cells.toArray) rfl rfl rfl rfl rfl rfl rfl rfl rfl rfl ?_; refine JG 4 rfl ?_; refine LR rfl (Jh (xs := (g25 r1 4 k25 (some (⟨ra, 0, none⟩, cap))).cells) (n := 20) rfl (kn 6 rfl) rfl rfl rfl) ?_; refine Kz rfl rfl rfl Jfn (Yz (R := [tB r1, cB ra sp]) hg4 (show (3 : Nat) ≤ 1000 by decide)) (fun q hq => (List.mem_cons.1 hq).elim (fun h => .inl (by rw [h]; exact (List.mem_cons_of_mem _ (List.mem_cons_of_mem _ (List.mem_cons_of_mem _ (List.mem_cons_of_mem _ (List.mem_cons_of_mem _ (List.mem_cons_of_mem _ (List.mem_cons_of_mem _ List.mem_cons_self))))))))) fun h => .inl (by rw [List.mem_singleton.1 h]; exact (List.mem_cons_of_mem _ List.mem_cons_self))) fun u => ?_; refine Kx (VJ u.L [_, _, _, _, _, _, _, _] (z.L ++ (y.L ++ x.L))) ?_; change HL _ _ ((70, .tuple #[u.s.val, .int .i64 u.f, .int .i64 u.err]) :: _) ((r13, _) :: (ra, _) :: (rw1, _) :: (r10, _) :: (rk, _) :: (r3, _) :: (r2, _) :: (r1, _) :: (u.L ++ (z.L ++ (y.L ++ x.L)))) _ _ _ _
 obtain ⟨hu1, hu2⟩ := Prod.mk.inj (u.eq.trans (J2r _))
 obtain ⟨hu2, hu3⟩ := Prod.mk.inj hu2
 rw [hu2, hu3]; refine LS 4 [] rfl rfl ?_; refine LN rfl fun r16 => ?_; refine Jk (k := 0) (n := 1) (ys := u.s.cells) rfl rfl rfl rfl rfl rfl rfl rfl rfl ?_; refine Xa 8 [6] rfl rfl ?_; refine LR rfl (J1 rfl x.ok.seg rfl) ?_; refine J3 (Jf6 (show _ = (1 : Int) by rw [← x.s.er_len, hx1]; rfl)) ?_; refine LS 11 [] rfl rfl ?_; refine LR rfl (vD rfl rfl rfl) ?_; refine J3 (show _ = Value.int .i64 32 from Jr7 hl1) ?_; refine LS 8 [] rfl rfl ?_; refine LR rfl (vD rfl rfl rfl) ?_; refine J3 (show _ = Value.int .i64 32 from Jr7 hl2) ?_; refine LS 5 [] rfl rfl ?_; refine LR rfl (Yj (a := cc) (b := hh) rfl rfl) ?_; refine J3 (J01 (J02 hne.symm)) ?_; refine Xa 8 [4] rfl rfl ?_; refine LR rfl (J1 rfl y.ok.seg rfl) ?_; refine J3 (Jf6 (show _ = (3 : Int) by rw [← y.s.er_len, hy1]; rfl)) ?_; refine Jw 22 rfl ?_; refine pT rfl rfl rfl fun w1 hs1 => ?_; exact ⟨rfl, hs1.keep⟩
end Go.Proofs.YtfaagelglpgpkaaGreatDoor
