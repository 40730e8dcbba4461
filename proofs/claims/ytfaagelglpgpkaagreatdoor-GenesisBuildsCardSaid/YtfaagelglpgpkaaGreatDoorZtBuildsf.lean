import Derived.Test.YtfaagelglpgpkaaGreatDoorZtBuildse
import Derived.Test.YtfaagelglpgpkaaGreatDoorProg
import Derived.Shelf.SlGeneric
import Derived.Shelf.SlSortCmp.WholeK
import Derived.Ground.SlsfProg
set_option maxRecDepth 100000
namespace Go.Proofs.YtfaagelglpgpkaaGreatDoor
set_option linter.all false
open Go.SL Go.RowKit Go.Shelf
theorem Jrf : Pure Tryz.prog 39 [.int .i64 0].toArray (J1 A0) := by
 refine Jl Tryz.func39 rfl rfl fun w => ?_; refine JD ?_; refine JK 16 rfl ?_; refine J0 rfl (fun g => ?_) (fun g => ?_)
 try exact Bool.noConfusion g
 ·try simp only [ZZ] at g
  refine Jq 4 rfl ?_; refine VA (n := 20) (b := 1) rfl rfl rfl rfl rfl rfl rfl rfl rfl (by decide) (by decide) fun r1 => ?_; refine JJ 6 rfl ?_; refine LR rfl (JF (j := 0) (m := 1) rfl rfl rfl rfl rfl (by decide) rfl) ?_; refine LT 0 rfl rfl ?_; refine JJ 7 rfl ?_; refine Jc (by omega) (by omega) ?_; refine VQ rfl (Yo (by omega) (by omega) (LR rfl (JF (j := 19) (m := 1) rfl rfl rfl rfl rfl (by decide) rfl) ?_)); refine LT 0 rfl rfl ?_; refine JJ 5 rfl ?_; refine LR rfl (KS (b := A0) (row := some (r1, 20, [])) (e := 5) rfl ⟨rfl, rfl⟩ (fun p hp => .inl (by rw [List.mem_singleton.1 hp]; exact List.mem_cons_self)) rfl rfl rfl) ?_; refine Jx 4 rfl ?_; refine pT rfl rfl rfl fun w1 hs1 => ?_; exact ⟨rfl, hs1.keep⟩
theorem Jrg : Pure Tryz.prog 39 [.int .i64 1].toArray (J1 A1) := by
 refine Jl Tryz.func39 rfl rfl fun w => ?_; refine JD ?_; refine JK 16 rfl ?_; refine J0 rfl (fun g => ?_) (fun g => ?_)
 try exact Bool.noConfusion g
 ·try simp only [ZZ] at g
  refine Jq 4 rfl ?_; refine VA (n := 20) (b := 1) rfl rfl rfl rfl rfl rfl rfl rfl rfl (by decide) (by decide) fun r1 => ?_; refine JJ 6 rfl ?_; refine LR rfl (JF (j := 0) (m := 1) rfl rfl rfl rfl rfl (by decide) rfl) ?_; refine LT 0 rfl rfl ?_; refine JJ 7 rfl ?_; refine Jc (by omega) (by omega) ?_; refine VQ rfl (Yo (by omega) (by omega) (LR rfl (JF (j := 19) (m := 1) rfl rfl rfl rfl rfl (by decide) rfl) ?_)); refine LT 0 rfl rfl ?_; refine JJ 5 rfl ?_; refine LR rfl (KS (b := A1) (row := some (r1, 20, [])) (e := 5) rfl ⟨rfl, rfl⟩ (fun p hp => .inl (by rw [List.mem_singleton.1 hp]; exact List.mem_cons_self)) rfl rfl rfl) ?_; refine Jx 4 rfl ?_; refine pT rfl rfl rfl fun w1 hs1 => ?_; exact ⟨rfl, hs1.keep⟩
theorem Jrh {f : Int} (h : f < 0 ∨ f > 1) : Pure Tryz.prog 39 [.int .i64 f].toArray (J1 []) := by
  refine Jl Tryz.func39 rfl rfl fun w => ?_; refine JD ?_; refine Jq 11 rfl ?_
  refine J6 6 rfl (fun gb => ?_) (fun gb => ?_) <;> (try simp only [ZZ] at gb) <;> first | (refine Q1 rfl ?_) | (refine LK rfl ?_)
  all_goals (
   refine LW 2 [] rfl rfl (Jx 1 rfl (XN 1 rfl ?_)); refine J0 rfl (fun g => ?_) (fun g => ?_)
   try simp only [ZZ] at g
   refine Kh 7 rfl ?_; refine pT rfl rfl rfl fun w1 hs1 => ?_
   first | exact ⟨rfl, hs1.keep⟩ | (exfalso; omega)
   · try exact Bool.noConfusion g
     all_goals try simp only [ZZ] at g
     all_goals (
      refine Jq 4 rfl ?_
      exfalso; omega
      skip)
   skip)
theorem Jjt (f : Int) : Pure Tryz.prog 39 [.int .i64 f].toArray (J1 (Qx f)) := by
 by_cases h0 : f = 0
 ·subst h0; exact Jrf
 ·by_cases h1 : f = 1
  ·subst h1; exact Jrg
  ·have h : f < 0 ∨ f > 1 := by omega
   have e : Qx f = [] := by unfold Qx; rw [if_pos h]
   rw [e]; exact Jrh h
theorem Jlx (f : Int) : Pure Tryz.prog 132 [.int .i64 f].toArray (.bool (decide (Qf f))) := by
 rw [wX]; refine Jl Tryz.func132 rfl rfl fun w => ?_; refine JD ?_; refine Jq 10 rfl ?_
 refine J6 5 rfl (fun gb => ?_) (fun gb => ?_) <;> (try simp only [ZZ] at gb) <;> first | (refine Q1 rfl ?_) | (refine LK rfl ?_)
 all_goals (
  refine LW 3 [] rfl rfl (Jx 1 rfl (ZT 2 rfl ?_)); refine pT rfl rfl rfl fun w1 hs1 => ?_; refine ⟨?_, hs1.keep⟩
  simp_all [JG]
  all_goals first | done | omega | trace_state
  skip)
theorem Jju (f g : Int) : Pure Tryz.prog 85 [.int .i64 f, .int .i64 g].toArray (.tuple #[J1 (KG f g).1, .bool (KG f g).2]) := by
 refine Jl Tryz.func85 rfl rfl fun w => ?_; refine JD ?_; refine JK 13 rfl ?_; refine cD (fun h4 => ?_) fun h4 => ?_
 refine JK 7 rfl ?_; refine cD (fun h7 => ?_) fun h7 => ?_
 refine Kh 9 rfl ?_; refine Jg rfl rfl (.cons (Jj rfl) (.cons (Jj rfl) .nil)) (fun w1 hs1 => ?_); refine ⟨?_, hs1.keep⟩
 unfold KG
 rw [if_pos (by omega), if_pos (by omega)]; rfl
 refine Kh 10 rfl ?_; refine Jg rfl rfl (.cons (Jj rfl) (.cons (Jj rfl) .nil)) (fun w1 hs1 => ?_); refine ⟨?_, hs1.keep⟩
 unfold KG
 rw [if_pos (by omega), if_neg (by omega)]; rfl
 ·refine JK 9 rfl ?_; refine cD (fun h12 => ?_) fun h12 => ?_
  refine Kh 8 rfl ?_; refine Jg rfl rfl (.cons (Jj rfl) (.cons (Jj rfl) .nil)) (fun w1 hs1 => ?_); refine ⟨?_, hs1.keep⟩
  unfold KG
  rw [if_neg (by omega), if_pos (by omega)]; rfl
  ·refine JK 9 rfl ?_; refine cD (fun h16 => ?_) fun h16 => ?_
   refine Kh 8 rfl ?_; refine Jg rfl rfl (.cons (Jj rfl) (.cons (Jj rfl) .nil)) (fun w1 hs1 => ?_); refine ⟨?_, hs1.keep⟩
   unfold KG
   rw [if_neg (by omega), if_neg (by omega), if_pos (by omega)]; rfl
   ·refine JK 9 rfl ?_; refine cD (fun h20 => ?_) fun h20 => ?_
    refine Kh 8 rfl ?_; refine Jg rfl rfl (.cons (Jj rfl) (.cons (Jj rfl) .nil)) (fun w1 hs1 => ?_); refine ⟨?_, hs1.keep⟩
    unfold KG
    rw [if_neg (by omega), if_neg (by omega), if_neg (by omega), if_pos (by omega)]; rfl
    ·refine Kh 9 rfl ?_; refine Jg rfl rfl (.cons (Jj rfl) (.cons (Jj rfl) .nil)) (fun w1 hs1 => ?_); refine ⟨?_, hs1.keep⟩
     unfold KG
     rw [if_neg (by omega), if_neg (by omega), if_neg (by omega), if_neg (by omega)]; rfl
set_option maxHeartbeats 1000000 in
theorem Jvx (f : Int) (r : Rec) : Pure Tryz.prog 84 [.int .i64 f, r.val].toArray (.int .i64 (V6 f r)) := by
  refine Jl Tryz.func84 rfl rfl fun w => ?_; refine JD ?_; refine Jq 2 rfl ?_; refine JR (cs := r.cells.toArray) rfl rfl rfl rfl fun rb => ?_; refine JJ 7 rfl ?_; refine Jn rfl rfl rfl (enters_of Tryz.func132 (by kernel_rfl) rfl) (Jlx f) ?_; refine JI 3 rfl ?_; refine cD (fun g => ?_) fun g => ?_
  · refine Kh 7 rfl ?_; refine pT rfl rfl rfl fun w1 hs1 => ?_; refine ⟨?_, hs1.keep⟩
    unfold V6 j7
    rw [if_pos (by first | assumption | (simp_all; done))]; rfl
  · refine Jq 4 rfl ?_; refine LR rfl (Jt (r := [_, _, _, _]) rfl rfl) ?_; refine LN rfl fun r1 => ?_
    refine LT 0 rfl rfl ?_; refine JJ 8 rfl ?_
    refine J6 12 rfl (fun gb => ?_) (fun gb => ?_) <;> (try simp only [ZZ] at gb) <;> first | (refine LR rfl (JA rfl rfl rfl) ?_) | (refine LK rfl ?_)
    all_goals refine LW 2 [1, 0] rfl rfl ?_
    all_goals first | (refine LR rfl (xx rfl rfl rfl rfl rfl (by kernel_rfl) rfl rfl rfl rfl) ?_) | refine LK rfl ?_
    all_goals first | (refine J3 (congrArg (fun b => Value.bool (!b)) (eqW r.overhead w40)) ?_) | skip
    all_goals refine LW 2 [] rfl rfl ?_
    all_goals first | refine Q1 rfl ?_ | (refine J6 18 rfl (fun gb => ?_) (fun gb => ?_) <;> (try simp only [ZZ] at gb) <;> first | (refine Q1 rfl ?_) | (refine LK rfl ?_))
    all_goals refine LW 2 [] rfl rfl ?_
    all_goals first | refine LK rfl ?_ | (refine J6 21 rfl (fun gb => ?_) (fun gb => ?_) <;> (try simp only [ZZ] at gb) <;> first | (refine LR rfl (JA rfl rfl rfl) ?_) | (refine LK rfl ?_))
    all_goals refine LW 2 [1] rfl rfl ?_
    all_goals first | (refine J3 (congrArg (fun b => Value.bool (!b)) (eqU r.extra 0)) ?_) | skip
    all_goals refine LW 1 [] rfl rfl ?_
    all_goals first | refine LK rfl ?_ | (refine J6 25 rfl (fun gb => ?_) (fun gb => ?_) <;> (try simp only [ZZ] at gb) <;> first | (refine LR rfl (JA rfl rfl rfl) ?_) | (refine LK rfl ?_))
    all_goals refine LW 2 [1, 0] rfl rfl ?_
    all_goals first | (refine LR rfl (xx rfl rfl rfl rfl rfl (by kernel_rfl) rfl rfl rfl rfl) ?_) | refine LK rfl ?_
    all_goals first | (refine J3 (congrArg (fun b => Value.bool (!b)) (eqW r.blob w40)) ?_) | skip
    all_goals refine LW 4 [] rfl rfl ?_
    all_goals first | refine Q1 rfl ?_ | refine LK rfl ?_ | (refine J6 33 rfl (fun gb => ?_) (fun gb => ?_) <;> (try simp only [ZZ] at gb) <;> first | (refine Q1 rfl ?_) | (refine LK rfl ?_))
    all_goals refine LW 2 [] rfl rfl ?_
    all_goals first | refine LK rfl ?_ | (refine J6 36 rfl (fun gb => ?_) (fun gb => ?_) <;> (try simp only [ZZ] at gb) <;> first | (refine LR rfl (JA rfl rfl rfl) ?_) | (refine LK rfl ?_))
    all_goals refine LW 2 [1] rfl rfl ?_
    all_goals first | (refine J3 (congrArg (fun b => Value.bool (!b)) (eqU r.operator 0)) ?_) | skip
    all_goals (
     refine LW 2 [] rfl rfl (Jx 1 rfl (XN 1 rfl ?_)); refine J0 rfl (fun g => ?_) (fun g => ?_)
     · try exact Bool.noConfusion g
       all_goals try simp only [ZZ] at g
       all_goals (
        refine Kh 7 rfl ?_; refine pT rfl rfl rfl fun w1 hs1 => ?_; refine ⟨?_, hs1.keep⟩
        unfold V6 j7
        first | (exfalso; omega) | (rw [if_neg (by first | assumption | (simp_all; done)), if_neg (by simp_all; done)]; rfl)
        skip)
     · try exact Bool.noConfusion g
       all_goals try simp only [ZZ] at g
       all_goals (
        refine Kh 8 rfl ?_; refine pT rfl rfl rfl fun w1 hs1 => ?_; refine ⟨?_, hs1.keep⟩
        unfold V6 j7
        first | (exfalso; omega) | (rw [if_neg (by first | assumption | (simp_all; done)), if_pos (by simp_all; done)]; rfl)
        skip)
     skip)
theorem Jri {n : Nat} (h : VV n) : Pure Tryz.prog 137 [uV n].toArray (J1 (Wg n)) := by
 refine Jl Tryz.func137 rfl rfl fun w => ?_; refine JD ?_; refine Jq 8 rfl ?_; refine LR rfl (Jt (r := [_, _, _, _]) rfl rfl) ?_; refine Jn rfl rfl rfl Jdg (W3 (xW h).wok) ?_; refine Jx 4 rfl ?_; refine pT rfl rfl rfl fun w1 hs1 => ?_; exact ⟨rfl, hs1.keep⟩
def keysC : List Value := tab.map fun i => uV (VN i)
theorem Jvy : PureE (α := Nat) Tryz.prog 133 [].toArray (fun p => .slice (some ⟨p, 0, none⟩) 7 7) (fun p => [(p, .cells keysC.toArray 25 (0, 0))]) := by
 refine Kf Tryz.func133 rfl rfl fun w => ?_; refine JD ?_; refine Jq 7 rfl ?_; refine J4 (vs := [_, _, _, _, _, _, _]) (zs := [_, _, _, _, _, _, _]) (r := [_, _, _, _, _, _, _]) rfl rfl rfl rfl rfl rfl rfl rfl rfl (by show (madeCells #[_] _).toList = _; rw [QJ]; exact rfl) rfl fun r1 => ?_; refine Jx 4 rfl ?_; refine pT rfl rfl rfl fun w1 hs1 => ?_; exact ⟨r1, rfl, hs1.weakL (List.Sublist.refl _)⟩
theorem Jy2 (f : Int) {i : Nat} (hi : i < 7) : Pure Tryz.prog 134 [.int .i64 f, .int .i64 (i : Int)].toArray (.bool (YE f i)) := by
 refine Jl Tryz.func134 rfl rfl fun w => ?_; refine JD ?_; refine JK 12 rfl ?_; refine cD (fun g => ?_) fun g => ?_
 ·refine Kh 7 rfl ?_; refine pT rfl rfl rfl fun w1 hs1 => ?_; refine ⟨?_, hs1.keep⟩
  (have h : i = 0 ∨ i = 1 := by omega
   rcases h with rfl | rfl <;> rfl)
 ·refine JK 9 rfl ?_; refine cD (fun g => ?_) fun g => ?_
  ·refine Kh 9 rfl ?_; refine pT rfl rfl rfl fun w1 hs1 => ?_; refine ⟨?_, hs1.keep⟩
   (have h : i = 2 ∨ i = 3 := by omega
    rcases h with rfl | rfl <;> rfl)
  ·refine JK 9 rfl ?_; refine cD (fun g => ?_) fun g => ?_
   ·refine Kh 9 rfl ?_; refine pT rfl rfl rfl fun w1 hs1 => ?_; refine ⟨?_, hs1.keep⟩
    (have h : i = 4 ∨ i = 5 := by omega
     rcases h with rfl | rfl <;> rfl)
   ·refine Kh 10 rfl ?_; refine pT rfl rfl rfl fun w1 hs1 => ?_; refine ⟨?_, hs1.keep⟩
    (obtain rfl : i = 6 := by omega
     rfl)
theorem Zx {x y : Nat} (hx : VV x) (hy : VV y) : Pure Tryz.prog 198 [uV x, uV y].toArray (J1 (bW ⟨y, x, 0, 0⟩)) := by
 refine Jl Tryz.func198 rfl rfl fun w => ?_; refine JD ?_; refine Jq 9 rfl ?_; refine LR rfl (Jt (r := [_, _, _, _]) rfl rfl) ?_; refine Jn rfl rfl rfl Jdg (W3 (l := [y, x, 0, 0]) (W4.ok.wok (w := ⟨y, x, 0, 0⟩) ⟨hy, hx, QC, QC⟩)) ?_; refine Jx 4 rfl ?_; refine pT rfl rfl rfl fun w1 hs1 => ?_; exact ⟨rfl, hs1.keep⟩
set_option maxHeartbeats 1000000 in
theorem Jrj {r : Rec} (hr : r.ok) {i : Nat} (hi : i < 7) : Pure Tryz.prog 135 [.int .i64 (i : Int), r.val].toArray (J1 (bW (Xm r i))) := by
 refine Jl Tryz.func135 rfl rfl fun w => ?_; refine JD ?_; refine Jq 2 rfl ?_; refine JR (cs := r.cells.toArray) rfl rfl rfl rfl fun rb => ?_; refine JI 16 rfl ?_; refine cD (fun g => ?_) fun g => ?_
 refine Vw 6 [0, 0] rfl rfl ?_; refine Jn rfl rfl rfl Jid (Zx hr.time hr.number) ?_; refine Jx 6 rfl ?_; refine pT rfl rfl rfl fun w1 hs1 => ?_; refine ⟨?_, hs1.keep⟩
 (obtain rfl : i = 0 := by omega
  rfl)
 ·refine JK 6 rfl ?_; refine cD (fun g => ?_) fun g => ?_
  refine Vw 4 [0] rfl rfl ?_; refine Jn rfl rfl rfl Jdg (W3 hr.base.wok) ?_; refine Jx 6 rfl ?_; refine pT rfl rfl rfl fun w1 hs1 => ?_; refine ⟨?_, hs1.keep⟩
  (obtain rfl : i = 1 := by omega
   rfl)
  ·refine JK 6 rfl ?_; refine cD (fun g => ?_) fun g => ?_
   refine Vw 4 [0] rfl rfl ?_; refine Jn rfl rfl rfl Jdg (W3 hr.overhead.wok) ?_; refine Jx 6 rfl ?_; refine pT rfl rfl rfl fun w1 hs1 => ?_; refine ⟨?_, hs1.keep⟩
   (obtain rfl : i = 2 := by omega
    rfl)
   ·refine JK 6 rfl ?_; refine cD (fun g => ?_) fun g => ?_
    refine Vw 4 [0] rfl rfl ?_; refine Jn rfl rfl rfl Jid (Zx QC hr.scalar) ?_; refine Jx 6 rfl ?_; refine pT rfl rfl rfl fun w1 hs1 => ?_; refine ⟨?_, hs1.keep⟩
    (obtain rfl : i = 3 := by omega
     rfl)
    ·refine JK 6 rfl ?_; refine cD (fun g => ?_) fun g => ?_
     refine Vw 6 [0, 0] rfl rfl ?_; refine Jn rfl rfl rfl Jid (Zx hr.extra hr.scalar) ?_; refine Jx 6 rfl ?_; refine pT rfl rfl rfl fun w1 hs1 => ?_; refine ⟨?_, hs1.keep⟩
     (obtain rfl : i = 4 := by omega
      rfl)
     ·refine JK 6 rfl ?_; refine cD (fun g => ?_) fun g => ?_
      refine Vw 4 [0] rfl rfl ?_; refine Jn rfl rfl rfl Jdg (W3 hr.blob.wok) ?_; refine Jx 6 rfl ?_; refine pT rfl rfl rfl fun w1 hs1 => ?_; refine ⟨?_, hs1.keep⟩
      (obtain rfl : i = 5 := by omega
       rfl)
      ·refine Vw 7 [0] rfl rfl ?_; refine Jn rfl rfl rfl Jid (Zx QC hr.operator) ?_; refine Jx 4 rfl ?_; refine pT rfl rfl rfl fun w1 hs1 => ?_; refine ⟨?_, hs1.keep⟩
       (obtain rfl : i = 6 := by omega
        rfl)
structure Num8 (s : BS) (x : Nat) : Prop where
  len : s.length = 8
  u : VV x
  at_ : ∀ i, i < 8 → (s.getD i 0).toNat = x / 256 ^ (7 - i) % 256
theorem zN {c : Cx} {l : Kw} {E : Jm} {X : XP} {d : List Deferred} {ops : Array Oper} {rest : List Nat} {k : Nat} {tb : ZU} {S : Jm} {T : Jm → Act → Prop} {t ty : TypeId} {ps : String} {af : Array Edge} {gd : Option (Nat × Bool)} {x y : Operand} {q r off n : Nat} {cs cs' : Array Value} {vs : Array Value} {e : TypeId} {E' : Jm} (hko : WJ ops.toList k = some ⟨none, .store t x y, ty, ps, af, gd⟩) (hg : Kj l ops ⟨none, .store t x y, ty, ps, af, gd⟩ = some true) (hA : tb k = .turn)
  (hx : Kg l x = some (.pointer (some ⟨r, off, none⟩))) (hk : E[q]? = some (r, .cells cs e (0, 0))) (hy : Kg l y = some (.agg vs)) (ht : KJ c.P t = some n) (hn : vs.size = n) (ho : vs.toList.all Q3 = true) (hc : off + n ≤ cs.size)
  (hcs : (cs.toList.take off ++ vs.toList ++ cs.toList.drop (off + n)).toArray = cs') (hL : E.set q (r, .cells cs' e (0, 0)) = E') (hS : SubS S E')
  (h : HB c d l E' X S ops tb rest T) : HB c d l E X S ops tb (k :: rest) T :=
 jy hko hg rfl hA (fun a w hf hs => ⟨w.setRow r cs', by
  simp only [execOp]; rw [hf.eval hx, hf.eval hy]
  have h1 := run_storeCells_at (P := c.P) r off e vs.toList 0 cs w (hs.get hk) (by simp [hn]; omega) (fun u hu => by rw [WK]; exact List.all_eq_true.1 ho u hu)
  simp only [Nat.add_zero, Array.length_toList, hn] at h1; rw [hcs] at h1
  simp [Instr.storeAt, Instr.sureAddr, Sem.run_bind, Result.andThen, storeVar, QW ht, Value.cells, hn, h1], by
  subst hL
  exact hs.set hk (Keep.setRow r cs') (setRow_heap _ _ _ _ _ _ (hs.get hk))⟩) hS h
theorem Jeq {j : Nat} (h : j < 7) : WJ keysC.toArray.toList j = some (uV (VN j)) := by
 have : j = 0 ∨ j = 1 ∨ j = 2 ∨ j = 3 ∨ j = 4 ∨ j = 5 ∨ j = 6 := by omega
 rcases this with rfl | rfl | rfl | rfl | rfl | rfl | rfl <;> rfl
set_option maxHeartbeats 1000000 in
theorem Jrk {R : Jm} {f : Int} {i : Nat} (hi2 : i < 2) {a : AcL} (ha : a.In R) {r : Rec} (hr : r.ok) : PureT (α := AcRes R (QY f i (AcL.er { a with addr := Qx i }) r)) Tryz.prog 86 [.int .i64 f, .int .i64 (i : Int), a.val, r.val].toArray (fun x => x.val) [] (fun x => x.L) R := by
 obtain ⟨b0, hb0⟩ : ∃ b : AcL, b = { a with addr := Qx i, code := (KG f i).1 } := ⟨_, rfl⟩
 have hcl : (KG f i).1.length ≤ 512 := by
  unfold KG
  (repeat' split) <;> decide
 have hb : b0.In R := hb0 ▸ Jjo (Jjp ha (Jdc i)) hcl
 obtain ⟨rows, hrows⟩ : ∃ rows, rows = qL f r := ⟨_, rfl⟩
 have hdr : ∀ j, j < 7 → rows.drop j = (Wg (VN j), (X0 f r j).2) :: rows.drop (j + 1) := fun j hj => by rw [hrows, ← Jqz]; exact map_drop _ hj
 have hd7 : rows.drop 7 = [] := by rw [hrows]; rfl
 have hcd : QY f i (AcL.er { a with addr := Qx i }) r = if (i : Int) = 1 then (b0.er, 0) else Qg b0.er rows := by
  subst hb0 hrows
  unfold QY
  by_cases h1 : (i : Int) = 1
  rw [if_pos h1, if_pos h1]
  rw [show i = 1 by omega]; rfl
  rw [if_neg h1, if_neg h1]; rfl
 rw [hcd]; clear hrows hcd; refine Jw Tryz.func86 rfl rfl fun w => ?_; refine JD ?_; refine Jq 2 rfl ?_; refine JR (cs := a.cells.toArray) rfl rfl rfl rfl fun ra => ?_; refine JR (cs := r.cells.toArray) rfl rfl rfl rfl fun rr => ?_; refine LN rfl fun r1 => ?_; refine JJ 7 rfl ?_; refine Jn rfl rfl rfl (enters_of Tryz.func85 (by kernel_rfl) rfl) (Jju f i) ?_; refine JJ 10 rfl ?_; refine Jn rfl rfl rfl (enters_of Tryz.func39 (by kernel_rfl) rfl) (Jjt i) ?_
 refine LS 1 [] rfl rfl ?_; refine Kn (k := 2) (cs' := (AcL.cells { a with addr := Qx i }).toArray) rfl rfl rfl rfl rfl rfl rfl rfl rfl rfl ?_; refine JJ 6 rfl ?_; refine Kn (k := 2) (cs' := b0.cells.toArray) rfl rfl rfl rfl rfl rfl rfl rfl (by rw [hb0]; rfl) rfl ?_; refine JI 9 rfl ?_; refine cD (fun g => ?_) fun g => ?_
 refine Jq 2 rfl ?_; refine LR rfl (Jd (xs := b0.cells) (n := 8) rfl (kn 2 rfl) rfl rfl rfl) ?_; refine Jh (k := 0) (n := 8) (ys := (b0).cells) rfl rfl rfl rfl rfl rfl rfl rfl rfl ?_; refine Jx 5 rfl ?_; refine Jg rfl rfl (.cons (Jr (vs := [_, _, _, _, _, _, _, _]) rfl (kn 0 rfl) rfl rfl) (.cons (Jj rfl) .nil)) (fun w1 hs1 => ?_)
 (rw [if_pos (by omega)]
  exact ⟨⟨b0, 0, [], hb, rfl⟩, rfl, hs1.weakL (List.nil_sublist _)⟩)
 ·refine Jq 4 rfl ?_; refine JZ rfl rfl rfl (enters_of Tryz.func133 (by kernel_rfl) rfl) Jvy fun rk => ?_; refine JI 10 rfl ?_; refine QX [3, 2, 1, 0] (L' := [_, _, _, _]) (by decide) rfl ?_; refine Jy (σ := Nat × AcSt R) (fun q => q.1 ≤ 7 ∧ Qg b0.er rows = Qg q.2.a.er (rows.drop q.1)) (fun q => [(0, .int .i64 f), (6, Qh ra 0), (7, Qh rr 0), (8, Qh r1 0), (9, .int .i64 0), (12, .slice (some ⟨rk, 0, none⟩) 7 7), (13, .int .i64 (q.1 : Int))]) (fun q => (ra, .cells q.2.a.cells.toArray 48 (0, 0)) :: (rr, .cells r.cells.toArray 29 (0, 0)) :: (r1, .cells ac0L.cells.toArray 48 (0, 0)) :: (rk, .cells keysC.toArray 25 (0, 0)) :: q.2.L) (fun _ _ _ => True) (fun q => 7 - q.1) (0, ⟨b0, [], hb⟩) ⟨Nat.zero_le _, rfl⟩ (lK rfl) (List.Sublist.refl _) (fun _ _ h => h) ?_; rintro ⟨j, s⟩ ⟨hj7, hinv⟩; simp only at hj7 hinv; change HC _ _ [(0, _), (6, _), (7, _), (8, _), (9, _), (12, _), (13, .int .i64 (j : Int))] ((ra, .cells s.a.cells.toArray _ (0, 0)) :: (rr, _) :: (r1, _) :: (rk, _) :: s.L) _ _ _; refine Jq 5 rfl ?_; refine LR rfl (Ka rfl rfl) ?_; refine JI 3 rfl ?_; refine cD (fun g => ?_) fun g => ?_
  ·refine JK 5 rfl ?_
   have hj : j < 7 := by omega
   rw [hdr j hj, jA] at hinv; refine Jq 1 rfl ?_; refine Jn rfl rfl rfl Jom Ja6 ?_; refine JJ 7 rfl ?_; refine Jn rfl rfl rfl (enters_of Tryz.func134 (by kernel_rfl) rfl) (Jy2 f hj) ?_; refine JI 9 rfl ?_; refine cD (fun g => ?_) fun g => ?_
   ·refine Jq 2 rfl ?_; refine LR rfl (Jd (xs := r.cells) (n := 17) rfl (kn 1 rfl) rfl rfl rfl) ?_; refine Jn rfl rfl rfl (enters_of Tryz.func135 (by kernel_rfl) rfl) (Jrj hr hj) ?_; refine J3 (congrArg J1 (Jjn (f := f) (by assumption))) ?_; refine JI 4 rfl ?_
    first | rw [Jgj (f := f) (r := r) (i := j) (by assumption)] | skip
    refine JT s.L [(1, .pure), (2, .pure), (3, .pure), (5, .pure), (6, .pure), (7, .grow (Qe (Classical.choice (wo s.ok (Wg (VN j)) (X0 f r j).2)) AcRes.val AcRes.L)), (8, .pure), (9, .pure), (10, .pure), (11, .grow (VI vV (.cells #[.string ⟨#[]⟩, .int .u64 0, .int .u64 0, .int .u64 0, .int .u64 0, .int .u64 0, .string ⟨#[]⟩, .slice none 0 0] 48 (0, 0)))), (12, .turn), (13, .pure)] 14 [0, 1, 2, 3, 4, 5, 6, 7, 8, 9, 10, 11, 12, 13] (by kernel_rfl) (by kernel_rfl) (fun p hp => List.mem_cons_of_mem _ (List.mem_cons_of_mem _ (List.mem_cons_of_mem _ (List.mem_cons_of_mem _ hp)))) ?_; refine KE (k := 0) rfl rfl rfl rfl rfl (Jd (xs := s.a.cells) (n := 8) rfl (kn 0 rfl) rfl rfl rfl) ?_; refine Jp (k := 1) rfl rfl rfl rfl rfl (fun _ hS => (Jf rfl)) ?_; refine Jp (k := 2) rfl rfl rfl rfl rfl (fun _ hS => (Jf rfl)) ?_; refine Jp (k := 3) rfl rfl rfl rfl rfl (fun _ _ => JF (j := j) (m := 1) (off' := j) rfl rfl rfl rfl rfl (by omega) (by omega)) ?_; refine KE (k := 4) rfl rfl rfl rfl rfl (Je rfl (kn 3 rfl) rfl (Jeq hj)) ?_; refine QM (k := 5) rfl rfl rfl rfl rfl (enters_of Tryz.func137 (by kernel_rfl) rfl) (Jri (wk j)) ?_; refine Jp (k := 6) rfl rfl rfl rfl rfl (fun _ hS => (Jf rfl)) ?_; refine KO (k := 7) rfl rfl rfl rfl rfl (enters_of Tryz.func136 (by kernel_rfl) rfl) (Jrb s.ok (Wg (VN j)) (X0 f r j).2) (fun q hq => List.mem_append.1 hq) fun x => ?_; refine Jp (k := 8) rfl rfl rfl rfl rfl (fun _ hS => (Jf rfl)) ?_; refine Jp (k := 9) rfl rfl rfl rfl rfl (fun _ hS => (JY rfl rfl)) ?_; refine Jp (k := 10) rfl rfl rfl rfl rfl (fun _ hS => (JY rfl rfl)) ?_; refine Wx (k := 11) (cs := #[_, _, _, _, _, _, _, _]) rfl rfl rfl rfl rfl rfl fun r2 => ?_; refine Vi (k := 12) (q := 0) (n := 8) (ys := x.a.cells) rfl rfl rfl rfl rfl rfl rfl rfl rfl rfl rfl (fun p hp => List.mem_cons_of_mem _ (List.mem_append_right _ (List.mem_cons_of_mem _ (List.mem_cons_of_mem _ (List.mem_cons_of_mem _ (List.mem_cons_of_mem _ hp)))))) ?_; refine Jp (k := 13) rfl rfl rfl rfl rfl (fun _ hS => (JC rfl)) ?_; refine Kx ?_; refine JI 4 rfl ?_; refine vC (List.Perm.cons _ (Qz x.L [_, _, _, _] s.L)) ?_; change HC _ _ _ ((_, .cells x.a.cells.toArray _ _) :: (ra, .cells s.a.cells.toArray _ _) :: (rr, _) :: (r1, _) :: (rk, _) :: (x.L ++ s.L)) _ _ _
    have hx := x.eq
    have hxe : (Vz s.a.er (Wg (VN j)) (X0 f r j).2).2 = x.err := (congrArg Prod.snd hx).symm
    have hxa : (Vz s.a.er (Wg (VN j)) (X0 f r j).2).1 = x.a.er := (congrArg Prod.fst hx).symm
    refine JK 5 rfl ?_; refine cD (fun g => ?_) fun g => ?_
    refine Jq 2 rfl ?_; refine LR rfl (Jd (xs := s.a.cells) (n := 8) rfl (kn 1 rfl) rfl rfl rfl) ?_; refine Q1 rfl (Jh (k := 3) (n := 8) (ys := (s.a).cells) rfl rfl rfl rfl rfl rfl rfl rfl rfl (Jx 10 rfl ?_)); refine Jg rfl rfl (.cons (Jr (vs := [_, _, _, _, _, _, _, _]) rfl (kn 3 rfl) rfl rfl) (.cons (Jj rfl) .nil)) (fun w1 hs1 => ?_)
    (have he : Qg b0.er rows = (s.a.er, x.err) := by
      rw [hinv, if_pos (by rw [hxe]; assumption)]; exact (wp (by rw [hxe]; assumption)).trans (congrArg (Prod.mk s.a.er) hxe)
     rw [if_neg (by omega), he]
     exact ⟨⟨s.a, x.err, s.L, s.ok, rfl⟩, rfl, hs1.weakL (.cons _ (.cons _ (.cons _ (.cons _ (.cons _ (List.sublist_append_right _ _))))))⟩)
    ·refine Jq 3 rfl ?_; refine LR rfl (Jd (xs := x.a.cells) (n := 8) rfl (kn 0 rfl) rfl rfl rfl) ?_; refine Jh (k := 1) (n := 8) (ys := (x.a).cells) rfl rfl rfl rfl rfl rfl rfl rfl rfl ?_; refine JJ 6 rfl ?_; refine Jc (by omega) (by omega) ?_; refine Jx 2 rfl ?_; refine Jv ?_; exact Jo (j + 1, s.next x) ⟨by simp only; omega, by rw [hinv, if_neg (by rw [hxe]; omega), hxa]; rfl⟩ (by simp only; omega) (lK rfl) (List.sublist_cons_self _ _) (fun _ _ h => h)
   ·refine JK 3 rfl ?_
    first | rw [Jgj (f := f) (r := r) (i := j) (by assumption)] | skip
    refine JT s.L [(1, .pure), (2, .pure), (3, .pure), (5, .pure), (6, .pure), (7, .grow (Qe (Classical.choice (wo s.ok (Wg (VN j)) (X0 f r j).2)) AcRes.val AcRes.L)), (8, .pure), (9, .pure), (10, .pure), (11, .grow (VI vV (.cells #[.string ⟨#[]⟩, .int .u64 0, .int .u64 0, .int .u64 0, .int .u64 0, .int .u64 0, .string ⟨#[]⟩, .slice none 0 0] 48 (0, 0)))), (12, .turn), (13, .pure)] 14 [0, 1, 2, 3, 4, 5, 6, 7, 8, 9, 10, 11, 12, 13] (by kernel_rfl) (by kernel_rfl) (fun p hp => List.mem_cons_of_mem _ (List.mem_cons_of_mem _ (List.mem_cons_of_mem _ (List.mem_cons_of_mem _ hp)))) ?_; refine KE (k := 0) rfl rfl rfl rfl rfl (Jd (xs := s.a.cells) (n := 8) rfl (kn 0 rfl) rfl rfl rfl) ?_; refine Jp (k := 1) rfl rfl rfl rfl rfl (fun _ hS => (Jf rfl)) ?_; refine Jp (k := 2) rfl rfl rfl rfl rfl (fun _ hS => (Jf rfl)) ?_; refine Jp (k := 3) rfl rfl rfl rfl rfl (fun _ _ => JF (j := j) (m := 1) (off' := j) rfl rfl rfl rfl rfl (by omega) (by omega)) ?_; refine KE (k := 4) rfl rfl rfl rfl rfl (Je rfl (kn 3 rfl) rfl (Jeq hj)) ?_; refine QM (k := 5) rfl rfl rfl rfl rfl (enters_of Tryz.func137 (by kernel_rfl) rfl) (Jri (wk j)) ?_; refine Jp (k := 6) rfl rfl rfl rfl rfl (fun _ hS => (Jf rfl)) ?_; refine KO (k := 7) rfl rfl rfl rfl rfl (enters_of Tryz.func136 (by kernel_rfl) rfl) (Jrb s.ok (Wg (VN j)) (X0 f r j).2) (fun q hq => List.mem_append.1 hq) fun x => ?_; refine Jp (k := 8) rfl rfl rfl rfl rfl (fun _ hS => (Jf rfl)) ?_; refine Jp (k := 9) rfl rfl rfl rfl rfl (fun _ hS => (JY rfl rfl)) ?_; refine Jp (k := 10) rfl rfl rfl rfl rfl (fun _ hS => (JY rfl rfl)) ?_; refine Wx (k := 11) (cs := #[_, _, _, _, _, _, _, _]) rfl rfl rfl rfl rfl rfl fun r3 => ?_; refine Vi (k := 12) (q := 0) (n := 8) (ys := x.a.cells) rfl rfl rfl rfl rfl rfl rfl rfl rfl rfl rfl (fun p hp => List.mem_cons_of_mem _ (List.mem_append_right _ (List.mem_cons_of_mem _ (List.mem_cons_of_mem _ (List.mem_cons_of_mem _ (List.mem_cons_of_mem _ hp)))))) ?_; refine Jp (k := 13) rfl rfl rfl rfl rfl (fun _ hS => (JC rfl)) ?_; refine Kx ?_; refine JI 4 rfl ?_; refine vC (List.Perm.cons _ (Qz x.L [_, _, _, _] s.L)) ?_; change HC _ _ _ ((_, .cells x.a.cells.toArray _ _) :: (ra, .cells s.a.cells.toArray _ _) :: (rr, _) :: (r1, _) :: (rk, _) :: (x.L ++ s.L)) _ _ _
    have hx := x.eq
    have hxe : (Vz s.a.er (Wg (VN j)) (X0 f r j).2).2 = x.err := (congrArg Prod.snd hx).symm
    have hxa : (Vz s.a.er (Wg (VN j)) (X0 f r j).2).1 = x.a.er := (congrArg Prod.fst hx).symm
    refine JK 5 rfl ?_; refine cD (fun g => ?_) fun g => ?_
    refine Jq 2 rfl ?_; refine LR rfl (Jd (xs := s.a.cells) (n := 8) rfl (kn 1 rfl) rfl rfl rfl) ?_; refine Q1 rfl (Jh (k := 3) (n := 8) (ys := (s.a).cells) rfl rfl rfl rfl rfl rfl rfl rfl rfl (Jx 10 rfl ?_)); refine Jg rfl rfl (.cons (Jr (vs := [_, _, _, _, _, _, _, _]) rfl (kn 3 rfl) rfl rfl) (.cons (Jj rfl) .nil)) (fun w1 hs1 => ?_)
    (have he : Qg b0.er rows = (s.a.er, x.err) := by
      rw [hinv, if_pos (by rw [hxe]; assumption)]; exact (wp (by rw [hxe]; assumption)).trans (congrArg (Prod.mk s.a.er) hxe)
     rw [if_neg (by omega), he]
     exact ⟨⟨s.a, x.err, s.L, s.ok, rfl⟩, rfl, hs1.weakL (.cons _ (.cons _ (.cons _ (.cons _ (.cons _ (List.sublist_append_right _ _))))))⟩)
    ·refine Jq 3 rfl ?_; refine LR rfl (Jd (xs := x.a.cells) (n := 8) rfl (kn 0 rfl) rfl rfl rfl) ?_; refine Jh (k := 1) (n := 8) (ys := (x.a).cells) rfl rfl rfl rfl rfl rfl rfl rfl rfl ?_; refine JJ 6 rfl ?_; refine Jc (by omega) (by omega) ?_; refine Jx 2 rfl ?_; refine Jv ?_; exact Jo (j + 1, s.next x) ⟨by simp only; omega, by rw [hinv, if_neg (by rw [hxe]; omega), hxa]; rfl⟩ (by simp only; omega) (lK rfl) (List.sublist_cons_self _ _) (fun _ _ h => h)
  ·refine Jq 7 rfl ?_; refine LR rfl (Jd (xs := s.a.cells) (n := 8) rfl (kn 0 rfl) rfl rfl rfl) ?_; refine Jh (k := 2) (n := 8) (ys := (s.a).cells) rfl rfl rfl rfl rfl rfl rfl rfl rfl ?_; refine Jx 4 rfl ?_; refine Jg rfl rfl (.cons (Jr (vs := [_, _, _, _, _, _, _, _]) rfl (kn 2 rfl) rfl rfl) (.cons (Jj rfl) .nil)) (fun w1 hs1 => ?_)
   (obtain rfl : j = 7 := by omega
    rw [if_neg (by omega), hinv, hd7]
    exact ⟨⟨s.a, 0, s.L, s.ok, rfl⟩, rfl, hs1.weakL (.cons _ (.cons _ (.cons _ (.cons _ (List.Sublist.refl _)))))⟩)
set_option maxHeartbeats 1000000 in
theorem Jrl {R : Jm} (f : Int) {s : StL} (hs : s.In R) {r : Rec} (hr : r.ok) : PureT (α := StRes R (Q5 f s.er r)) Tryz.prog 34 [.int .i64 f, s.val, r.val].toArray (fun x => x.val) [] (fun x => x.L) R := by
 have hc := Zg hs
 obtain ⟨res, hres⟩ : ∃ res, res = Yv f s.er fun w a => QY f w a r := ⟨_, rfl⟩
 have hwr : Q5 f s.er r = if V6 f r ≠ 0 then (s.er, V6 f r) else if KC s.er ≠ 0 then (s.er, KC s.er) else res := by rw [hres]; rfl
 rw [hwr]; refine Jw Tryz.func34 rfl rfl fun w => ?_; refine JD ?_; refine Jq 2 rfl ?_; refine JR (cs := s.cells.toArray) rfl rfl rfl rfl fun rb => ?_; refine JR (cs := r.cells.toArray) rfl rfl rfl rfl fun rr => ?_; refine LN rfl fun r1 => ?_; refine JJ 6 rfl ?_; refine LR rfl (Jd (xs := r.cells) (n := 17) rfl (kn 1 rfl) rfl rfl rfl) ?_; refine Jn rfl rfl rfl (enters_of Tryz.func84 (by kernel_rfl) rfl) (Jvx f r) ?_; refine JI 10 rfl ?_; refine cD (fun g => ?_) fun g => ?_
 refine Jq 2 rfl ?_; refine LR rfl (Jd (xs := s.cells) (n := 1) rfl (kn 2 rfl) rfl rfl rfl) ?_; refine Q1 rfl (Jh (k := 0) (n := 1) (ys := s.cells) rfl rfl rfl rfl rfl rfl rfl rfl rfl (Jx 5 rfl ?_)); refine Jg rfl rfl (.cons (Jr (vs := [_]) rfl (kn 0 rfl) rfl rfl) (.cons (Jj rfl) .nil)) (fun w1 hs1 => ?_); rw [if_pos (by omega)]; exact ⟨⟨s, V6 f r, [], hs, rfl⟩, rfl, hs1.weakL (List.nil_sublist _)⟩
 ·refine Jq 4 rfl ?_; refine LR rfl (Jd (xs := s.cells) (n := 1) rfl (kn 2 rfl) rfl rfl rfl) ?_; refine Ji rfl rfl rfl Jok hc oR ?_; refine JI 10 rfl ?_; refine cD (fun g => ?_) fun g => ?_
  refine Jq 2 rfl ?_; refine LR rfl (Jd (xs := s.cells) (n := 1) rfl (kn 2 rfl) rfl rfl rfl) ?_; refine Q1 rfl (Jh (k := 0) (n := 1) (ys := s.cells) rfl rfl rfl rfl rfl rfl rfl rfl rfl (Jx 5 rfl ?_)); refine Jg rfl rfl (.cons (Jr (vs := [_]) rfl (kn 0 rfl) rfl rfl) (.cons (Jj rfl) .nil)) (fun w1 hs1 => ?_); rw [if_neg (by omega), if_pos (by omega)]; exact ⟨⟨s, KC s.er, [], hs, rfl⟩, rfl, hs1.weakL (List.nil_sublist _)⟩
  ·refine Jq 4 rfl ?_; refine LR rfl (Jd (xs := s.cells) (n := 1) rfl (kn 2 rfl) rfl rfl rfl) ?_; refine LN rfl fun r2 => ?_; refine Jh (k := 0) (n := 1) (ys := s.cells) rfl rfl rfl rfl rfl rfl rfl rfl rfl ?_; refine JI 9 rfl ?_
   have hrs2 : Vt f s.er (fun w a => QY f w a r) (([0, 1] : List Int).drop 0) s.er = res := hres.symm
   refine QX [0, 3, 2, 1] (L' := [_, _, _, _]) (by decide) rfl ?_; refine Jy (σ := Nat × StSt R) (fun q => q.1 ≤ 2 ∧ Vt f s.er (fun w a => QY f w a r) (([0, 1] : List Int).drop q.1) q.2.s.er = res) (fun q => [(0, .int .i64 f), (4, Qh rb 0), (5, Qh rr 0), (6, Qh r1 0), (7, .int .i64 0), (10, Qh r2 0), (11, .int .i64 (q.1 : Int))]) (fun q => (r2, .cells q.2.s.cells.toArray 36 (0, 0)) :: (rb, .cells s.cells.toArray 36 (0, 0)) :: (rr, .cells r.cells.toArray 29 (0, 0)) :: (r1, .cells st0L.cells.toArray 36 (0, 0)) :: q.2.L) (fun _ _ _ => True) (fun q => 2 - q.1) (0, ⟨s, [], hs⟩) ⟨Nat.zero_le _, hrs2⟩ (lK rfl) (List.Sublist.refl _) (fun _ _ h => h) ?_; rintro ⟨i, t⟩ ⟨hi2, hinv⟩; simp only at hi2 hinv; change HC _ _ [(0, _), (4, _), (5, _), (6, _), (7, _), (10, _), (11, .int .i64 (i : Int))] ((r2, .cells t.s.cells.toArray _ (0, 0)) :: (rb, _) :: (rr, _) :: (r1, _) :: t.L) _ _ _; refine JK 7 rfl ?_; refine cD (fun g => ?_) fun g => ?_
   ·refine JK 5 rfl ?_
    have hi : i < 2 := by omega
    rw [qO hi, jB] at hinv; refine Jq 3 rfl ?_; refine Jn rfl rfl rfl (enters_of Tryz.func85 (by kernel_rfl) rfl) (Jju f i) ?_; refine JI 14 rfl ?_; refine cD (fun g => ?_) fun g => ?_
    refine Jq 7 rfl ?_; refine Jc (by omega) (by omega) ?_; refine Jx 2 rfl ?_; refine Jv ?_
    (rw [if_pos (by simp_all)] at hinv
     exact Jo (i + 1, t) ⟨by simp only; omega, hinv⟩ (by simp only; omega) (lK rfl) (List.Sublist.refl _) (fun _ _ h => h))
    ·refine JK 3 rfl ?_; rw [if_neg (by simp_all)] at hinv
     refine JT [] [(1, .pure), (2, .pure), (4, .pure), (5, .pure), (6, .pure), (7, .grow (VI vV (.cells #[.string ⟨#[]⟩, .int .u64 0, .int .u64 0, .int .u64 0, .int .u64 0, .int .u64 0, .string ⟨#[]⟩, .slice none 0 0] 48 (0, 0)))), (8, .turn), (9, .pure)] 10 [0, 1, 2, 3, 4, 5, 6, 7, 8, 9] (by kernel_rfl) (by kernel_rfl) (by first | exact (fun _ h => absurd h List.not_mem_nil) | simp [SubS] | (intro p hp; simp [hp])) ?_; refine KE (k := 0) rfl rfl rfl rfl rfl (Jd (xs := t.s.cells) (n := 1) rfl (kn 0 rfl) rfl rfl rfl) ?_; refine Jp (k := 1) rfl rfl rfl rfl rfl (fun _ hS => (Jf rfl)) ?_; refine QM (k := 2) rfl rfl rfl rfl rfl (enters_of Tryz.func39 (by kernel_rfl) rfl) (Jjt i) ?_; refine Qa (k := 3) rfl rfl rfl rfl rfl (enters_of Tryz.func38 (by kernel_rfl) rfl) (Jjq t.ok (Qx i)) (fun q hq => (List.mem_append.1 hq).elim (fun h => Or.inl (List.mem_cons_of_mem _ (List.mem_cons_of_mem _ (List.mem_cons_of_mem _ (List.mem_cons_of_mem _ h))))) Or.inr) ?_; refine Jp (k := 4) rfl rfl rfl rfl rfl (fun _ hS => (Jf rfl)) ?_; refine Jp (k := 5) rfl rfl rfl rfl rfl (fun _ hS => (JY rfl rfl)) ?_; refine Jp (k := 6) rfl rfl rfl rfl rfl (fun _ hS => (JY rfl rfl)) ?_; refine Wx (k := 7) (cs := #[_, _, _, _, _, _, _, _]) rfl rfl rfl rfl rfl rfl fun r3 => ?_; refine Vi (k := 8) (q := 0) (n := 8) (ys := (Qy t.s (Qx i)).cells) rfl rfl rfl rfl rfl rfl rfl rfl rfl rfl rfl (fun _ h => nomatch h) ?_; refine Jp (k := 9) rfl rfl rfl rfl rfl (fun _ hS => (JC rfl)) ?_; refine Kx ?_; refine JJ 6 rfl ?_; refine LR rfl (Jd (xs := (Qy t.s (Qx i)).cells) (n := 8) rfl (kn 0 rfl) rfl rfl rfl) ?_; refine LR rfl (Jd (xs := r.cells) (n := 17) rfl (kn 3 rfl) rfl rfl rfl) ?_; refine Ke rfl rfl rfl (enters_of Tryz.func86 (by kernel_rfl) rfl) (Jrk (f := f) hi (vB t.ok (Qx i)) hr) (fun q hq => (List.mem_append.1 hq).elim (fun h => Or.inl (List.mem_cons_of_mem _ (List.mem_cons_of_mem _ (List.mem_cons_of_mem _ (List.mem_cons_of_mem _ (List.mem_cons_of_mem _ h)))))) Or.inr) fun x => ?_; refine Kk (Qz x.L [_, _, _, _, _] t.L) ?_; change HL _ _ ((58, .tuple #[x.a.val, .int .i64 x.err]) :: _) ((r3, _) :: (r2, _) :: (rb, _) :: (rr, _) :: (r1, _) :: (x.L ++ t.L)) _ _ _ _
     have hxe : (QY f i (QO t.s.er i) r).2 = x.err := by rw [← Jaf]; exact (congrArg Prod.snd x.eq).symm
     have hxa : (QY f i (QO t.s.er i) r).1 = x.a.er := by rw [← Jaf]; exact (congrArg Prod.fst x.eq).symm
     simp only [hxe, hxa] at hinv; refine LS 3 [] rfl rfl ?_; refine LN rfl fun r4 => ?_; refine Jh (k := 0) (n := 8) (ys := (x.a).cells) rfl rfl rfl rfl rfl rfl rfl rfl rfl ?_; refine JI 10 rfl ?_; refine cD (fun g => ?_) fun g => ?_
     refine Jq 2 rfl ?_; refine LR rfl (Jd (xs := s.cells) (n := 1) rfl (kn 3 rfl) rfl rfl rfl) ?_; refine Q1 rfl (Jh (k := 5) (n := 1) (ys := s.cells) rfl rfl rfl rfl rfl rfl rfl rfl rfl (Jx 10 rfl ?_)); refine Jg rfl rfl (.cons (Jr (vs := [_]) rfl (kn 5 rfl) rfl rfl) (.cons (Jj rfl) .nil)) (fun w1 hs1 => ?_)
     (rw [if_pos (show x.err ≠ 0 by omega)] at hinv
      rw [if_neg (by omega), if_neg (by omega)]
      exact ⟨⟨s, x.err, [], hs, hinv⟩, rfl, hs1.weakL (List.nil_sublist _)⟩)
     ·refine Jq 4 rfl ?_; refine LR rfl (Jd (xs := t.s.cells) (n := 1) rfl (kn 2 rfl) rfl rfl rfl) ?_; refine LR rfl (Jd (xs := x.a.cells) (n := 8) rfl (kn 0 rfl) rfl rfl rfl) ?_; refine Ke rfl rfl rfl (enters_of Tryz.func87 (by kernel_rfl) rfl) (Jra (R := x.L ++ (t.L ++ R)) (t.ok.mono fun q hq => List.mem_append_right _ hq) x.ok) (fun q hq => (List.mem_append.1 hq).elim (fun h => Or.inl (List.mem_cons_of_mem _ (List.mem_cons_of_mem _ (List.mem_cons_of_mem _ (List.mem_cons_of_mem _ (List.mem_cons_of_mem _ (List.mem_cons_of_mem _ (List.mem_append_left _ h)))))))) fun hq => (List.mem_append.1 hq).elim (fun h => Or.inl (List.mem_cons_of_mem _ (List.mem_cons_of_mem _ (List.mem_cons_of_mem _ (List.mem_cons_of_mem _ (List.mem_cons_of_mem _ (List.mem_cons_of_mem _ (List.mem_append_right _ h)))))))) Or.inr) fun y => ?_; refine Kk (Qz y.L [_, _, _, _, _, _] (x.L ++ t.L)) ?_; change HL _ _ ((68, .tuple #[y.s.val, .int .i64 y.err]) :: _) ((r4, _) :: (r3, _) :: (r2, _) :: (rb, _) :: (rr, _) :: (r1, _) :: (y.L ++ (x.L ++ t.L))) _ _ _ _
      have hye : (YO t.s.er x.a.er).2 = y.err := (congrArg Prod.snd y.eq).symm
      have hys : (YO t.s.er x.a.er).1 = y.s.er := (congrArg Prod.fst y.eq).symm
      simp only [hye, hys] at hinv; refine LS 3 [] rfl rfl ?_; refine LN rfl fun r5 => ?_; refine Jh (k := 0) (n := 1) (ys := y.s.cells) rfl rfl rfl rfl rfl rfl rfl rfl rfl ?_; refine JI 10 rfl ?_; refine cD (fun g => ?_) fun g => ?_
      refine Jq 2 rfl ?_; refine LR rfl (Jd (xs := s.cells) (n := 1) rfl (kn 4 rfl) rfl rfl rfl) ?_; refine Q1 rfl (Jh (k := 6) (n := 1) (ys := s.cells) rfl rfl rfl rfl rfl rfl rfl rfl rfl (Jx 10 rfl ?_)); refine Jg rfl rfl (.cons (Jr (vs := [_]) rfl (kn 6 rfl) rfl rfl) (.cons (Jj rfl) .nil)) (fun w1 hs1 => ?_)
      (rw [if_neg (show ¬ (x.err ≠ 0) by omega), if_pos (show y.err ≠ 0 by omega)] at hinv
       rw [if_neg (by omega), if_neg (by omega)]
       exact ⟨⟨s, y.err, [], hs, hinv⟩, rfl, hs1.weakL (List.nil_sublist _)⟩)
      ·refine Jq 3 rfl ?_; refine LR rfl (Jd (xs := y.s.cells) (n := 1) rfl (kn 0 rfl) rfl rfl rfl) ?_; refine Jh (k := 3) (n := 1) (ys := y.s.cells) rfl rfl rfl rfl rfl rfl rfl rfl rfl ?_; refine JJ 6 rfl ?_; refine Jc (by omega) (by omega) ?_; refine Jx 2 rfl ?_; refine Jv ?_
       (rw [if_neg (show ¬ (x.err ≠ 0) by omega), if_neg (show ¬ (y.err ≠ 0) by omega)] at hinv
        exact Jo (i + 1, t.next y) ⟨by simp only; omega, hinv⟩ (by simp only; omega) (lK rfl) (.cons _ (.cons _ (.cons _ (List.Sublist.refl _)))) (fun _ _ h => h))
   ·refine Jq 7 rfl ?_; refine LR rfl (Jd (xs := t.s.cells) (n := 1) rfl (kn 0 rfl) rfl rfl rfl) ?_; refine Jh (k := 3) (n := 1) (ys := t.s.cells) rfl rfl rfl rfl rfl rfl rfl rfl rfl ?_; refine Jx 4 rfl ?_; refine Jg rfl rfl (.cons (Jr (vs := [_]) rfl (kn 3 rfl) rfl rfl) (.cons (Jj rfl) .nil)) (fun w1 hs1 => ?_)
    (obtain rfl : i = 2 := by omega
     rw [if_neg (by omega), if_neg (by omega)]
     exact ⟨⟨t.s, 0, t.L, t.ok, hinv⟩, rfl, hs1.weakL (.cons _ (.cons _ (.cons _ (.cons _ (List.Sublist.refl _)))))⟩)
theorem _root_.Go.SL.PureT.ne {α : Type} {P : Program} {f : FuncId} {args : Array Value} {V : α → Value} {LL : α → Jm} {Rl : Jm} (h : PureT P f args V [] LL Rl) {w : World} (hR : Has Rl w) : Nonempty α := by
 obtain ⟨e, w', fr, ⟨x, _⟩, _⟩ := h.run w (fun p hp => by cases hp) hR List.Pairwise.nil (fun p _ q hq => by cases hq) []
 exact ⟨x⟩
theorem Jbb {α : Type} {P : Program} {f : FuncId} {fn : Func} {code : Code} {vs : List Value} {V : α → Value} {T Rl : Jm} {LL : α → Jm} (hf : P.funcs[f]? = some fn) (hb : fn.body = some code) (hlen : Nat.ble vs.length fn.ntmps = true)
  (h : ∀ w, Has Rl w → HC (cxT P w T Rl fn.ntmps) [] (VB 0 vs) T (fun _ _ => True) code (bodyPostM (FW none) 0 P fn (fun e w' => ∃ x, e = .returned (V x) ∧ St (cxT P w T Rl fn.ntmps) (LL x) (fun _ _ => True) w'))) : PureT P f vs.toArray V T LL Rl := ⟨fun w hT hR hd hne =>
 (Q7 (cxT P w T Rl fn.ntmps) hf hb rfl rfl rfl hlen (St.startT hT hR hd hne) (h w hR)).mono fun _ _ ⟨x, he, hs⟩ => ⟨x, he, by have := hs.keep; simpa [cxT] using this, fun p hp => ⟨(hs.own p hp).1, (hs.own p hp).2.2⟩, hs.distinct⟩⟩
def m1 : Rec := ⟨7, 0, w40, w40, ⟨5, 0, 0, 0⟩, 3, 0, 0⟩
def m2 : Rec := ⟨7, 0, w40, ⟨1, 0, 0, 0⟩, w40, 3, 0, 0⟩
def m3 : Rec := ⟨7, 0, w40, ⟨1, 0, 0, 0⟩, w40, 3, 0, 1⟩
def qZ (k v : Int) : Int × Int × Bool :=
 if k = 1 then (if v = 4 then (5, 5, true) else (0, 5, (v == 0 || v == 1 || v == 2 || v == 126)))
 else if k = 2 then (if v = 2 then (2, 5, true) else (v, v, (v == 0 || v == 1)))
 else if k = 3 then (IntKind.i64.wrap (3 * v), 5, (v == 0 || v == 1))
 else if k = 4 then (IntKind.i64.wrap (2 * v), 5, (v == 0 || v == 2))
 else if k = 5 then (IntKind.i64.wrap (5 * v), IntKind.i64.wrap (4 + v), (v == 0 || v == 1))
 else (0, 0, false)
def KI (a b : Int) : Value := .agg [.int .i64 a, .int .i64 b].toArray
def Jbc (v : Value) : Prop := ∃ a b, v = KI a b
def yj : Value → List Int
 | .agg cs => cs.toList.map fun | .int _ n => n | _ => 0
 | _ => []
def Wj (x y : Value) : Bool := decide (yj x = yj y)
theorem zO (a b c d : Int) : Wj (KI a b) (KI c d) = (a == c && b == d) := by
 unfold Wj KI yj
 by_cases h1 : a = c <;> by_cases h2 : b = d <;> simp [h1, h2]
theorem Jrm : KeyL Tryz.prog 201 Jbc Wj where
 now := ⟨_, rfl, fun a b ⟨a1, a2, ha⟩ ⟨b1, b2, hb⟩ => by subst ha hb; exact .inl rfl⟩
 equal := by
  rintro _ _ w ⟨a, b, rfl⟩ ⟨c, d, rfl⟩; rw [zO]
  show (Op.equalIn (9999 + 1) _ (.agg _) (.agg _)).run _ _ = _
  rw [run_equalIn_struct w 9999 _ _ _ (by kernel_rfl) (by kernel_rfl)]
  simp [go_sem]
  by_cases h1 : a = c <;> by_cases h2 : b = d <;> simp [h1, h2]
 check := by
  rintro _ b w ⟨x, y, rfl⟩; exact jl (by kernel_rfl) (by simp) b 9998 w
def tableKV : List (Value × Value) :=
 [(KI 1 0, KI 0 5), (KI 1 1, KI 0 5), (KI 1 2, KI 0 5), (KI 1 126, KI 0 5), (KI 1 4, KI 5 5), (KI 2 0, KI 0 0), (KI 2 1, KI 1 1), (KI 2 2, KI 2 5),
  (KI 3 0, KI 0 5), (KI 3 1, KI 3 5), (KI 4 0, KI 0 5), (KI 4 2, KI 4 5), (KI 5 0, KI 0 4), (KI 5 1, KI 5 5)]
def J2b : Type := { p : Nat × Array MapEntry // (p.2.toList.map Ve).Perm tableKV ∧ p.2.toList.map (·.born) = List.range p.2.size }
theorem ZG : PureE (α := J2b) Tryz.prog 172 [].toArray (fun x => .map (some x.1.1)) (fun x => [(x.1.1, .map x.1.2 x.1.2.size)]) := by
 refine Kf Tryz.func172 rfl rfl fun w => ?_; refine JD ?_; refine JK 6 rfl ?_; refine Jkh (t := 198) 1 [(1, 2, .agg [.int .i64 1, .int .i64 0].toArray), (2, 3, .agg [.int .i64 0, .int .i64 5].toArray), (4, 4, .agg [.int .i64 1, .int .i64 1].toArray), (5, 5, .agg [.int .i64 0, .int .i64 5].toArray), (7, 6, .agg [.int .i64 1, .int .i64 2].toArray), (8, 7, .agg [.int .i64 0, .int .i64 5].toArray), (10, 8, .agg [.int .i64 1, .int .i64 126].toArray), (11, 9, .agg [.int .i64 0, .int .i64 5].toArray), (13, 10, .agg [.int .i64 1, .int .i64 4].toArray), (14, 11, .agg [.int .i64 5, .int .i64 5].toArray), (16, 12, .agg [.int .i64 2, .int .i64 0].toArray), (17, 13, .agg [.int .i64 0, .int .i64 0].toArray), (19, 14, .agg [.int .i64 2, .int .i64 1].toArray), (20, 15, .agg [.int .i64 1, .int .i64 1].toArray), (22, 16, .agg [.int .i64 2, .int .i64 2].toArray), (23, 17, .agg [.int .i64 2, .int .i64 5].toArray), (25, 18, .agg [.int .i64 3, .int .i64 0].toArray), (26, 19, .agg [.int .i64 0, .int .i64 5].toArray), (28, 20, .agg [.int .i64 3, .int .i64 1].toArray), (29, 21, .agg [.int .i64 3, .int .i64 5].toArray), (31, 22, .agg [.int .i64 4, .int .i64 0].toArray), (32, 23, .agg [.int .i64 0, .int .i64 5].toArray), (34, 24, .agg [.int .i64 4, .int .i64 2].toArray), (35, 25, .agg [.int .i64 4, .int .i64 5].toArray), (37, 26, .agg [.int .i64 5, .int .i64 0].toArray), (38, 27, .agg [.int .i64 0, .int .i64 4].toArray), (40, 28, .agg [.int .i64 5, .int .i64 1].toArray), (41, 29, .agg [.int .i64 5, .int .i64 5].toArray)] [(3, .agg [.int .i64 1, .int .i64 0].toArray, .agg [.int .i64 0, .int .i64 5].toArray), (6, .agg [.int .i64 1, .int .i64 1].toArray, .agg [.int .i64 0, .int .i64 5].toArray), (9, .agg [.int .i64 1, .int .i64 2].toArray, .agg [.int .i64 0, .int .i64 5].toArray), (12, .agg [.int .i64 1, .int .i64 126].toArray, .agg [.int .i64 0, .int .i64 5].toArray), (15, .agg [.int .i64 1, .int .i64 4].toArray, .agg [.int .i64 5, .int .i64 5].toArray), (18, .agg [.int .i64 2, .int .i64 0].toArray, .agg [.int .i64 0, .int .i64 0].toArray), (21, .agg [.int .i64 2, .int .i64 1].toArray, .agg [.int .i64 1, .int .i64 1].toArray), (24, .agg [.int .i64 2, .int .i64 2].toArray, .agg [.int .i64 2, .int .i64 5].toArray), (27, .agg [.int .i64 3, .int .i64 0].toArray, .agg [.int .i64 0, .int .i64 5].toArray), (30, .agg [.int .i64 3, .int .i64 1].toArray, .agg [.int .i64 3, .int .i64 5].toArray), (33, .agg [.int .i64 4, .int .i64 0].toArray, .agg [.int .i64 0, .int .i64 5].toArray), (36, .agg [.int .i64 4, .int .i64 2].toArray, .agg [.int .i64 4, .int .i64 5].toArray), (39, .agg [.int .i64 5, .int .i64 0].toArray, .agg [.int .i64 0, .int .i64 4].toArray), (42, .agg [.int .i64 5, .int .i64 1].toArray, .agg [.int .i64 5, .int .i64 5].toArray)] [(43, 30), (44, 0)] [] Jrm rfl (by kernel_rfl) ?hops (by kernel_rfl) rfl (by decide) rfl (fun i v h => by cases h) (by decide) rfl (by simp only [List.forall_mem_cons]; exact ⟨⟨_, _, rfl⟩, ⟨_, _, rfl⟩, ⟨_, _, rfl⟩, ⟨_, _, rfl⟩, ⟨_, _, rfl⟩, ⟨_, _, rfl⟩, ⟨_, _, rfl⟩, ⟨_, _, rfl⟩, ⟨_, _, rfl⟩, ⟨_, _, rfl⟩, ⟨_, _, rfl⟩, ⟨_, _, rfl⟩, ⟨_, _, rfl⟩, ⟨_, _, rfl⟩, by simp⟩) (by decide) ?_
 case hops =>
  intro i o h
  match i, h with
  | 0, h => cases Option.some.inj h; exact MLit.mk
  | 1, h => cases Option.some.inj h; exact MLit.pure (s := 2) (v := .agg [.int .i64 1, .int .i64 0].toArray) (Ju (n := 0) rfl) rfl rfl rfl (Jt (r := [_, _]) rfl rfl)
  | 2, h => cases Option.some.inj h; exact MLit.pure (s := 3) (v := .agg [.int .i64 0, .int .i64 5].toArray) (Ju (n := 1) rfl) rfl rfl rfl (Jt (r := [_, _]) rfl rfl)
  | 3, h => cases Option.some.inj h; exact MLit.ins (j1 := 1) (j2 := 2) (k := .agg [.int .i64 1, .int .i64 0].toArray) (v := .agg [.int .i64 0, .int .i64 5].toArray) (Ju (n := 0) rfl) (Ju (n := 0) rfl) (Ju (n := 1) rfl) rfl rfl rfl
  | 4, h => cases Option.some.inj h; exact MLit.pure (s := 4) (v := .agg [.int .i64 1, .int .i64 1].toArray) (Ju (n := 2) rfl) rfl rfl rfl (Jt (r := [_, _]) rfl rfl)
  | 5, h => cases Option.some.inj h; exact MLit.pure (s := 5) (v := .agg [.int .i64 0, .int .i64 5].toArray) (Ju (n := 3) rfl) rfl rfl rfl (Jt (r := [_, _]) rfl rfl)
  | 6, h => cases Option.some.inj h; exact MLit.ins (j1 := 4) (j2 := 5) (k := .agg [.int .i64 1, .int .i64 1].toArray) (v := .agg [.int .i64 0, .int .i64 5].toArray) (Ju (n := 1) rfl) (Ju (n := 2) rfl) (Ju (n := 3) rfl) rfl rfl rfl
  | 7, h => cases Option.some.inj h; exact MLit.pure (s := 6) (v := .agg [.int .i64 1, .int .i64 2].toArray) (Ju (n := 4) rfl) rfl rfl rfl (Jt (r := [_, _]) rfl rfl)
  | 8, h => cases Option.some.inj h; exact MLit.pure (s := 7) (v := .agg [.int .i64 0, .int .i64 5].toArray) (Ju (n := 5) rfl) rfl rfl rfl (Jt (r := [_, _]) rfl rfl)
  | 9, h => cases Option.some.inj h; exact MLit.ins (j1 := 7) (j2 := 8) (k := .agg [.int .i64 1, .int .i64 2].toArray) (v := .agg [.int .i64 0, .int .i64 5].toArray) (Ju (n := 2) rfl) (Ju (n := 4) rfl) (Ju (n := 5) rfl) rfl rfl rfl
  | 10, h => cases Option.some.inj h; exact MLit.pure (s := 8) (v := .agg [.int .i64 1, .int .i64 126].toArray) (Ju (n := 6) rfl) rfl rfl rfl (Jt (r := [_, _]) rfl rfl)
  | 11, h => cases Option.some.inj h; exact MLit.pure (s := 9) (v := .agg [.int .i64 0, .int .i64 5].toArray) (Ju (n := 7) rfl) rfl rfl rfl (Jt (r := [_, _]) rfl rfl)
  | 12, h => cases Option.some.inj h; exact MLit.ins (j1 := 10) (j2 := 11) (k := .agg [.int .i64 1, .int .i64 126].toArray) (v := .agg [.int .i64 0, .int .i64 5].toArray) (Ju (n := 3) rfl) (Ju (n := 6) rfl) (Ju (n := 7) rfl) rfl rfl rfl
  | 13, h => cases Option.some.inj h; exact MLit.pure (s := 10) (v := .agg [.int .i64 1, .int .i64 4].toArray) (Ju (n := 8) rfl) rfl rfl rfl (Jt (r := [_, _]) rfl rfl)
  | 14, h => cases Option.some.inj h; exact MLit.pure (s := 11) (v := .agg [.int .i64 5, .int .i64 5].toArray) (Ju (n := 9) rfl) rfl rfl rfl (Jt (r := [_, _]) rfl rfl)
  | 15, h => cases Option.some.inj h; exact MLit.ins (j1 := 13) (j2 := 14) (k := .agg [.int .i64 1, .int .i64 4].toArray) (v := .agg [.int .i64 5, .int .i64 5].toArray) (Ju (n := 4) rfl) (Ju (n := 8) rfl) (Ju (n := 9) rfl) rfl rfl rfl
  | 16, h => cases Option.some.inj h; exact MLit.pure (s := 12) (v := .agg [.int .i64 2, .int .i64 0].toArray) (Ju (n := 10) rfl) rfl rfl rfl (Jt (r := [_, _]) rfl rfl)
  | 17, h => cases Option.some.inj h; exact MLit.pure (s := 13) (v := .agg [.int .i64 0, .int .i64 0].toArray) (Ju (n := 11) rfl) rfl rfl rfl (Jt (r := [_, _]) rfl rfl)
  | 18, h => cases Option.some.inj h; exact MLit.ins (j1 := 16) (j2 := 17) (k := .agg [.int .i64 2, .int .i64 0].toArray) (v := .agg [.int .i64 0, .int .i64 0].toArray) (Ju (n := 5) rfl) (Ju (n := 10) rfl) (Ju (n := 11) rfl) rfl rfl rfl
  | 19, h => cases Option.some.inj h; exact MLit.pure (s := 14) (v := .agg [.int .i64 2, .int .i64 1].toArray) (Ju (n := 12) rfl) rfl rfl rfl (Jt (r := [_, _]) rfl rfl)
  | 20, h => cases Option.some.inj h; exact MLit.pure (s := 15) (v := .agg [.int .i64 1, .int .i64 1].toArray) (Ju (n := 13) rfl) rfl rfl rfl (Jt (r := [_, _]) rfl rfl)
  | 21, h => cases Option.some.inj h; exact MLit.ins (j1 := 19) (j2 := 20) (k := .agg [.int .i64 2, .int .i64 1].toArray) (v := .agg [.int .i64 1, .int .i64 1].toArray) (Ju (n := 6) rfl) (Ju (n := 12) rfl) (Ju (n := 13) rfl) rfl rfl rfl
  | 22, h => cases Option.some.inj h; exact MLit.pure (s := 16) (v := .agg [.int .i64 2, .int .i64 2].toArray) (Ju (n := 14) rfl) rfl rfl rfl (Jt (r := [_, _]) rfl rfl)
  | 23, h => cases Option.some.inj h; exact MLit.pure (s := 17) (v := .agg [.int .i64 2, .int .i64 5].toArray) (Ju (n := 15) rfl) rfl rfl rfl (Jt (r := [_, _]) rfl rfl)
  | 24, h => cases Option.some.inj h; exact MLit.ins (j1 := 22) (j2 := 23) (k := .agg [.int .i64 2, .int .i64 2].toArray) (v := .agg [.int .i64 2, .int .i64 5].toArray) (Ju (n := 7) rfl) (Ju (n := 14) rfl) (Ju (n := 15) rfl) rfl rfl rfl
  | 25, h => cases Option.some.inj h; exact MLit.pure (s := 18) (v := .agg [.int .i64 3, .int .i64 0].toArray) (Ju (n := 16) rfl) rfl rfl rfl (Jt (r := [_, _]) rfl rfl)
  | 26, h => cases Option.some.inj h; exact MLit.pure (s := 19) (v := .agg [.int .i64 0, .int .i64 5].toArray) (Ju (n := 17) rfl) rfl rfl rfl (Jt (r := [_, _]) rfl rfl)
  | 27, h => cases Option.some.inj h; exact MLit.ins (j1 := 25) (j2 := 26) (k := .agg [.int .i64 3, .int .i64 0].toArray) (v := .agg [.int .i64 0, .int .i64 5].toArray) (Ju (n := 8) rfl) (Ju (n := 16) rfl) (Ju (n := 17) rfl) rfl rfl rfl
  | 28, h => cases Option.some.inj h; exact MLit.pure (s := 20) (v := .agg [.int .i64 3, .int .i64 1].toArray) (Ju (n := 18) rfl) rfl rfl rfl (Jt (r := [_, _]) rfl rfl)
  | 29, h => cases Option.some.inj h; exact MLit.pure (s := 21) (v := .agg [.int .i64 3, .int .i64 5].toArray) (Ju (n := 19) rfl) rfl rfl rfl (Jt (r := [_, _]) rfl rfl)
  | 30, h => cases Option.some.inj h; exact MLit.ins (j1 := 28) (j2 := 29) (k := .agg [.int .i64 3, .int .i64 1].toArray) (v := .agg [.int .i64 3, .int .i64 5].toArray) (Ju (n := 9) rfl) (Ju (n := 18) rfl) (Ju (n := 19) rfl) rfl rfl rfl
  | 31, h => cases Option.some.inj h; exact MLit.pure (s := 22) (v := .agg [.int .i64 4, .int .i64 0].toArray) (Ju (n := 20) rfl) rfl rfl rfl (Jt (r := [_, _]) rfl rfl)
  | 32, h => cases Option.some.inj h; exact MLit.pure (s := 23) (v := .agg [.int .i64 0, .int .i64 5].toArray) (Ju (n := 21) rfl) rfl rfl rfl (Jt (r := [_, _]) rfl rfl)
  | 33, h => cases Option.some.inj h; exact MLit.ins (j1 := 31) (j2 := 32) (k := .agg [.int .i64 4, .int .i64 0].toArray) (v := .agg [.int .i64 0, .int .i64 5].toArray) (Ju (n := 10) rfl) (Ju (n := 20) rfl) (Ju (n := 21) rfl) rfl rfl rfl
  | 34, h => cases Option.some.inj h; exact MLit.pure (s := 24) (v := .agg [.int .i64 4, .int .i64 2].toArray) (Ju (n := 22) rfl) rfl rfl rfl (Jt (r := [_, _]) rfl rfl)
  | 35, h => cases Option.some.inj h; exact MLit.pure (s := 25) (v := .agg [.int .i64 4, .int .i64 5].toArray) (Ju (n := 23) rfl) rfl rfl rfl (Jt (r := [_, _]) rfl rfl)
  | 36, h => cases Option.some.inj h; exact MLit.ins (j1 := 34) (j2 := 35) (k := .agg [.int .i64 4, .int .i64 2].toArray) (v := .agg [.int .i64 4, .int .i64 5].toArray) (Ju (n := 11) rfl) (Ju (n := 22) rfl) (Ju (n := 23) rfl) rfl rfl rfl
  | 37, h => cases Option.some.inj h; exact MLit.pure (s := 26) (v := .agg [.int .i64 5, .int .i64 0].toArray) (Ju (n := 24) rfl) rfl rfl rfl (Jt (r := [_, _]) rfl rfl)
  | 38, h => cases Option.some.inj h; exact MLit.pure (s := 27) (v := .agg [.int .i64 0, .int .i64 4].toArray) (Ju (n := 25) rfl) rfl rfl rfl (Jt (r := [_, _]) rfl rfl)
  | 39, h => cases Option.some.inj h; exact MLit.ins (j1 := 37) (j2 := 38) (k := .agg [.int .i64 5, .int .i64 0].toArray) (v := .agg [.int .i64 0, .int .i64 4].toArray) (Ju (n := 12) rfl) (Ju (n := 24) rfl) (Ju (n := 25) rfl) rfl rfl rfl
  | 40, h => cases Option.some.inj h; exact MLit.pure (s := 28) (v := .agg [.int .i64 5, .int .i64 1].toArray) (Ju (n := 26) rfl) rfl rfl rfl (Jt (r := [_, _]) rfl rfl)
  | 41, h => cases Option.some.inj h; exact MLit.pure (s := 29) (v := .agg [.int .i64 5, .int .i64 5].toArray) (Ju (n := 27) rfl) rfl rfl rfl (Jt (r := [_, _]) rfl rfl)
  | 42, h => cases Option.some.inj h; exact MLit.ins (j1 := 40) (j2 := 41) (k := .agg [.int .i64 5, .int .i64 1].toArray) (v := .agg [.int .i64 5, .int .i64 5].toArray) (Ju (n := 13) rfl) (Ju (n := 26) rfl) (Ju (n := 27) rfl) rfl rfl rfl
  | 43, h => cases Option.some.inj h; exact MLit.mv (s := 30) (x := 1) (Ju (n := 0) rfl) rfl rfl (Or.inl rfl) rfl (Or.inl rfl)
  | 44, h => cases Option.some.inj h; exact MLit.mv (s := 0) (x := 30) (Ju (n := 1) rfl) rfl rfl (Or.inr rfl) rfl (Or.inr ⟨43, Ju (n := 0) rfl, rfl⟩)
  | n + 45, h => simp at h
 intro mr mes hmes hborn; refine ZT 2 rfl ?_; refine pT rfl rfl rfl fun w1 hs1 => ?_; exact ⟨⟨(mr, mes), hmes, hborn⟩, rfl, hs1⟩
def okI (k v : Int) : Bool := (qZ k v).2.2
def loI (k v : Int) : Int := if okI k v then (qZ k v).1 else 0
def hiI (k v : Int) : Int := if okI k v then (qZ k v).2.1 else 0
theorem Jbd {x y z : Value} (h1 : Wj x y = true) (h2 : Wj x z = true) : Wj y z = true := by
 unfold Wj at *
 simp only [decide_eq_true_eq] at *; rw [← h1, h2]
theorem table_dist : tableKV.Pairwise fun p q => Wj p.1 q.1 = false := by decide
theorem Jgm : ∀ p ∈ tableKV, Jbc p.1 := by
 unfold tableKV
 simp only [List.forall_mem_cons]; exact ⟨⟨_, _, rfl⟩, ⟨_, _, rfl⟩, ⟨_, _, rfl⟩, ⟨_, _, rfl⟩, ⟨_, _, rfl⟩, ⟨_, _, rfl⟩, ⟨_, _, rfl⟩, ⟨_, _, rfl⟩, ⟨_, _, rfl⟩, ⟨_, _, rfl⟩, ⟨_, _, rfl⟩, ⟨_, _, rfl⟩, ⟨_, _, rfl⟩, ⟨_, _, rfl⟩, by simp⟩
theorem Jgn (k v : Int) : Kz Wj (KI k v) tableKV = if okI k v then some (KI (loI k v) (hiI k v)) else none := by
 simp only [tableKV, Kz, zO, loI, hiI, okI, qZ]
 by_cases h1 : k = 1
 ·subst h1; by_cases a0 : v = 0 <;> by_cases a1 : v = 1 <;> by_cases a2 : v = 2 <;> by_cases a3 : v = 126 <;> by_cases a4 : v = 4 <;> simp_all
 ·by_cases h2 : k = 2
  ·subst h2; by_cases a0 : v = 0 <;> by_cases a1 : v = 1 <;> by_cases a2 : v = 2 <;> simp_all
  ·by_cases h3 : k = 3
   ·subst h3; by_cases a0 : v = 0 <;> by_cases a1 : v = 1 <;> simp_all <;> rfl
   ·by_cases h4 : k = 4
    ·subst h4; by_cases a0 : v = 0 <;> by_cases a1 : v = 2 <;> simp_all <;> rfl
    ·by_cases h5 : k = 5
     ·subst h5; by_cases a0 : v = 0 <;> by_cases a1 : v = 1 <;> simp_all <;> rfl
     ·simp_all
theorem Jly {kv : List (Value × Value)} (hp : kv.Perm tableKV) (k v : Int) : Kz Wj (KI k v) kv = if okI k v then some (KI (loI k v) (hiI k v)) else none := by
 rw [← Jgn, Jb3 hp.symm]; refine table_dist.imp fun {p q} h ⟨h1, h2⟩ => ?_; rw [Jbd h1 h2] at h; cases h
theorem Jlz {kv : List (Value × Value)} (hp : kv.Perm tableKV) (k v : Int) :
  (if true = true then Value.tuple #[((Kz Wj (KI k v) kv).getD (KI 0 0)), .bool (Kz Wj (KI k v) kv).isSome] else (Kz Wj (KI k v) kv).getD (KI 0 0)) =
   .tuple #[.agg [.int .i64 (loI k v), .int .i64 (hiI k v)].toArray, .bool (okI k v)] := by
 rw [Jly hp, if_pos rfl]
 cases h : okI k v <;> simp [loI, hiI, KI, h]
theorem zP {mes : Array MapEntry} (hp : (mes.toList.map Ve).Perm tableKV) : ∀ e ∈ mes.toList, Jbc e.key := fun e he =>
 Jgm (Ve e) (hp.subset (List.mem_map_of_mem he))
theorem yO (f k v : Int) : Pure Tryz.prog 105 [.int .i64 f, .int .i64 k, .int .i64 v].toArray (.bool (okI k v && decide (f ≥ loI k v) && decide (f ≤ hiI k v))) := by
 refine Jl Tryz.func105 rfl rfl fun w => ?_; refine JD ?_; refine Jq 7 rfl ?_; refine JZ rfl rfl rfl (enters_of Tryz.func172 (by kernel_rfl) rfl) ZG fun x1 => ?_
 obtain ⟨⟨mr, mes⟩, hmes, hborn⟩ := x1
 change HL _ _ _ [(mr, .map mes mes.size)] _ _ _ _; refine LS 2 [] rfl rfl ?_; refine LR rfl (Jt (r := [_, _]) rfl rfl) ?_; refine LR rfl (Xe Jrm rfl rfl (kn 0 rfl) rfl rfl ⟨_, _, rfl⟩ (zP hmes) (Jlz hmes k v)) ?_; refine LS 3 [] rfl rfl ?_; refine LN rfl fun r1 => ?_
 refine LT 0 rfl rfl ?_; refine JJ 7 rfl ?_
 refine J6 18 rfl (fun gb => ?_) (fun gb => ?_) <;> (try simp only [ZZ] at gb) <;> first | (refine Q1 rfl ?_) | (refine LK rfl ?_)
 all_goals first | refine LR rfl (JA rfl rfl rfl) ?_ | refine LK rfl ?_
 all_goals refine LW 4 [0] rfl rfl ?_
 all_goals first | refine LK rfl ?_ | (refine J6 24 rfl (fun gb => ?_) (fun gb => ?_) <;> (try simp only [ZZ] at gb) <;> first | (refine Q1 rfl ?_) | (refine LK rfl ?_))
 all_goals first | refine LR rfl (JA rfl rfl rfl) ?_ | refine LK rfl ?_
 all_goals (
  refine LW 4 [0] rfl rfl (Jx 1 rfl (ZT 2 rfl ?_)); refine pT rfl rfl rfl fun w1 hs1 => ?_; exact ⟨by (try simp_all [JG]); try omega, hs1.keep⟩
  skip)
def Jy3 (v : Value) : Int := (yj v).headD 0
def J0z (v : Value) : Int := ((yj v).drop 1).headD 0
theorem Jvz (a b : Int) : Jy3 (.agg [.int .i64 a, .int .i64 b].toArray) = a := rfl
theorem Jv0 (a b : Int) : J0z (.agg [.int .i64 a, .int .i64 b].toArray) = b := rfl
def Wk (k : Int) (l : List (Value × Value)) : List Int := (l.filter fun p => Jy3 p.1 == k).map fun p => J0z p.1
def yl (k : Int) (l : List MapEntry) : List Int := Wk k (l.map Ve)
theorem Jgo {k : Int} {l : List MapEntry} {e : MapEntry} {a b : Int} (h : e.key = .agg [.int .i64 a, .int .i64 b].toArray) : yl k (l ++ [e]) = yl k l ++ (if a = k then [b] else []) := by
 simp only [yl, Wk, List.map_append, List.filter_append, List.map_cons, List.map_nil, Ve, h, List.filter_cons, Jvz, List.filter_nil]
 by_cases hk : a = k <;> simp [hk, Jv0]
theorem ym (k : Int) (l : List (Value × Value)) : (Wk k l).length ≤ l.length := by
 unfold Wk; rw [List.length_map]; exact List.length_filter_le _ _
theorem vc {k : Int} {l l' : List (Value × Value)} (h : l.Perm l') : (Wk k l).Perm (Wk k l') := (h.filter _).map _
def nxV (ys : List Int) (v : List Value) (ys' : List Int) : Prop := ∃ x, v = [.int .i64 x] ∧ ys' = ys ++ [x] ∧ ys.length < 14
def fiV (k : Int) (ys : List Int) : Prop := ys.Perm (Wk k tableKV)
theorem Jgp (k : Int) (p : Nat) : jk Tryz.prog 171 [.pointer (some ⟨p, 0, none⟩)] [(p, .cells #[.int .i64 k] 3 (0, 0))] ([] : List Int) nxV (fiV k) := by
  refine Vf Tryz.func171 rfl rfl fun q xids w2 XI XF hY => ?_; refine JD ?_; refine Jq 2 rfl ?_; refine JZ rfl rfl rfl (enters_of Tryz.func172 (by kernel_rfl) rfl) ZG fun x1 => ?_
  obtain ⟨⟨mr, mes⟩, hmes, hborn⟩ := x1
  change HL _ _ _ [(mr, .map mes mes.size)] _ _ _ _
  have hnd : (mes.toList.map (·.born)).Nodup := by rw [show mes.toList.map (·.born) = List.range mes.size from hborn]; exact List.nodup_range
  have hlt : ∀ e ∈ mes.toList, e.born < mes.size := fun e he => List.mem_range.1 (by rw [← show mes.toList.map (·.born) = List.range mes.size from hborn]; exact List.mem_map_of_mem (f := (·.born)) he)
  have h14 : mes.toList.length = 14 := by have := List.Perm.length_eq (show (mes.toList.map Ve).Perm tableKV from hmes); rw [List.length_map] at this; exact this
  refine Jb4 (c := ⟨Tryz.prog, none, w2, [], xids, _, _⟩) rfl rfl rfl (kn 0 rfl) rfl fun qi => ?_; refine JI 3 rfl ?_; refine Jy (σ := List MapEntry × Array Nat) (fun s => (s.1 ++ KM mes.toList s.2).Perm mes.toList) (fun _ => [(0, .func (.yield q) #[] #[]), (1, .pointer (some ⟨p, 0, none⟩)), (5, .pointer (some ⟨qi, 0, none⟩))]) (fun s => [(qi, .mapIter (some mr) mes.size s.2 mes.size), (mr, .map mes mes.size)]) (fun s => XI (yl k s.1)) (fun s => (KM mes.toList s.2).length) ([], #[]) (by rw [Jki]; exact List.Perm.refl _) (lK rfl) (List.Sublist.refl _) (fun _ _ h => h) ?_; rintro ⟨done, seen⟩ hI; simp only at hI; refine Jq 2 rfl ?_; refine Jsw (k := 0) rfl rfl rfl rfl (kn 1 rfl) hlt (fun hleft => ?_) (fun e he L1 hL1 => ?_)
  all_goals try (simp only [List.set_cons_zero] at hL1; subst hL1)
  all_goals (
   refine LR rfl (JY rfl rfl) (Jx 1 rfl (XN 2 rfl ?_)); refine J0 rfl (fun g => ?_) (fun g => ?_)
   · try exact Bool.noConfusion g
     all_goals try simp only [ZZ] at g
     all_goals (
      refine Jq 5 rfl ?_
      obtain ⟨ka, kb, hab⟩ : Jbc e.key := zP hmes e (Jb6 he)
      refine LR rfl (Jsx rfl (kn 0 rfl) (kn 1 rfl) hnd (Jb6 he)) ?_; refine J3 (show _ = Value.tuple #[.agg [.int .i64 ka, .int .i64 kb].toArray, e.val] from by rw [hab]; rfl) ?_; refine LR rfl (JY rfl rfl) ?_; refine LN rfl fun r1 => ?_
      refine Qm (k := 0) (n := 2) (cs' := #[_, _]) (vs := #[_, _]) rfl rfl rfl rfl rfl rfl rfl (by exact Nat.le_of_ble_eq_true rfl) rfl (by first | (simp only [List.set_cons_zero, List.set_cons_succ]; exact rfl) | exact rfl) ?_; refine JJ 4 rfl ?_
      refine LR rfl (JQ rfl rfl (by first | (simp only [Nat.zero_add, Nat.reduceAdd, Nat.reduceMul, Nat.zero_mul, Nat.mul_one, Nat.add_zero]; exact rfl) | exact rfl)) ?_; refine LR rfl (Je rfl (kn 0 rfl) rfl rfl) ?_; refine LR rfl (Je rfl (J5 (k := 0) rfl) rfl rfl) ?_; refine JJ 2 rfl ?_
      refine J6 14 rfl (fun gb => ?_) (fun gb => ?_) <;> (try simp only [ZZ] at gb) <;> first | (refine Q1 rfl ?_) | (refine LK rfl ?_)
      all_goals first | (refine LR rfl (JQ rfl rfl (by first | (simp only [Nat.zero_add, Nat.reduceAdd, Nat.reduceMul, Nat.zero_mul, Nat.mul_one, Nat.add_zero]; exact rfl) | exact rfl)) ?_) | refine LK rfl ?_
      all_goals first | refine LR rfl (Je rfl (kn 0 rfl) rfl rfl) ?_ | refine LK rfl ?_
      all_goals first | (refine V2 (XT := XI (yl k done ++ [kb])) (XF := XF) rfl rfl rfl rfl (hY _ _ _ ⟨kb, rfl, rfl, by have h1 := (jX hnd he hI).2.2; have h2 := ym k (done.map Ve); rw [List.length_map] at h2; show (Wk k (done.map Ve)).length < 14; omega⟩) ?_ ?_) | (refine LK rfl ?_)
      all_goals first | refine VQ rfl ?_ | refine LK rfl ?_
      all_goals first | refine LR rfl (VO rfl rfl) ?_ | refine LR rfl (VP rfl rfl) ?_
      all_goals (
       refine Jx 1 rfl (XN 1 rfl ?_); refine J0 rfl (fun g => ?_) (fun g => ?_)
       · try exact Bool.noConfusion g
         all_goals try simp only [ZZ] at g
         all_goals (
          refine Kh 4 rfl ?_; refine Jg rfl rfl .nil (fun w1 hs1 => ?_)
          obtain ⟨xs1, hx1⟩ := hs1.now
          exact ⟨⟨_, rfl⟩, hs1.keep, .inr ⟨_, hx1⟩⟩
          skip)
       · try exact Bool.noConfusion g
         all_goals try simp only [ZZ] at g
         all_goals (
          refine Kh 2 rfl ?_; refine Jv ?_; exact Jo (done ++ [e], seen.push e.born) (jX hnd he hI).1 (jX hnd he hI).2.1 (lK rfl) (.cons _ (List.Sublist.refl _)) (fun _ w h => by simp only [Jgo hab]; simp_all)
          skip)
       skip)
      skip)
   · try exact Bool.noConfusion g
     all_goals try simp only [ZZ] at g
     all_goals (
      refine Kh 4 rfl ?_; refine Kv rfl rfl .nil (fun w1 hs1 => ?_)
      obtain ⟨xs1, hx1⟩ := hs1.now
      exact ⟨⟨_, rfl⟩, hs1.keep, .inl ⟨_, _, by rw [hleft, List.append_nil] at hI; exact (vc (hI.map Ve)).trans (vc hmes), hx1⟩⟩
      skip)
   skip)
theorem yq : Pure Tryz.prog 174 [.int .u64 0].toArray (.int .i64 0) := ⟨fun w => (Tryz.bits_Len 0 w (by decide) (by decide)).mono fun _ _ ⟨h1, h2⟩ => ⟨h1, h2 ▸ Keep.refl _ _⟩⟩
theorem J00 : Pure Tryz.prog 225 [.slice none 0 0, .int .i64 0, .int .i64 0].toArray (.tuple #[]) := by
 refine Jl Tryz.func225 rfl rfl fun w => ?_; refine JD ?_; refine Jq 4 rfl ?_; refine Jc (by omega) (by omega) ?_; refine JI 4 rfl ?_; refine Jy (σ := Unit) (fun _ => True) (fun _ => [(2, .int .i64 0), (6, .int .i64 1)]) (fun _ => []) (fun _ _ _ => True) (fun _ => 0) () trivial (lK rfl) (List.nil_sublist _) (fun _ _ h => h) ?_; rintro ⟨⟩ -; refine JK 8 rfl ?_; refine J0 rfl (fun h4 => ?_) (fun h4 => ?_)
 exact absurd h4 (by decide)
 ·try simp only [ZZ] at h4
  refine Kh 4 rfl ?_; refine Kv rfl rfl .nil (fun w1 hs1 => ?_); exact ⟨rfl, hs1.keep⟩
theorem J01 : Pure Tryz.prog 173 [.slice none 0 0, .int .i64 0, .int .i64 0, .int .i64 0].toArray (.tuple #[]) := by
 refine Jl Tryz.func173 rfl rfl fun w => ?_; refine JD ?_; refine JK 11 rfl ?_; refine Jy (σ := Unit) (fun _ => True) (fun _ => [(0, .slice none 0 0), (1, .int .i64 0), (2, .int .i64 0)]) (fun _ => []) (fun _ _ _ => True) (fun _ => 0) () trivial (lK rfl) (List.nil_sublist _) (fun _ _ h => h) ?_; rintro ⟨⟩ -; refine Jq 6 rfl ?_; refine Jc (by omega) (by omega) ?_; refine JI 10 rfl ?_; refine J0 rfl (fun h6 => ?_) (fun h6 => ?_)
 try simp only [ZZ] at h6
 refine Jq 5 rfl ?_; refine Jn rfl rfl rfl (enters_of Tryz.func225 (by kernel_rfl) rfl) J00 ?_; refine Jx 7 rfl ?_; refine Jg rfl rfl .nil (fun w1 hs1 => ?_); exact ⟨rfl, hs1.keep⟩
 ·exact absurd h6 (by decide)
theorem Jgq : Pure Tryz.prog 106 [.slice none 0 0].toArray (.tuple #[]) := by
 refine Jl Tryz.func106 rfl rfl fun w => ?_; refine JD ?_; refine Jq 3 rfl ?_; refine LR rfl (Ka rfl rfl) ?_; refine JJ 8 rfl ?_; refine VE (by omega) (by omega) ?_; refine Jn rfl rfl rfl (enters_of Tryz.func174 (by kernel_rfl) rfl) yq ?_; refine Jn rfl rfl rfl (enters_of Tryz.func173 (by kernel_rfl) rfl) J01 ?_; refine Jx 1 rfl ?_; refine Kv rfl rfl .nil (fun w1 hs1 => ?_); exact ⟨rfl, hs1.keep⟩
def Ym (xs : List Int) : List Int := xs.mergeSort fun x y => decide (x ≤ y)
theorem Jy4 {c : Cx} {L : Jm} {X : XP} {k blk cap : Nat} {xs : List Int} {sp : List Value} (hP : c.P = Tryz.prog) (hk : L[k]? = some (blk, .cells (xs.map (Value.int .i64) ++ sp).toArray 3 (0, 0))) (hlen : xs.length < 4611686018427387904) :
  ∀ w, St c L X w → Calls c.P 106 [.slice (some ⟨blk, 0, none⟩) xs.length cap].toArray w fun e w' => ∃ _ : Unit, e = .returned (.tuple #[]) ∧ St c (L.set k (blk, .cells ((Ym xs).map (Value.int .i64) ++ sp).toArray 3 (0, 0))) X w' := fun w hs => by
 rw [hP]
 have hb := hs.get hk
 refine (Tryz.slices_Sort_int blk 0 cap xs w (Jkj hb) (JB hb) hlen).mono ?_; rintro e w' ⟨rfl, n, os, hw⟩
 obtain ⟨h1, h2⟩ := Jfb (ys := Ym xs) (by unfold Ym; rw [List.length_mergeSort]) hw hb
 exact ⟨(), rfl, hs.set hk h1 h2⟩
theorem Jgr (k : Int) : PureE (α := Nat) Tryz.prog 104 [.int .i64 k].toArray (fun r => .func (.func 171) #[] #[.pointer (some ⟨r, 0, none⟩)]) (fun r => [(r, .cells #[.int .i64 k] 3 (0, 0))]) := by
 refine Kf Tryz.func104 rfl rfl fun w => ?_; refine JD ?_; refine Jq 2 rfl ?_; refine LN rfl fun r1 => ?_; refine JJ 5 rfl ?_; refine LR rfl (JN rfl rfl) ?_; refine Jx 4 rfl ?_; refine pT rfl rfl rfl fun w1 hs1 => ?_; exact ⟨_, rfl, hs1⟩
def okL (f k v : Int) : Bool := okI k v && decide (f ≥ loI k v) && decide (f ≤ hiI k v)
def W6 (f k : Int) : List Int := Ym ((Wk k tableKV).filter (okL f k))
section
variable {c : Cx} {l : Kw} {L : Jm} {X : XP} {Q : Exit → Act → World → Prop} {d : List Deferred}
variable {ops : Array Oper} {rest : List Oper} {i : Nat} {ps : String} {af : Array Edge} {gd : Option (Nat × Bool)} {ty : TypeId}
theorem Jgs {f x : Operand} {at_ : Array TypeId} {xs : List Int} {row : QD} {L0 : Jm} (hP : c.P = Tryz.prog) (hp : L.Perm (JH 3 (xs.map (Value.int .i64)) row ++ L0))
  (hg : Kj l ops ⟨some i, .call ⟨.value f, #[x], at_⟩, ty, ps, af, gd⟩ = some true) (hi : Nat.ble (i + 1) c.n = true) (hf : Kg l f = some (.func (.func 106) #[] #[])) (hx : Kg l x = some (J8 xs.length row)) (hok : rowOk 1 xs.length (xs.map (Value.int .i64)) row)
  (hlen : xs.length < 4611686018427387904)
  (h : HL c d ((i, .tuple #[]) :: l) (L0 ++ JH 3 ((Ym xs).map (Value.int .i64)) row) X ops rest Q) : HL c d l L X ops (⟨some i, .call ⟨.value f, #[x], at_⟩, ty, ps, af, gd⟩ :: rest) Q := by
 refine Kk hp ?_
 cases row with
 | none =>
  obtain ⟨h1, h2⟩ := hok
  have hxs : xs = [] := by simpa using h2
  subst hxs; refine Jn hg hi ?_ (hP ▸ enters_of Tryz.func106 (by kernel_rfl) rfl) (hP ▸ Jgq) ?_
  ·simp only [Kq, hf, evs, hx]; rfl
  ·simpa [Ym, JH] using h
 | some p =>
  obtain ⟨r, cap, sp⟩ := p
  refine WZ (α := Unit) (V := fun _ => .tuple #[]) (X' := fun _ => X) (vs := [.slice (some ⟨r, 0, none⟩) xs.length cap]) hg hi ?_ (hP ▸ enters_of Tryz.func106 (by kernel_rfl) rfl) (Jy4 (k := 0) (sp := sp) hP rfl hlen) fun _ => ?_
  ·simp only [Kq, hf, evs, hx]; rfl
  ·exact Kk (List.perm_append_comm (l₁ := [_])) h
end
theorem q6 (f k : Int) : PureE (α := { row : QD // rowOk 1 (W6 f k).length ((W6 f k).map (Value.int .i64)) row }) Tryz.prog 48 [.int .i64 f, .int .i64 k].toArray (fun r => J8 (W6 f k).length r.1) (fun r => JH 3 ((W6 f k).map (Value.int .i64)) r.1) := by
  refine Kf Tryz.func48 rfl rfl fun w => ?_; refine JD ?_; refine Jq 2 rfl ?_; refine LN rfl fun r1 => ?_; refine LN rfl fun r2 => ?_; refine JJ 5 rfl ?_; refine LN rfl fun r3 => ?_; refine JJ 5 rfl ?_; refine LR rfl (Je rfl (kn 1 rfl) rfl rfl) ?_; refine JZ rfl rfl rfl (enters_of Tryz.func104 (by kernel_rfl) rfl) (Jgr k) fun rc => ?_; change HL _ _ _ [(rc, .cells #[.int .i64 k] 3 (0, 0)), (r3, _), (r2, _), (r1, _)] _ _ _ _; refine JI 3 rfl ?_; refine QX [1, 0, 2, 3] (by decide) rfl ?_; refine Xd (τ := Unit) (fun ys (s : List Value × QD) => s.1 = (ys.filter (okL f k)).map (.int .i64) ∧ rowOk 1 s.1.length s.1 s.2 ∧ ys.length ≤ 14) (fun s => (r3, .cells #[J8 s.1.length s.2] 92 (0, 0)) :: JH 3 s.1 s.2) (fun _ _ => False) (fun _ => []) [(rc, _), (r2, _), (r1, _)] ([], none) rfl rfl (enters_of Tryz.func171 (by kernel_rfl) rfl) (Jgp k rc) (by rintro _ _ _ ⟨x, rfl, _⟩; rfl) rfl (by simp) rfl ⟨rfl, ⟨rfl, rfl⟩, by simp⟩ ?_ ?_ ?_
  · rintro q Xr Xb w3 ys _ _ ⟨xs, row⟩ ⟨x, rfl, rfl, hys⟩ ⟨hxs, hrow, -⟩ Kr hKr; refine inR ?_
    simp only at hxs hrow hKr ⊢
    have hn : xs.length ≤ 14 := by rw [hxs, List.length_map]; exact Nat.le_trans (List.length_filter_le _ _) (by omega)
    refine Kh 3 rfl ?_; refine hKr _ _ ?_; refine JD ?_; clear hKr; refine Jq 3 rfl ?_; refine LR rfl (Je rfl (J5 (k := 2) rfl) rfl rfl) ?_; refine LR rfl (Je rfl (J5 (k := 1) rfl) rfl rfl) ?_; refine Q1 rfl (Jn rfl rfl rfl (enters_of Tryz.func105 (by kernel_rfl) rfl) (yO ..) (JI 2 rfl ?_)); refine cD (fun g => ?_) fun g => ?_
    · refine Vw 3 [0] rfl rfl ?_; refine J4 (vs := [_]) (zs := [_]) (r := [_]) rfl rfl rfl rfl rfl rfl rfl rfl rfl (by show (madeCells #[_] _).toList = _; rw [QJ]; exact rfl) rfl fun r4 => ?_; refine JM (L0 := [_, _]) (xs := xs) (row := row) (n := xs.length) (sz := 1) (b := 8) (news := [_]) (List.perm_append_comm (l₁ := [_, _])) rfl rfl rfl rfl (kn 0 rfl) rfl rfl rfl rfl rfl (by decide) rfl rfl rfl (by decide) hrow (by omega) (by omega) fun ra cap sp hra => ?_
      refine LT 2 rfl rfl ?_; refine Jx 2 rfl ?_
      by_cases hlx : okL f k x = true
      · first
        | (refine Qi [2, 0] (L' := [_, _]) (by decide) rfl ?_
           refine KD (xs ++ [.int .i64 x], some (ra, cap, sp)) ⟨?_, ?_, ?_⟩ ?_
           simp [hxs, List.filter_append, hlx]
           simpa using hra
           simp; omega
           simp [J8, JH])
        | (exfalso; unfold okL at hlx; simp_all; done)
      · first
        | (refine KD (xs, row) ⟨?_, hrow, ?_⟩ rfl
           simp [hxs, List.filter_append, hlx]
           simp; omega)
        | (exfalso; unfold okL at hlx; simp_all; done)
    · refine Kh 2 rfl ?_
      by_cases hlx : okL f k x = true
      · first
        | (refine Qi [2, 0] (L' := [_, _]) (by decide) rfl ?_
           refine KD (xs ++ [.int .i64 x], some (ra, cap, sp)) ⟨?_, ?_, ?_⟩ ?_
           simp [hxs, List.filter_append, hlx]
           simpa using hra
           simp; omega
           simp [J8, JH])
        | (exfalso; unfold okL at hlx; simp_all; done)
      · first
        | (refine KD (xs, row) ⟨?_, hrow, ?_⟩ rfl
           simp [hxs, List.filter_append, hlx]
           simp; omega)
        | (exfalso; unfold okL at hlx; simp_all; done)
  rintro D ys ⟨xs, row⟩ hfi ⟨hxs, hrow, hlen⟩
  simp only at hxs hrow ⊢; subst hxs; rw [List.length_map] at hrow ⊢
  have hn : (ys.filter (okL f k)).length ≤ 14 := Nat.le_trans (List.length_filter_le _ _) hlen
  have hv : W6 f k = Ym (ys.filter (okL f k)) := (jn (hfi.filter _)).symm
  refine gqo 4 rfl ?_; refine LR rfl (Je rfl (kn 1 rfl) rfl rfl) ?_; refine Jgs (L0 := (D, _) :: (r3, _) :: [_, _, _]) rfl ((List.perm_append_comm_assoc [_, _] _ _)) rfl rfl rfl rfl hrow (by omega) ?_; refine Goq 9 [1] rfl rfl ?_; refine KX (k := 0) rfl rfl ?_; refine pT rfl rfl rfl fun w1 hs1 => ?_
  generalize W6 f k = vl at hv ⊢
  subst hv
  have hle : (Ym (ys.filter (okL f k))).length = (ys.filter (okL f k)).length := by unfold Ym; rw [List.length_mergeSort]
  exact ⟨⟨row, by rw [hle]; exact hrow.same (by simp [hle])⟩, by simp [JG, hle], hs1.weakL (List.sublist_append_right [_, _, _, _, _] _)⟩
  · exact fun _ _ _ h => h.elim
def okR (f k v : Int) : Bool := (qZ k v).2.2 && decide ((qZ k v).1 ≤ f) && decide (f ≤ (qZ k v).2.1)
def Jrn (l : List Int) : Value := if l = [] then .tuple #[.int .i64 0, .int .i64 10] else .tuple #[.int .i64 (l.getD (l.length - 1) 0), .int .i64 0]
theorem Jl1 {l : List Int} (h : ¬ ((l.length : Nat) : Int) = 0) : (l.map (Value.int .i64))[l.length - 1]? = some (.int .i64 (l.getD (l.length - 1) 0)) := by
 have : l.length - 1 < l.length := by omega
 simp [this, List.getD_eq_getElem?_getD]
theorem Jl2 (f k : Int) : (W6 f k).length ≤ 14 := by
 unfold W6 Ym
 rw [List.length_mergeSort]; exact Nat.le_trans (List.length_filter_le _ _) (ym k tableKV)
theorem yr (f k : Int) : Pure Tryz.prog 21 [.int .i64 f, .int .i64 k].toArray (Jrn (W6 f k)) := by
  refine Jl Tryz.func21 rfl rfl fun w => ?_; refine JD ?_
  have hlen := Jl2 f k
  refine Jq 10 rfl ?_; refine JZ rfl rfl rfl (enters_of Tryz.func48 (by kernel_rfl) rfl) (q6 f k) fun x1 => ?_
  rcases x1 with ⟨_ | ⟨ra, cap, sp⟩, hrow⟩
  all_goals first | change HL _ _ ((_, .slice none 0 0) :: _) [] _ _ _ _ | change HL _ _ ((_, .slice (some ⟨ra, 0, none⟩) (W6 f k).length cap) :: _) [(ra, .cells ((W6 f k).map (Value.int .i64) ++ sp).toArray 3 (0, 0))] _ _ _ _
  all_goals (
   refine Jx 2 rfl (gqo 5 rfl ?_); refine LR rfl (Ka rfl rfl) ?_; refine JI 3 rfl ?_; refine J0 rfl (fun g => ?_) (fun g => ?_)
   · try simp only [ZZ] at g
     refine Kh 8 rfl ?_; refine Jg rfl rfl (.cons (Jj rfl) (.cons (Jj rfl) .nil)) (fun w1 hs1 => ?_); refine ⟨?_, hs1.keep⟩
     (have h0 : W6 f k = [] := by first | exact List.eq_nil_of_length_eq_zero hrow.1 | exact List.eq_nil_of_length_eq_zero (by omega)
      simp [JG, Jrn, h0]; done)
   · try exact Bool.noConfusion g
     all_goals try simp only [ZZ] at g
     all_goals (
      refine Jq 6 rfl ?_; refine LR rfl (Ka rfl rfl) ?_; refine VQ rfl (Jc (by omega) (by omega) (LR rfl (JF (j := (W6 f k).length - 1) (m := 1) (off' := (W6 f k).length - 1) rfl rfl rfl rfl (by omega) (by omega) (by omega)) ?_)); refine LR rfl (Je rfl (kn 0 rfl) rfl (jm (Jl1 (by assumption)))) ?_; refine Jx 5 rfl ?_; refine Jg rfl rfl (.cons (Jj rfl) (.cons (Jj rfl) .nil)) (fun w1 hs1 => ?_); refine ⟨?_, hs1.keep⟩
      (have h0 : W6 f k ≠ [] := fun h => by simp_all
       simp [JG, Jrn, h0])
      skip)
   skip)
def vd (k : Int) : List Int := if k = 1 then [0, 1, 2, 4, 126] else if k = 2 then [0, 1, 2] else if k = 3 then [0, 1] else if k = 4 then [0, 2] else if k = 5 then [0, 1] else []
def vl (f k : Int) : List Int := (vd k).filter (okR f k)
theorem Jgt (f k v : Int) : okL f k v = okR f k v := by
 unfold okL okR loI hiI okI
 cases h : (qZ k v).2.2 <;> simp
theorem Jl3 (k : Int) : (Wk k tableKV).Perm (vd k) := by
 by_cases h1 : k = 1
 ·subst h1; decide
 by_cases h2 : k = 2
 ·subst h2; decide
 by_cases h3 : k = 3
 ·subst h3; decide
 by_cases h4 : k = 4
 ·subst h4; decide
 by_cases h5 : k = 5
 ·subst h5; decide
 have e1 : vd k = [] := by simp [vd, h1, h2, h3, h4, h5]
 have e2 : Wk k tableKV = [] := by
  have a1 : (1 == k) = false := by simpa using Ne.symm h1
  have a2 : (2 == k) = false := by simpa using Ne.symm h2
  have a3 : (3 == k) = false := by simpa using Ne.symm h3
  have a4 : (4 == k) = false := by simpa using Ne.symm h4
  have a5 : (5 == k) = false := by simpa using Ne.symm h5
  have hp : ∀ a b, Jy3 (KI a b) = a := fun _ _ => rfl
  simp [Wk, tableKV, hp, Ne.symm h1, Ne.symm h2, Ne.symm h3, Ne.symm h4, Ne.symm h5]
 rw [e1, e2]
theorem Jer (k : Int) : (vd k).Pairwise (fun x y => x < y) := by
 unfold vd
 split
 ·decide
 split
 ·decide
 split
 ·decide
 split
 ·decide
 split
 ·decide
 exact List.Pairwise.nil
theorem Jro (f k : Int) : W6 f k = vl f k := by
 have h1 : (fun v => okL f k v) = okR f k := funext (Jgt f k)
 unfold W6 vl
 rw [show okL f k = okR f k from h1]; rw [show Ym ((Wk k tableKV).filter (okR f k)) = Ym ((vd k).filter (okR f k)) from jn ((Jl3 k).filter _)]
 unfold Ym
 exact List.mergeSort_of_pairwise (((Jer k).filter _).imp fun h => by simpa using Int.le_of_lt h)
def Jjw (l : List Int) : Int := l.getD (l.length - 1) 0
def Jrp (l : List Int) : Int := if l = [] then 10 else 0
def Jy5 (l : List Int) : Value := .tuple #[.int .i64 (Jjw l), .int .i64 (Jrp l)]
theorem Jv1 (l : List Int) : Jrn l = Jy5 l := by
 unfold Jrn Jy5 Jjw Jrp
 by_cases h : l = [] <;> simp [h]
theorem J02 (f k : Int) : Pure Tryz.prog 21 [.int .i64 f, .int .i64 k].toArray (Jy5 (vl f k)) := by
 have := yr f k
 rwa [Jro, Jv1] at this
theorem Jy6 {f k v : Int} (h : okI k v = true) : okR f k v = (decide (loI k v ≤ f) && decide (f ≤ hiI k v)) := by
 rw [← Jgt]; unfold okL; rw [h]; simp
theorem Jy7 {f k v : Int} (h : okI k v = false) : okR f k v = false := by
 rw [← Jgt]; unfold okL; rw [h]; simp
theorem Jbe {f k v : Int} : okR f k v = true ↔ okI k v = true ∧ loI k v ≤ f ∧ f ≤ hiI k v := by
 cases h : okI k v with
 | true => rw [Jy6 h]; simp
 | false => rw [Jy7 h]; simp
theorem grow {a b c k v : Int} (h1 : a ≤ b) (h2 : b ≤ c) (ha : okR a k v = true) (hc : okR c k v = true) : okR b k v = true := by
 obtain ⟨a1, a2, a3⟩ := Jbe.1 ha
 obtain ⟨c1, c2, c3⟩ := Jbe.1 hc
 exact Jbe.2 ⟨a1, by omega, by omega⟩
def sV (s : List UInt8) : Value := .string (bs s)
def pV (p : List (List UInt8)) : Value := .agg (p.map sV).toArray
theorem Jes {p : List (List UInt8)} {j : Nat} (h : j < p.length) : (p.map sV)[j]? = some (.string (bs (p.getD j []))) := by
 simp [h, sV, List.getD_eq_getElem?_getD]
def Jet (p : List (List UInt8)) : Bool := p.all fun x => decide (x.length = 32)
def zQ (v : Int) : List UInt8 := Yq [v.toNat, 0, 0, 0] 32
def Jeu (v : Int) (n : Nat) : List UInt8 := if v = 1 then jt n 8 else []
def W7 (v : Int) (p : List (List UInt8)) (n : Nat) : List UInt8 × Int :=
 if v ≠ 0 ∧ v ≠ 1 then ([], 9) else if Jet p = false ∨ (v = 0 ∧ n ≠ 0) then ([], 2) else (zQ v ++ p.flatten ++ Jeu v n, 0)
theorem Jy8 {v : Int} {p : List (List UInt8)} {n : Nat} (h0 : ¬ v = 0) (h1 : ¬ v = 1) : W7 v p n = ([], 9) := by unfold W7; rw [if_pos ⟨h0, h1⟩]
theorem Jv2 {v : Int} {p : List (List UInt8)} {n i : Nat} (h : v = 0 ∨ v = 1) (hi : i < p.length) (hl : ¬ (p.getD i []).length = 32) : W7 v p n = ([], 2) := by
 have ha : Jet p = false := by
  rw [Bool.eq_false_iff]; intro h2
  have := List.all_eq_true.1 h2 (p.getD i []) (by simp [List.getD_eq_getElem?_getD, hi])
  exact hl (of_decide_eq_true this)
 unfold W7; rw [if_neg (by omega), if_pos (.inl ha)]
theorem Jv3 {v : Int} {p : List (List UInt8)} {n : Nat} (h : v = 0) (hn : ¬ n = 0) : W7 v p n = ([], 2) := by
 unfold W7; rw [if_neg (by omega), if_pos (.inr ⟨h, hn⟩)]
theorem Jrq {p : List (List UInt8)} (h : ∀ j, j < p.length → (p.getD j []).length = 32) : Jet p = true := by
 refine List.all_eq_true.2 fun x hx => ?_
 obtain ⟨j, hj, rfl⟩ := List.getElem_of_mem hx
 have := h j hj
 rw [List.getD_eq_getElem?_getD, List.getElem?_eq_getElem hj] at this; exact decide_eq_true this
theorem Jjx {v : Int} {p : List (List UInt8)} {n : Nat} (h : v = 0 ∨ v = 1) (ha : ∀ j, j < p.length → (p.getD j []).length = 32) (hn : v = 0 → n = 0) : W7 v p n = (zQ v ++ p.flatten ++ Jeu v n, 0) := by
 unfold W7; rw [if_neg (by omega), if_neg (by rw [Jrq ha]; rintro (h2 | ⟨h2, h3⟩); cases h2; exact h3 (hn h2))]
theorem Zy {p : List (List UInt8)} : ∀ i, i ≤ p.length → (∀ j, j < i → (p.getD j []).length = 32) → (p.take i).flatten.length = 32 * i
 | 0, _, _ => by simp
 | i + 1, hi, h => by
  rw [List.take_succ, List.getElem?_eq_getElem (by omega), List.flatten_append, List.length_append, Zy i (by omega) fun j hj => h j (by omega)]
  have := h i (by omega)
  rw [List.getD_eq_getElem?_getD, List.getElem?_eq_getElem (by omega)] at this; simp at this ⊢; omega
theorem Jl4 {p : List (List UInt8)} {i : Nat} (hi : i < p.length) : (p.take (i + 1)).flatten = (p.take i).flatten ++ p.getD i [] := by
 rw [List.take_succ, List.getElem?_eq_getElem hi, List.flatten_append, List.getD_eq_getElem?_getD, List.getElem?_eq_getElem hi]; simp
theorem J2c {n : Nat} (hn : n < 18446744073709551616) : yI n 8 = (jt n 8, 0) := by
 unfold yI; rw [if_neg (by have := Juj hn; omega)]; rfl
theorem zR (v : Int) : (zQ v).length = 32 := Vq _ _
theorem Jl5 {p : List (List UInt8)} (hp : p.length = 3) {n : Nat} (hn : n < 18446744073709551616) (v : Int) : Pure Tryz.prog 49 [.int .i64 v, pV p, uV n].toArray (ZB (W7 v p n)) := by
  refine Jl Tryz.func49 rfl rfl fun w => ?_; refine JD ?_
  have hhl := zR v
  refine Jq 2 rfl ?_; refine JR (cs := (p.map sV).toArray) rfl rfl rfl rfl fun r1 => ?_; refine JJ 10 rfl ?_
  refine J6 14 rfl (fun gb => ?_) (fun gb => ?_) <;> (try simp only [ZZ] at gb) <;> first | (refine Q1 rfl ?_) | (refine LK rfl ?_)
  all_goals (
   refine LW 2 [] rfl rfl (Jx 1 rfl (XN 1 rfl ?_)); refine J0 rfl (fun g => ?_) (fun g => ?_)
   · try exact Bool.noConfusion g
     all_goals try simp only [ZZ] at g
     all_goals (
      refine Kh 8 rfl ?_; refine Jg rfl rfl (.cons (Jj rfl) (.cons (Jj rfl) .nil)) (fun w1 hs1 => ?_); refine ⟨?_, hs1.keep⟩; rw [Jy8 (by omega) (by omega)]; rfl
      skip)
   · try simp only [ZZ] at g
     refine JK 3 rfl ?_
     have hv01 : v = 0 ∨ v = 1 := by omega
     refine Jq 3 rfl ?_; refine J3 (show _ = uV v.toNat from congrArg (Value.int .u64) (by rw [wrap_u64 (by omega) (by omega)]; omega)) ?_; refine Jn rfl rfl rfl qR (VK v.toNat) ?_; refine Jn rfl rfl rfl Jdf (QU (l := [v.toNat, 0, 0, 0]) (Jx7 (by omega))) ?_; refine J3 (show _ = Value.string (bs (zQ v ++ (p.take 0).flatten)) from by simp [zQ]) ?_; refine JI 10 rfl ?_; refine Jy (σ := Nat) (fun i => i ≤ p.length ∧ ∀ j, j < i → (p.getD j []).length = 32) (fun i => [(0, .int .i64 v), (2, uV n), (4, .pointer (some ⟨r1, 0, none⟩)), (8, .string (bs (zQ v ++ (p.take i).flatten))), (22, .int .i64 (i : Int))]) (fun i => [(r1, .cells (p.map sV).toArray 56 (0, 0))]) (fun _ _ _ => True) (fun i => 3 - i) 0 ⟨Nat.zero_le _, fun j hj => by omega⟩ (lK rfl) (List.Sublist.refl _) (fun _ _ h => h) ?_; rintro i ⟨hi, hall⟩; refine JK 6 rfl ?_; refine cD (fun g => ?_) fun g => ?_
     refine JK 12 rfl ?_
     have hfl := Zy i (by omega) hall
     refine Jq 2 rfl ?_; refine LR rfl (JP (j := i) (m := 1) (off' := i) rfl rfl rfl rfl (by omega) (by omega) (by omega)) ?_; refine LR rfl (KH rfl (kn 0 rfl) rfl (Jes (by omega))) ?_; refine LR rfl (KK rfl rfl) ?_; refine JI 3 rfl ?_; refine cD (fun g => ?_) fun g => ?_
     refine Kh 13 rfl ?_; refine Jg rfl rfl (.cons (Jj rfl) (.cons (Jj rfl) .nil)) (fun w1 hs1 => ?_); refine ⟨?_, hs1.keep⟩; rw [Jv2 (i := i) hv01 (by omega) (by omega)]; rfl
     refine Jq 5 rfl ?_; refine LR rfl (JP (j := i) (m := 1) (off' := i) rfl rfl rfl rfl (by omega) (by omega) (by omega)) ?_; refine LR rfl (KH rfl (kn 0 rfl) rfl (Jes (by omega))) ?_; refine LR rfl (QK rfl rfl (by simp only [List.length_append]; omega)) ?_; refine JJ 6 rfl ?_; refine Jc (by omega) (by omega) ?_; refine Jx 2 rfl ?_; refine Jv ?_
     exact Jo (i + 1) ⟨by omega, fun j hj => by
       by_cases hji : j = i
       subst hji; omega
       exact hall j (by omega)⟩ (by omega) (.cons rfl (.cons rfl (.cons rfl (.cons (by rw [Jl4 (by omega), ← List.append_assoc]; rfl) (.cons rfl .nil))))) (List.Sublist.refl _) (fun _ _ h => h)
     · refine JK 7 rfl ?_
       have hi3 : i = p.length := by omega
       subst hi3
       have hfl := Zy p.length (Nat.le_refl _) hall
       rw [List.take_length] at hfl ⊢; rw [hp] at hfl; refine Jq 4 rfl ?_
       refine J6 38 rfl (fun gb => ?_) (fun gb => ?_) <;> (try simp only [ZZ] at gb) <;> first | (refine Q1 rfl ?_) | (refine LK rfl ?_)
       all_goals (
        refine LW 2 [] rfl rfl (Jx 1 rfl (XN 1 rfl ?_)); refine J0 rfl (fun g => ?_) (fun g => ?_)
        · try exact Bool.noConfusion g
          all_goals try simp only [ZZ] at g
          all_goals (
           refine Kh 8 rfl ?_; refine Jg rfl rfl (.cons (Jj rfl) (.cons (Jj rfl) .nil)) (fun w1 hs1 => ?_); refine ⟨?_, hs1.keep⟩; rw [Jv3 (by omega) (by omega)]; rfl
           skip)
        try simp only [ZZ] at g
        refine JK 9 rfl ?_; refine cD (fun g => ?_) fun g => ?_
        refine Jq 3 rfl ?_; refine Jn rfl rfl rfl Jty (jG hn 8) ?_; refine J3 (congrArg ZB (J2c hn)) ?_; refine JJ 10 rfl ?_; refine LR rfl (QK rfl rfl (by simp only [List.length_append, Vr]; omega)) ?_; refine Jx 11 rfl ?_; refine Jg rfl rfl (.cons (Jj rfl) (.cons (Jj rfl) .nil)) (fun w1 hs1 => ?_); refine ⟨?_, hs1.keep⟩
        rw [Jjx hv01 hall (by omega)]; simp only [Jeu]; first | (rw [if_pos (by omega)]; rfl) | (rw [if_neg (by omega), List.append_nil]; rfl)
        refine Kh 10 rfl ?_; refine Jg rfl rfl (.cons (Jj rfl) (.cons (Jj rfl) .nil)) (fun w1 hs1 => ?_); refine ⟨?_, hs1.keep⟩
        rw [Jjx hv01 hall (by omega)]; simp only [Jeu]; first | (rw [if_pos (by omega)]; rfl) | (rw [if_neg (by omega), List.append_nil]; rfl)
        skip)
   skip)
def Xx (v : Int) (p : List (List UInt8)) (n : Nat) : List UInt8 × Int := if (W7 v p n).2 = 0 then (W8 (W7 v p n).1, 0) else ([], (W7 v p n).2)
theorem Jrr {v : Int} {p : List (List UInt8)} (hp : p.length = 3) (n : Nat) : (W7 v p n).1.length ≤ 136 := by
 unfold W7
 split
 ·simp
 ·split
  ·simp
  ·rename_i h1 h2
   have ha : ∀ j, j < p.length → (p.getD j []).length = 32 := fun j hj => by
    have h3 : Jet p = true := by
     cases h : Jet p with
     | true => rfl
     | false => exact absurd (.inl h) h2
    exact of_decide_eq_true (List.all_eq_true.1 h3 (p.getD j []) (by simp [List.getD_eq_getElem?_getD, hj]))
   have hf := Zy p.length (Nat.le_refl _) ha
   rw [List.take_length] at hf; simp only [List.length_append, zR, hf, hp, Jeu]
   split <;> simp [Vr]
theorem Y6 {p : List (List UInt8)} (hp : p.length = 3) {n : Nat} (hn : n < 18446744073709551616) (v : Int) : Pure Tryz.prog 22 [.int .i64 v, pV p, uV n].toArray (ZB (Xx v p n)) := by
 refine Jl Tryz.func22 rfl rfl fun w => ?_; refine JD ?_
 have hpl := Jrr (v := v) hp n
 refine Jq 2 rfl ?_; refine JR (cs := (p.map sV).toArray) rfl rfl rfl rfl fun r1 => ?_; refine JJ 7 rfl ?_; refine LR rfl (Jd (xs := p.map sV) (n := 3) rfl (kn 0 rfl) rfl rfl (by rw [List.length_map, hp])) ?_; refine Q1 rfl (Jn rfl rfl rfl (enters_of Tryz.func49 (by kernel_rfl) rfl) (Jl5 hp hn v) (JI 14 rfl ?_)); refine cD (fun g => ?_) fun g => ?_
 refine Kh 9 rfl ?_; refine Jg rfl rfl (.cons (Jj rfl) (.cons (Jj rfl) .nil)) (fun w1 hs1 => ?_); refine ⟨?_, hs1.keep⟩; rw [show Xx v p n = ([], (W7 v p n).2) from by unfold Xx; rw [if_neg (by assumption)]]; rfl
 ·refine Jq 5 rfl ?_; refine Jn rfl rfl rfl Jf4 (wC (by omega)) ?_; refine Jx 5 rfl ?_; refine Jg rfl rfl (.cons (Jj rfl) (.cons (Jj rfl) .nil)) (fun w1 hs1 => ?_); refine ⟨?_, hs1.keep⟩; rw [show Xx v p n = (W8 (W7 v p n).1, 0) from by unfold Xx; rw [if_pos (by assumption)]]; rfl
def ZR : List Nat → Bool
 | x :: y :: l => decide (x ≤ y) && ZR (y :: l)
 | _ => true
theorem Jbf : ∀ {l : List Nat} {i x y : Nat}, l[i]? = some x → l[i + 1]? = some y → y < x → ZR l = false
 | [], i, x, y, h, _, _ => by simp at h
 | [a], i, x, y, _, h, _ => by simp at h
 | a :: b :: l, 0, x, y, h1, h2, h => by
  simp only [List.getElem?_cons_zero, List.getElem?_cons_succ, Nat.zero_add, Option.some.injEq] at h1 h2; subst h1 h2
  unfold ZR
  rw [decide_eq_false (by omega)]; rfl
 | a :: b :: l, i + 1, x, y, h1, h2, h => by
  rw [List.getElem?_cons_succ] at h1 h2
  unfold ZR
  rw [Jbf h1 h2 h, Bool.and_false]
theorem yt : ∀ {l : List Nat}, (∀ i x y, l[i]? = some x → l[i + 1]? = some y → x ≤ y) → ZR l = true
 | [], _ => rfl
 | [a], _ => rfl
 | a :: b :: l, h => by
  unfold ZR
  rw [decide_eq_true (h 0 a b rfl rfl), yt fun i x y h1 h2 => h (i + 1) x y (by rw [List.getElem?_cons_succ]; exact h1) (by rw [List.getElem?_cons_succ]; exact h2)]; rfl
theorem Jbg : ∀ {l : List Nat}, ZR l = true → ∀ {i j x y : Nat}, i ≤ j → l[i]? = some x → l[j]? = some y → x ≤ y
 | [], _, i, j, x, y, _, h, _ => by simp at h
 | [a], _, i, j, x, y, hij, h1, h2 => by
  cases i with
  | zero => cases j with
   | zero => rw [h1] at h2; cases h2; exact Nat.le_refl _
   | succ j => simp at h2
  | succ i => simp at h1
 | a :: b :: l, h, i, j, x, y, hij, h1, h2 => by
  unfold ZR at h
  obtain ⟨ha, hr⟩ := Bool.and_eq_true_iff.1 h
  have ha := of_decide_eq_true ha
  cases j with
  | zero =>
   obtain rfl : i = 0 := by omega
   rw [h1] at h2; cases h2; exact Nat.le_refl _
  | succ j =>
   rw [List.getElem?_cons_succ] at h2
   cases i with
   | zero =>
    simp only [List.getElem?_cons_zero, Option.some.injEq] at h1; subst h1; exact Nat.le_trans ha (Jbg hr (Nat.zero_le _) (i := 0) rfl h2)
   | succ i => rw [List.getElem?_cons_succ] at h1; exact Jbg hr (by omega) h1 h2
def Y7 (t : Nat) : List Nat → Nat
 | x :: l => if x ≤ t then Y7 t l + 1 else 0
 | [] => 0
theorem vL (t : Nat) : ∀ l : List Nat, Y7 t l ≤ l.length
 | [] => Nat.le_refl _
 | x :: l => by
  have := vL t l
  unfold Y7
  split <;> simp only [List.length_cons] <;> omega
theorem Jjy {t : Nat} : ∀ {l : List Nat} {i x : Nat}, i < Y7 t l → l[i]? = some x → x ≤ t
 | [], i, x, h, _ => by unfold Y7 at h; omega
 | a :: l, i, x, h, hx => by
  unfold Y7 at h
  split at h
  ·cases i with
   | zero => simp only [List.getElem?_cons_zero, Option.some.injEq] at hx; subst hx; assumption
   | succ i => rw [List.getElem?_cons_succ] at hx; exact Jjy (by omega) hx
  ·omega
theorem Jjz {t : Nat} : ∀ {l : List Nat} {x : Nat}, l[Y7 t l]? = some x → t < x
 | [], x, h => by simp at h
 | a :: l, x, h => by
  unfold Y7 at h
  split at h
  ·rw [List.getElem?_cons_succ] at h; exact Jjz h
  ·simp only [List.getElem?_cons_zero, Option.some.injEq] at h; subst h; omega
theorem jP {t : Nat} {l : List Nat} (hr : ZR l = true) {i x : Nat} (hx : l[i]? = some x) : decide (t < x) = decide (Y7 t l ≤ i) := by
 by_cases h : Y7 t l ≤ i
 ·have hl := (List.getElem?_eq_some_iff.1 hx).1
  obtain ⟨y, hy⟩ : ∃ y, l[Y7 t l]? = some y := ⟨_, List.getElem?_eq_getElem (by omega)⟩
  have h1 := Jjz hy
  have h2 := Jbg hr h hy hx
  rw [decide_eq_true h, decide_eq_true (by omega)]
 ·have := Jjy (t := t) (l := l) (i := i) (by omega) hx
  rw [decide_eq_false h, decide_eq_false (by omega)]
def q7 (ts : List Nat) : Int := if ts.length < 1 ∨ ts.length > 6 then 2 else if ZR ts = false then 11 else 0
def Qq (ts : List Nat) (t : Nat) : Int × Int := if q7 ts ≠ 0 then (0, q7 ts) else if Y7 t ts = 0 then (0, 10) else ((Y7 t ts : Int) - 1, 0)
def Jv4 (n : Nat) (p : Pl) : Value := .agg #[KB n p]
abbrev unC (ts : List Nat) : List Value := ts.map uV
theorem Y8 {ts : List Nat} {i x : Nat} (h : ts[i]? = some x) : (unC ts)[i]? = some (uV x) := by rw [List.getElem?_map, h]; rfl
theorem Jgu {ts : List Nat} {i : Nat} (h : i < ts.length) : ∃ x, ts[i]? = some x ∧ x ∈ ts := ⟨ts[i], List.getElem?_eq_getElem h, List.getElem_mem h⟩
theorem Jrs (a : Nat) : Pure Tryz.prog 318 [uV a].toArray (.bool false) := by
 refine Jl Tryz.func318 rfl rfl fun w => ?_; refine JD ?_; refine Kh 14 rfl ?_; refine pT rfl rfl rfl fun w1 hs1 => ?_; refine ⟨?_, hs1.keep⟩
 simp [JG]
theorem Jv5 (a b : Nat) : Pure Tryz.prog 247 [uV a, uV b].toArray (.bool (decide (a < b))) := by
 refine Jl Tryz.func247 rfl rfl fun w => ?_; refine JD ?_; refine Jq 8 rfl ?_; refine Jn rfl rfl rfl (enters_of Tryz.func318 (by kernel_rfl) rfl) (Jrs _) ?_; refine Jx 14 rfl ?_; refine pT rfl rfl rfl fun w1 hs1 => ?_; refine ⟨?_, hs1.keep⟩
 simp_all [JG]
theorem Jgv {R : Jm} {ts : List Nat} {p : Pl} (hl : ts.length ≤ 9223372036854775807) (h1 : 1 ≤ ts.length) (hs : Seg R ts.length (unC ts) p) : PureR Tryz.prog 193 [KB ts.length p].toArray (.bool (ZR ts)) R := by
 refine Jb Tryz.func193 rfl rfl fun w => ?_; refine JD ?_; refine Jq 9 rfl ?_; refine LR rfl (Jz rfl hs rfl) ?_; refine VQ rfl (Jc (by omega) (by omega) ?_); refine J3 (show _ = Value.int .i64 ((ts.length - 1 : Nat) : Int) from by rw [Int.ofNat_sub h1]; rfl) ?_; refine JI 4 rfl ?_; refine Jy (σ := Nat) (fun j => j < ts.length ∧ ∀ i x y, j ≤ i → ts[i]? = some x → ts[i + 1]? = some y → x ≤ y) (fun j => [(0, KB ts.length p), (3, .int .i64 (j : Int))]) (fun _ => []) (fun _ _ _ => True) (fun j => j) (ts.length - 1) ⟨by omega, fun i x y hi _ hy => absurd (List.getElem?_eq_some_iff.1 hy).1 (by omega)⟩ (lK rfl) (List.nil_sublist _) (fun _ _ h => h) ?_; rintro j ⟨hj1, hinv⟩; refine JK 7 rfl ?_; refine cD (fun g => ?_) fun g => ?_
 refine JK 5 rfl ?_
 obtain ⟨i, rfl⟩ : ∃ i, j = i + 1 := ⟨j - 1, by omega⟩
 obtain ⟨x, hx, hmx⟩ := Jgu (show i < ts.length by omega)
 obtain ⟨y, hy, hmy⟩ := Jgu (show i + 1 < ts.length by omega)
 refine JE 10 (by kernel_rfl) (by kernel_rfl) ?_; refine Ja rfl rfl rfl (Jf rfl) ?_; refine Ja rfl rfl rfl (Jf rfl) ?_
 refine Ja rfl rfl rfl (Jk (j := (i + 1)) rfl hs rfl rfl rfl (by first | rfl | omega) (by omega)) ?_; refine Ja rfl rfl rfl (QL oR rfl hs (by omega) rfl (Y8 hy)) ?_; refine Ja rfl rfl rfl (Jf rfl) ?_; refine Ja rfl rfl rfl (Jf rfl) ?_; refine Ja rfl rfl rfl (J2 rfl rfl rfl) ?_; refine Q9 (by omega) (by omega) ?_
 refine Ja rfl rfl rfl (Jk (j := i) rfl hs rfl rfl rfl (by first | rfl | omega) (by omega)) ?_; refine Ja rfl rfl rfl (QL oR rfl hs (by omega) rfl (Y8 hx)) ?_; refine Ky rfl rfl rfl (enters_of Tryz.func247 (by kernel_rfl) rfl) (Jv5 _ _) ?_; refine JS ?_; refine JI 2 rfl ?_; refine cD (fun g => ?_) fun g => ?_
 refine Kh 11 rfl ?_; refine pT rfl rfl rfl fun w1 hs1 => ?_; refine ⟨?_, hs1.keep⟩; rw [Jbf hx hy (by simp_all)]; rfl
 refine Jq 6 rfl ?_; refine Jc (by omega) (by omega) ?_; refine J3 (show _ = Value.int .i64 (i : Int) from by congr 1; omega) ?_; refine Jx 2 rfl ?_; refine Jv ?_
 exact Jo i ⟨by omega, fun q u v hq hu hv => by
  rcases Nat.eq_or_lt_of_le hq with rfl | hq
  rw [hx] at hu; rw [hy] at hv; cases hu; cases hv; simp_all
  exact hinv q u v (by omega) hu hv⟩ (by omega) (lK rfl) (List.nil_sublist _) (fun _ _ h => h)
 ·refine Kh 11 rfl ?_; refine pT rfl rfl rfl fun w1 hs1 => ?_; refine ⟨?_, hs1.keep⟩; rw [yt fun i x y hx hy => hinv i x y (by omega) hx hy]; rfl
theorem Jl6 {R : Jm} {ts : List Nat} {p : Pl} (hl : ts.length ≤ 9223372036854775807) (hs : Seg R ts.length (unC ts) p) : PureR Tryz.prog 120 [Jv4 ts.length p].toArray (.int .i64 (q7 ts)) R := by
  have hE : q7 ts = if decide ((ts.length : Int) < 1) = true ∨ (ts.length : Int) > 6 then 2 else if ZR ts = false then 11 else 0 := by
    unfold q7
    exact ite_congr (propext (by rw [decide_eq_true_eq]; omega)) (fun _ => rfl) (fun _ => rfl)
  refine Jb Tryz.func120 rfl rfl fun w => ?_; refine JD ?_; refine Jq 2 rfl ?_; refine LN rfl fun r1 => ?_; refine Xf 9 [0] rfl rfl ?_; refine LR rfl (Jz rfl hs rfl) ?_; refine LS 2 [] rfl rfl ?_
  refine J6 8 rfl (fun gb => ?_) (fun gb => ?_) <;> (try simp only [ZZ] at gb) <;> first | (refine LR rfl (JA rfl rfl rfl) ?_) | (refine LK rfl ?_)
  all_goals refine LW 1 [0] rfl rfl ?_
  all_goals first | refine LR rfl (Jz rfl hs rfl) ?_ | refine LK rfl ?_
  all_goals (
   refine LW 3 [] rfl rfl (Jx 1 rfl (XN 1 rfl ?_)); refine J0 rfl (fun g => ?_) (fun g => ?_)
   try simp only [ZZ] at g
   refine Kh 8 rfl ?_; refine pT rfl rfl rfl fun w1 hs1 => ?_; refine ⟨?_, hs1.keep⟩; rw [hE]; simp only [JG]
   simp_all
   · try exact Bool.noConfusion g
     all_goals try simp only [ZZ] at g
     all_goals (
      refine Vw 4 [0] rfl rfl ?_; refine Ji rfl rfl rfl (enters_of Tryz.func193 (by kernel_rfl) rfl) (Jgv hl (by omega) hs) oR ?_; refine JI 4 rfl ?_; refine cD (fun g => ?_) fun g => ?_
      refine Kh 8 rfl ?_; refine pT rfl rfl rfl fun w1 hs1 => ?_; refine ⟨?_, hs1.keep⟩; rw [hE]; simp only [JG]
      simp_all
      refine Kh 9 rfl ?_; refine pT rfl rfl rfl fun w1 hs1 => ?_; refine ⟨?_, hs1.keep⟩; rw [hE]; simp only [JG]
      simp_all
      skip)
   skip)
theorem Jrt {R : Jm} {n k : Nat} (hn : n ≤ 1000) (hk : k ≤ n) {g : FuncId} {caps : List Value} (eg : Enters Tryz.prog g) (hg : ∀ i, i < n → PureR Tryz.prog g (.int .i64 (i : Int) :: caps).toArray (.bool (decide (k ≤ i))) R) :
  PureR Tryz.prog 121 [.int .i64 (n : Int), .func (.func g) #[] caps.toArray].toArray (.int .i64 (k : Int)) R := by
 refine Jb Tryz.func121 rfl rfl fun w => ?_; refine JD ?_; refine JK 14 rfl ?_; refine Jy (σ := Nat × Nat) (fun s => s.1 ≤ k ∧ k ≤ s.2 ∧ s.2 ≤ n) (fun s => [(1, .func (.func g) #[] caps.toArray), (5, .int .i64 (s.1 : Int)), (6, .int .i64 (s.2 : Int))]) (fun _ => []) (fun _ _ _ => True) (fun s => s.2 - s.1) (0, n) ⟨Nat.zero_le _, hk, Nat.le_refl _⟩ (lK rfl) (List.nil_sublist _) (fun _ _ h => h) ?_; rintro ⟨i, j⟩ ⟨hi0, hj0, hj1⟩; simp only at hi0 hj0 hj1; change HC _ _ [(1, _), (5, .int .i64 (i : Int)), (6, .int .i64 (j : Int))] _ _ _ _; refine JK 8 rfl ?_; refine cD (fun h6 => ?_) fun h6 => ?_
 refine Jq 8 rfl ?_; refine Jc (by omega) (by omega) ?_; refine VQ rfl (VE (by omega) (by omega) (J3 (show _ = Value.int .u64 ((i + j : Nat) : Int) from by rw [Int.natCast_add]) ?_)); refine LR rfl (qE (n := 1) (b := (((i + j) / 2 : Nat) : Int)) rfl rfl rfl (by decide) (by omega) (by omega)) ?_; refine VQ rfl (Jc (by omega) (by omega) (JJ 7 rfl ?_)); refine Ji rfl rfl rfl eg (hg ((i + j) / 2) (by omega)) oR ?_; refine JI 3 rfl ?_; refine cD (fun h9 => ?_) fun h9 => ?_
 refine Jq 3 rfl ?_; refine Jc (by omega) (by omega) ?_; refine Jx 3 rfl ?_; refine Jv ?_; exact Jo ((i + j) / 2 + 1, j) ⟨by simp only; simp at *; omega, hj0, hj1⟩ (by simp only; omega) (lK rfl) (List.nil_sublist _) (fun _ _ h => h)
 refine Kh 5 rfl ?_; refine Jv ?_; exact Jo (i, (i + j) / 2) ⟨hi0, by simp only; simp at *; omega, by simp only; omega⟩ (by simp only; omega) (lK rfl) (List.nil_sublist _) (fun _ _ h => h)
 ·refine Kh 12 rfl ?_; refine pT rfl rfl rfl fun w1 hs1 => ?_; refine ⟨?_, hs1.keep⟩; rw [show i = k by omega]; rfl
theorem Jy9 {R : Jm} {ts : List Nat} {p : Pl} (hs : Seg R ts.length (unC ts) p) {rs rt es et : Nat} {t : Nat} (h1 : (rs, Obj.cells #[KB ts.length p] es (0, 0)) ∈ R) (h2 : (rt, Obj.cells #[uV t] et (0, 0)) ∈ R) (hr : ZR ts = true) {i : Nat} (hi : i < ts.length) :
  PureR Tryz.prog 122 [.int .i64 (i : Int), .pointer (some ⟨rs, 0, none⟩), .pointer (some ⟨rt, 0, none⟩)].toArray (.bool (decide (Y7 t ts ≤ i))) R := by
 obtain ⟨x, hx, hmx⟩ := Jgu hi
 refine Jb Tryz.func122 rfl rfl fun w => ?_; refine JD ?_; refine JK 6 rfl ?_; refine JE 8 (by kernel_rfl) (by kernel_rfl) ?_
 refine Ja rfl rfl rfl (JA rfl rfl rfl) ?_; refine Ja rfl rfl rfl (Je rfl (Or.inr h1) rfl rfl) ?_; refine Ja rfl rfl rfl (Jf rfl) ?_
 refine Ja rfl rfl rfl (Jk (j := i) rfl hs rfl rfl rfl (by first | rfl | omega) (by omega)) ?_; refine Ja rfl rfl rfl (QL oR rfl hs (by omega) rfl (Y8 hx)) ?_; refine Ja rfl rfl rfl (Je rfl (Or.inr h2) rfl rfl) ?_; refine Ja rfl rfl rfl (J2 rfl rfl rfl) ?_; refine Ja rfl rfl rfl (JC rfl) ?_; refine JS ?_; refine Jx 3 rfl ?_; refine pT rfl rfl rfl fun w1 hs1 => ?_; refine ⟨?_, hs1.keep⟩; rw [← jP hr hx]
 simp [JG]
theorem Jru {R : Jm} {ts : List Nat} {p : Pl} (hl : ts.length ≤ 9223372036854775807) (hs : Seg R ts.length (unC ts) p) (t : Nat) : PureR Tryz.prog 71 [Jv4 ts.length p, uV t].toArray (.tuple #[.int .i64 (Qq ts t).1, .int .i64 (Qq ts t).2]) R := by
 refine Jb Tryz.func71 rfl rfl fun w => ?_; refine JD ?_; refine Jq 2 rfl ?_; refine LN rfl fun r1 => ?_; refine LN rfl fun r2 => ?_; refine JJ 7 rfl ?_; refine LR rfl (Js (vs := [_]) rfl (kn 1 rfl) rfl rfl rfl rfl) ?_; refine Ji rfl rfl rfl (enters_of Tryz.func120 (by kernel_rfl) rfl) (Jl6 hl hs) oR ?_; refine JI 9 rfl ?_; refine cD (fun g => ?_) fun g => ?_
 refine Kh 9 rfl ?_; refine Jg rfl rfl (.cons (Jj rfl) (.cons (Jj rfl) .nil)) (fun w1 hs1 => ?_); refine ⟨?_, hs1.keep⟩; simp only [JG, Qq]
 simp_all
 ·refine JK 3 rfl ?_
  have hz : q7 ts = 0 := by assumption
  have h6 : 1 ≤ ts.length ∧ ts.length ≤ 6 ∧ ZR ts = true := by
   unfold q7 at hz
   split at hz
   cases hz
   split at hz
   cases hz
   refine ⟨by omega, by omega, ?_⟩; simp_all
  refine Vw 3 [1] rfl rfl ?_; refine LR rfl (Jz rfl hs rfl) ?_; refine LR rfl (JN rfl rfl) ?_; refine Ji (Rl := (r1, Obj.cells #[KB ts.length p] 24 (0, 0)) :: (r2, Obj.cells #[uV t] 25 (0, 0)) :: R) rfl rfl rfl (enters_of Tryz.func121 (by kernel_rfl) rfl) (Jrt (caps := [.pointer (some ⟨r1, 0, none⟩), .pointer (some ⟨r2, 0, none⟩)]) (by omega) (vL t ts) (enters_of Tryz.func122 (by kernel_rfl) rfl) (fun i hi => Jy9 (hs.mono fun q hq => List.mem_cons_of_mem _ (List.mem_cons_of_mem _ hq)) List.mem_cons_self (List.mem_cons_of_mem _ List.mem_cons_self) h6.2.2 hi)) (fun q hq => (List.mem_cons.1 hq).elim (fun h => Or.inl (by rw [h]; simp)) fun hq => (List.mem_cons.1 hq).elim (fun h => Or.inl (by rw [h]; simp)) Or.inr) ?_; refine JI 10 rfl ?_; refine cD (fun g => ?_) fun g => ?_
  refine Kh 8 rfl ?_; refine Jg rfl rfl (.cons (Jj rfl) (.cons (Jj rfl) .nil)) (fun w1 hs1 => ?_); refine ⟨?_, hs1.keep⟩; simp only [JG, Qq]
  simp_all
  ·refine JK 3 rfl ?_
   have hc6 := vL t ts
   refine Jq 3 rfl ?_; refine Jc (by omega) (by omega) ?_; refine Jx 5 rfl ?_; refine Jg rfl rfl (.cons (Jj rfl) (.cons (Jj rfl) .nil)) (fun w1 hs1 => ?_); refine ⟨?_, hs1.keep⟩; simp only [JG, Qq]
   simp_all
theorem Jgw {R : Jm} {ts : List Nat} {p : Pl} (hl : ts.length ≤ 9223372036854775807) (hs : Seg R ts.length (unC ts) p) : PureR Tryz.prog 82 [Jv4 ts.length p].toArray (.int .i64 (q7 ts)) R := by
  refine Jb Tryz.func82 rfl rfl fun w => ?_; refine JD ?_; refine Jq 2 rfl ?_; refine LN rfl fun r1 => ?_; refine Xf 8 [0] rfl rfl ?_; refine LR rfl (Jz rfl hs rfl) ?_; refine LS 2 [] rfl rfl ?_
  refine J6 8 rfl (fun gb => ?_) (fun gb => ?_) <;> (try simp only [ZZ] at gb) <;> first | (refine LR rfl (JA rfl rfl rfl) ?_) | (refine LK rfl ?_)
  all_goals refine LW 1 [0] rfl rfl ?_
  all_goals first | refine LR rfl (Jz rfl hs rfl) ?_ | refine LK rfl ?_
  all_goals (
   refine LW 2 [] rfl rfl (Jx 1 rfl (XN 1 rfl ?_)); refine J0 rfl (fun g => ?_) (fun g => ?_)
   try simp only [ZZ] at g
   refine Kh 7 rfl ?_; refine pT rfl rfl rfl fun w1 hs1 => ?_; refine ⟨?_, hs1.keep⟩
   unfold q7
   rw [if_pos (by first | omega | (simp_all; omega))]; rfl
   · try exact Bool.noConfusion g
     all_goals try simp only [ZZ] at g
     all_goals (
      refine JK 4 rfl ?_
      have h6 : 1 ≤ ts.length ∧ ts.length ≤ 6 := by
        first
        | omega
        | (simp_all; omega)
      refine JK 5 rfl ?_; refine Jy (σ := Nat) (fun j => (1 ≤ j ∧ j ≤ ts.length) ∧ ∀ i x y, i + 1 < j → ts[i]? = some x → ts[i + 1]? = some y → x ≤ y) (fun j => [(1, .pointer (some ⟨r1, 0, none⟩)), (3, .int .i64 (j : Int))]) (fun _ => [(r1, .cells #[KB ts.length p] 24 (0, 0))]) (fun _ _ _ => True) (fun j => ts.length - j) 1 ⟨⟨Nat.le_refl _, h6.1⟩, fun i x y hi => absurd hi (by omega)⟩ (lK rfl) (List.Sublist.refl _) (fun _ _ h => h) ?_; rintro j ⟨⟨hj0, hj1⟩, hinv⟩; refine Vw 6 [0] rfl rfl ?_; refine LR rfl (Jz rfl hs rfl) ?_; refine JI 3 rfl ?_; refine cD (fun g => ?_) fun g => ?_
      refine JK 5 rfl ?_
      obtain ⟨i, hi⟩ : ∃ i, j = i + 1 := ⟨j - 1, by omega⟩
      subst hi
      obtain ⟨x, hx, hmx⟩ := Jgu (show i < ts.length by omega)
      obtain ⟨y, hy, hmy⟩ := Jgu (show i + 1 < ts.length by omega)
      refine JE 12 (by kernel_rfl) (by kernel_rfl) ?_
      refine Ja rfl rfl rfl (JA rfl rfl rfl) ?_; refine Ja rfl rfl rfl (Je rfl (kn 0 rfl) rfl rfl) ?_; refine Ja rfl rfl rfl (Jf rfl) ?_
      refine Ja rfl rfl rfl (Jk (j := (i + 1)) rfl hs rfl rfl rfl (by first | rfl | omega) (by omega)) ?_; refine Ja rfl rfl rfl (QL oR rfl hs (by omega) rfl (Y8 hy)) ?_
      refine Ja rfl rfl rfl (JA rfl rfl rfl) ?_; refine Ja rfl rfl rfl (Je rfl (kn 0 rfl) rfl rfl) ?_; refine Ja rfl rfl rfl (Jf rfl) ?_; refine Ja rfl rfl rfl (J2 rfl rfl rfl) ?_; refine Q9 (by omega) (by omega) ?_; refine KR (show _ = Value.int .i64 (i : Int) from by congr 1; omega) ?_
      refine Ja rfl rfl rfl (Jk (j := i) rfl hs rfl rfl rfl (by first | rfl | omega) (by omega)) ?_; refine Ja rfl rfl rfl (QL oR rfl hs (by omega) rfl (Y8 hx)) ?_; refine Ja rfl rfl rfl (J2 rfl rfl rfl) ?_; refine JS ?_; refine JI 2 rfl ?_; refine cD (fun g => ?_) fun g => ?_
      refine Kh 11 rfl ?_; refine pT rfl rfl rfl fun w1 hs1 => ?_; refine ⟨?_, hs1.keep⟩
      unfold q7
      rw [if_neg (by omega), if_pos (Jbf hx hy (by simp_all))]; rfl
      refine Jq 6 rfl ?_; refine Jc (by omega) (by omega) ?_; refine Jx 2 rfl ?_; refine Jv ?_
      exact Jo (i + 1 + 1) ⟨⟨by omega, by omega⟩, fun q u v hq hu hv => by
        rcases Nat.lt_or_ge (q + 1) (i + 1) with hq2 | hq2
        exact hinv q u v hq2 hu hv
        obtain rfl : q = i := by omega
        rw [hx] at hu; rw [hy] at hv; cases hu; cases hv; simp_all⟩ (by omega) (lK rfl) (List.Sublist.refl _) (fun _ _ h => h)
      refine Kh 11 rfl ?_; refine pT rfl rfl rfl fun w1 hs1 => ?_; refine ⟨?_, hs1.keep⟩
      unfold q7
      rw [if_neg (by omega), if_neg (by rw [yt fun i x y hx hy => hinv i x y (by have := (List.getElem?_eq_some_iff.1 hy).1; omega) hx hy]; simp)]; rfl
      skip)
   skip)
theorem Jj0 {ts : List Nat} {t x : Nat} (h : ts[0]? = some x) : t < x ↔ Y7 t ts = 0 := by
 cases ts with
 | nil => simp at h
 | cons a l =>
  simp only [List.getElem?_cons_zero, Option.some.injEq] at h; subst h
  unfold Y7
  split <;> constructor <;> intro h2 <;> omega
theorem Jl7 {R : Jm} {ts : List Nat} {p : Pl} (hl : ts.length ≤ 9223372036854775807) (hs : Seg R ts.length (unC ts) p) (t : Nat) : PureR Tryz.prog 31 [Jv4 ts.length p, uV t].toArray (.tuple #[.int .i64 (Qq ts t).1, .int .i64 (Qq ts t).2]) R := by
 refine Jb Tryz.func31 rfl rfl fun w => ?_; refine JD ?_; refine Jq 2 rfl ?_; refine LN rfl fun r1 => ?_; refine JJ 6 rfl ?_; refine LR rfl (Js (vs := [_]) rfl (kn 0 rfl) rfl rfl rfl rfl) ?_; refine Ji rfl rfl rfl (enters_of Tryz.func82 (by kernel_rfl) rfl) (Jgw hl hs) oR ?_; refine JI 10 rfl ?_; refine cD (fun g => ?_) fun g => ?_
 refine Kh 9 rfl ?_; refine Jg rfl rfl (.cons (Jj rfl) (.cons (Jj rfl) .nil)) (fun w1 hs1 => ?_); refine ⟨?_, hs1.keep⟩
 unfold Qq
 rw [if_pos (by simp_all)]; rfl
 ·refine JK 4 rfl ?_
  have hz : q7 ts = 0 := by assumption
  have h6 : 1 ≤ ts.length ∧ ts.length ≤ 6 ∧ ZR ts = true := by
   unfold q7 at hz
   split at hz
   cases hz
   split at hz
   cases hz
   refine ⟨by omega, by omega, ?_⟩; simp_all
  obtain ⟨x0, hx0, hm0⟩ := Jgu (show 0 < ts.length by omega)
  refine Vw 4 [0] rfl rfl ?_
  refine LR rfl (Jk (j := 0) rfl hs rfl rfl rfl (by first | rfl | omega) (by omega)) ?_; refine LR rfl (QL oR rfl hs (by omega) rfl (Y8 hx0)) ?_; refine JI 3 rfl ?_; refine cD (fun g => ?_) fun g => ?_
  refine Kh 8 rfl ?_; refine Jg rfl rfl (.cons (Jj rfl) (.cons (Jj rfl) .nil)) (fun w1 hs1 => ?_); refine ⟨?_, hs1.keep⟩
  unfold Qq
  rw [if_neg (by simp_all), if_pos ((Jj0 hx0).1 (by omega))]; rfl
  ·refine JK 3 rfl ?_
   have hc0 : Y7 t ts ≠ 0 := fun h => by have := (Jj0 (t := t) hx0).2 h; omega
   have hc6 := vL t ts
   refine JK 11 rfl ?_; refine Jy (σ := Nat × Nat) (fun s => s.1 ≤ ts.length ∧ s.2 = min s.1 (Y7 t ts) - 1) (fun s => [(1, uV t), (2, .pointer (some ⟨r1, 0, none⟩)), (7, .int .i64 (s.2 : Int)), (8, .int .i64 (s.1 : Int))]) (fun _ => [(r1, .cells #[KB ts.length p] 24 (0, 0))]) (fun _ _ _ => True) (fun s => ts.length - s.1) (0, 0) ⟨Nat.zero_le _, by simp⟩ (lK rfl) (List.Sublist.refl _) (fun _ _ h => h) ?_; rintro ⟨i, f⟩ ⟨hi1, hinv⟩; simp only at hi1 hinv; change HC _ _ [(1, _), (2, _), (7, .int .i64 (f : Int)), (8, .int .i64 (i : Int))] _ _ _ _; refine Vw 6 [0] rfl rfl ?_; refine LR rfl (Jz rfl hs rfl) ?_; refine JI 3 rfl ?_; refine cD (fun g => ?_) fun g => ?_
   refine JK 5 rfl ?_
   obtain ⟨x, hx, hmx⟩ := Jgu (show i < ts.length by omega)
   refine Vw 4 [0] rfl rfl ?_
   refine LR rfl (Jk (j := i) rfl hs rfl rfl rfl (by first | rfl | omega) (by omega)) ?_; refine LR rfl (QL oR rfl hs (by omega) rfl (Y8 hx)) ?_; refine JI 4 rfl ?_; refine cD (fun g => ?_) fun g => ?_
   refine Jq 9 rfl ?_; refine Jc (by omega) (by omega) ?_; refine Jx 2 rfl ?_; refine Jv ?_
   exact Jo (i + 1, i) ⟨by simp only; omega, by
   have hle : x ≤ t := by simp_all
   have hd := jP (t := t) h6.2.2 hx
   rw [decide_eq_false (by omega)] at hd
   have := of_decide_eq_false hd.symm
   simp only; omega⟩ (by simp only; omega) (lK rfl) (List.Sublist.refl _) (fun _ _ h => h)
   refine Jq 6 rfl ?_; refine Jc (by omega) (by omega) ?_; refine Jx 2 rfl ?_; refine Jv ?_
   first
    | exact Jo (i + 1, i) ⟨by simp only; omega, by
     have hle : x ≤ t := by simp_all
     have hd := jP (t := t) h6.2.2 hx
     rw [decide_eq_false (by omega)] at hd
     have := of_decide_eq_false hd.symm
     simp only; omega⟩ (by simp only; omega) (lK rfl) (List.Sublist.refl _) (fun _ _ h => h)
    | exact Jo (i + 1, f) ⟨by simp only; omega, by
     have hle : t < x := by simp_all
     have hd := jP (t := t) h6.2.2 hx
     rw [decide_eq_true hle] at hd
     have := of_decide_eq_true hd.symm
     simp only; omega⟩ (by simp only; omega) (lK rfl) (List.Sublist.refl _) (fun _ _ h => h)
   ·refine Kh 13 rfl ?_; refine Jg rfl rfl (.cons (Jj rfl) (.cons (Jj rfl) .nil)) (fun w1 hs1 => ?_); refine ⟨?_, hs1.keep⟩
    unfold Qq
    rw [if_neg (by simp_all), if_neg hc0, show (Y7 t ts : Int) - 1 = (f : Int) by omega]; rfl
structure GenL : Type where
  ts : List Nat
  tp : Pl
  time : Nat
  rc : Rec
  accts : List AcL
  ap : Pl
def GenL.cells (g : GenL) : List Value := [KB g.ts.length g.tp, uV g.time, uV g.rc.number, uV g.rc.time, uV g.rc.base.a, uV g.rc.base.b, uV g.rc.base.c, uV g.rc.base.d, uV g.rc.blob.a, uV g.rc.blob.b, uV g.rc.blob.c, uV g.rc.blob.d, uV g.rc.overhead.a, uV g.rc.overhead.b, uV g.rc.overhead.c, uV g.rc.overhead.d, uV g.rc.scalar, uV g.rc.extra, uV g.rc.operator, KB g.accts.length g.ap]
def GenL.val (g : GenL) : Value := .agg g.cells.toArray
theorem GenL.cells_eq (g : GenL) : g.cells = [KB g.ts.length g.tp, uV g.time] ++ g.rc.cells ++ [KB g.accts.length g.ap] := rfl
def GenL.st (g : GenL) : StL := ⟨g.accts, g.ap⟩
def GenL.ac (g : GenL) : List AcE := g.accts.map AcL.er
structure GenL.In (R : Jm) (g : GenL) : Prop where
  tlen : g.ts.length ≤ YU
  tseg : Seg R g.ts.length (unC g.ts) g.tp
  tu : ∀ x ∈ g.ts, VV x
  time : VV g.time
  rc : g.rc.ok
  st : g.st.In R
theorem GenL.In.mono {R R' : Jm} {g : GenL} (h : g.In R) (hs : ∀ q ∈ R, q ∈ R') : g.In R' := ⟨h.tlen, h.tseg.mono hs, h.tu, h.time, h.rc, h.st.mono hs⟩
def Xy (t : Nat) (root : BS) : BS := W8 ((yI t 8).1 ++ root)
theorem Jv6 (t : Nat) : (yI t 8).1.length ≤ 8 := by
 unfold yI
 split
 ·exact Nat.zero_le _
 ·show (jt t 8).length ≤ 8
  simp [jt]
theorem Jbh {t : Nat} (ht : VV t) {root : BS} (hr : root.length ≤ 1000) : Pure Tryz.prog 35 [uV t, J1 root].toArray (J1 (Xy t root)) := by
 have h8 := Jv6 t
 refine Jl Tryz.func35 rfl rfl fun w => ?_; refine JD ?_; refine Jq 8 rfl ?_; refine Jn rfl rfl rfl Jty (jG ht 8) ?_; refine JJ 11 rfl ?_
 refine LR rfl (QK rfl rfl (by first | omega | (simp only [List.length_append]; omega))) ?_; refine Jn rfl rfl rfl Jf4 (wC (by rw [List.length_append]; omega)) ?_; refine Jx 4 rfl ?_; refine pT rfl rfl rfl fun w1 hs1 => ?_; exact ⟨rfl, hs1.keep⟩
def Jrv (g : GenL) : Bool := ZP g.ac && decide (g.ts.length ≤ 100)
theorem Jza {R : Jm} {g : GenL} (hg : g.In R) : PureR Tryz.prog 10 [g.val].toArray (.bool (Jrv g)) R := by
 have hts := hg.tseg
 have hF := Jvp hg.st
 have hfe : ZP g.ac = ZP g.st.er := rfl
 refine Jb Tryz.func10 rfl rfl fun w => ?_; refine JD ?_; refine Jq 2 rfl ?_; refine JR (cs := g.cells.toArray) rfl rfl rfl rfl fun r1 => ?_; refine Xf 7 [0] rfl rfl ?_; refine LR rfl (Jt (r := [_]) rfl rfl) ?_; refine Ji rfl rfl rfl (enters_of Tryz.func29 (by kernel_rfl) rfl) hF oR ?_; refine Q1 rfl ?_
 refine J6 7 rfl (fun gb => ?_) (fun gb => ?_) <;> (try simp only [ZZ] at gb) <;> first | (refine LR rfl (JA rfl rfl rfl) ?_) | (refine LK rfl ?_)
 all_goals first | refine LR rfl (JA rfl rfl rfl) ?_ | refine LK rfl ?_
 all_goals refine LW 1 [0] rfl rfl ?_
 all_goals first | refine LR rfl (Jz rfl hts rfl) ?_ | refine LK rfl ?_
 all_goals (
  refine LW 3 [] rfl rfl (Jx 1 rfl (ZT 2 rfl ?_)); refine pT rfl rfl rfl fun w1 hs1 => ?_; refine ⟨?_, hs1.keep⟩; simp only [JG, Jrv, hfe]
  simp_all
  all_goals first | done | omega
  skip)
theorem Jv7 (a b : AcL) : Pure Tryz.prog 77 [vA a, vA b].toArray (.bool (decide (a.addr = b.addr))) := by
 refine Jl Tryz.func77 rfl rfl fun w => ?_; refine JD ?_; refine Jq 2 rfl ?_; refine LN rfl fun r1 => ?_; refine LN rfl fun r2 => ?_; refine Xf 9 [1, 0] rfl rfl ?_; refine LR rfl (WO rfl rfl) ?_; refine Jx 4 rfl ?_; refine pT rfl rfl rfl fun w1 hs1 => ?_; exact ⟨rfl, hs1.keep⟩
theorem Jv8 (W : Nat) : PureE (α := Nat × Nat) Tryz.prog 30 [Qh W 0].toArray (fun p => .slice (some ⟨p.2, 0, none⟩) 3 3) (fun p => [(p.2, .cells #[.func (.func 70) #[] #[Qh p.1 0], .func (.func 72) #[] #[Qh p.1 0], .func (.func 80) #[] #[Qh p.1 0]] 73 (0, 0)), (p.1, .cells #[Qh W 0] 68 (0, 0))]) := by
 refine Kf Tryz.func30 rfl rfl fun w => ?_; refine JD ?_; refine Jq 2 rfl ?_; refine LN rfl fun r1 => ?_; refine JJ 5 rfl ?_; refine LR rfl (JN rfl rfl) ?_; refine LR rfl (JN rfl rfl) ?_; refine LR rfl (JN rfl rfl) ?_; refine J4 (vs := [_, _, _]) (zs := [_, _, _]) (r := [_, _, _]) rfl rfl rfl rfl rfl rfl rfl rfl rfl (by show (madeCells #[_] _).toList = _; rw [QJ]; exact rfl) rfl fun r2 => ?_; refine Jx 4 rfl ?_; refine pT rfl rfl rfl fun w1 hs1 => ?_; exact ⟨(r1, r2), rfl, hs1⟩
def XV : List BS → Bool
 | x :: y :: l => decide (x = y) || XV (y :: l)
 | _ => false
theorem Jbi : ∀ {l : List BS} {i : Nat} {x : BS}, l[i]? = some x → l[i + 1]? = some x → XV l = true
 | [], i, x, h, _ => by simp at h
 | [a], i, x, _, h => by simp at h
 | a :: b :: l, 0, x, h1, h2 => by
  simp only [List.getElem?_cons_zero, List.getElem?_cons_succ, Nat.zero_add, Option.some.injEq] at h1 h2; subst h1 h2
  unfold XV
  rw [decide_eq_true rfl]; rfl
 | a :: b :: l, i + 1, x, h1, h2 => by
  rw [List.getElem?_cons_succ] at h1 h2
  unfold XV
  rw [Jbi h1 h2, Bool.or_true]
theorem Jbj : ∀ {l : List BS}, (∀ i x, l[i]? = some x → l[i + 1]? = some x → False) → XV l = false
 | [], _ => rfl
 | [a], _ => rfl
 | a :: b :: l, h => by
  unfold XV
  rw [decide_eq_false fun e => h 0 a rfl (by rw [e]; rfl), Jbj fun i x h1 h2 => h (i + 1) x (by rw [List.getElem?_cons_succ]; exact h1) (by rw [List.getElem?_cons_succ]; exact h2)]; rfl
abbrev XW (xs : List AcL) : List BS := xs.map AcL.addr
theorem XK {xs : List AcL} {i : Nat} {x : AcL} (h : xs[i]? = some x) : (XW xs)[i]? = some x.addr := by rw [List.getElem?_map, h]; rfl
def CompR (xs : List AcL) : Type := { q : Option Addr × Nat × Nat // (q.2.1 < xs.length ↔ XV (XW xs) = true) ∧ q.2.1 ≤ xs.length }
def CompR.val {xs : List AcL} (q : CompR xs) : Value := .slice q.1.1 q.1.2.1 q.1.2.2
theorem yu {xs : List AcL} (h : XV (XW xs) = false) (a : Option Addr) (c : Nat) : (xs.length < xs.length ↔ XV (XW xs) = true) ∧ xs.length ≤ xs.length := ⟨⟨fun h2 => absurd h2 (Nat.lt_irrefl _), fun h2 => by rw [h] at h2; cases h2⟩, Nat.le_refl _⟩
theorem Jrw {xs : List AcL} (h : xs.length < 2) : XV (XW xs) = false := Jbj fun i x _ h2 => by
 have := (List.getElem?_eq_some_iff.1 h2).1
 rw [List.length_map] at this; omega
theorem Jl8 {R : Jm} {xs : List AcL} {row : QD} (hl : xs.length ≤ 1000) (hrow : rowOk 8 xs.length (KA xs) row) {g : FuncId} (eg : Enters Tryz.prog g) (hg : ∀ x y : AcL, Pure Tryz.prog g [vA x, vA y].toArray (.bool (decide (x.addr = y.addr)))) :
  PureT (α := CompR xs) Tryz.prog 78 [J8 xs.length row, .func (.func g) #[] #[]].toArray (fun q => q.val) (JH 48 (KA xs) row) (fun _ => []) R := by
 cases row with
 | none =>
  have h0 : xs = [] := by
   have := hrow.1
   exact List.eq_nil_of_length_eq_zero (by simpa using this)
  subst h0; refine Jw Tryz.func78 rfl rfl fun w => ?_; refine JD ?_; refine Jq 9 rfl ?_; refine LR rfl (Ka rfl rfl) ?_; refine JI 3 rfl ?_; refine J0 rfl (fun h4 => ?_) (fun h4 => ?_)
  try simp only [ZZ] at h4
  refine Kh 8 rfl ?_; refine pT rfl rfl rfl fun w1 hs1 => ?_; exact ⟨⟨(none, 0, 0), yu (xs := []) rfl none 0⟩, rfl, hs1⟩
  try exact Bool.noConfusion h4
 | some p =>
  obtain ⟨r, cap, sp⟩ := p
  obtain ⟨hr1, hr2⟩ := hrow
  have hcap : xs.length ≤ cap := by omega
  have hseg : ∀ zs : List AcL, zs.length = xs.length → Seg [(r, .cells (KA zs ++ sp).toArray 48 (0, 0))] zs.length (KA zs) (some (⟨r, 0, none⟩, cap)) := fun zs hz => Km (sz := 8) (row := some (r, cap, sp)) ⟨Kt AcL.len _, by have := hr2; rw [hz]; exact hr2⟩ (by decide)
  refine Jw Tryz.func78 rfl rfl fun w => ?_; refine JD ?_; refine Jq 9 rfl ?_; refine LR rfl (Ka rfl rfl) ?_; refine JI 3 rfl ?_; refine J0 rfl (fun h4 => ?_) (fun h4 => ?_)
  try simp only [ZZ] at h4
  refine Kh 8 rfl ?_; refine pT rfl rfl rfl fun w1 hs1 => ?_; exact ⟨⟨(some ⟨r, 0, none⟩, xs.length, cap), yu (Jrw (by omega)) none 0⟩, rfl, hs1.weakL (List.nil_sublist _)⟩
  ·try simp only [ZZ] at h4
   refine JK 9 rfl ?_; refine Jy (σ := Nat) (fun k => (1 ≤ k ∧ k ≤ xs.length) ∧ ∀ i a, i + 1 < k → (XW xs)[i]? = some a → (XW xs)[i + 1]? = some a → False) (fun k => [(0, .slice (some ⟨r, 0, none⟩) xs.length cap), (1, .func (.func g) #[] #[]), (5, .int .i64 (k : Int))]) (fun _ => [(r, .cells (KA xs ++ sp).toArray 48 (0, 0))]) (fun _ _ _ => True) (fun k => xs.length - k) 1 ⟨⟨Nat.le_refl _, by omega⟩, fun i a hi => absurd hi (by omega)⟩ (lK rfl) (List.Sublist.refl _) (fun _ _ h => h) ?_; rintro k ⟨⟨hk0, hk1⟩, hinv⟩; refine Jq 5 rfl ?_; refine LR rfl (Ka rfl rfl) ?_; refine JI 3 rfl ?_; refine cD (fun h10 => ?_) fun h10 => ?_
   ·refine JK 5 rfl ?_
    have hsegz := hseg xs rfl
    obtain ⟨x, hx, hmx⟩ := Qs (show k - 1 < xs.length by omega)
    obtain ⟨y, hy, hmy⟩ := Qs (show k < xs.length by omega)
    refine JE 11 (by kernel_rfl) (by kernel_rfl) ?_; refine Ja rfl rfl rfl (Jf rfl) ?_; refine Ja rfl rfl rfl (Jf rfl) ?_; refine Ja rfl rfl rfl (Jf rfl) ?_; refine Ja rfl rfl rfl (JF (j := k) (m := 8) (off' := 0 + (k) * 8) rfl rfl rfl rfl rfl (by omega) (by omega)) ?_; refine Ja rfl rfl rfl (JV (p := some (⟨r, 0, none⟩, cap)) AcL.len (fun q hq => Or.inl hq) rfl hsegz hy rfl rfl) ?_; refine Ja rfl rfl rfl (Jf rfl) ?_; refine Ja rfl rfl rfl (Jf rfl) ?_; refine Ja rfl rfl rfl (J2 rfl rfl rfl) ?_; refine Q9 (by omega) (by omega) ?_; refine KR (show _ = Value.int .i64 ((k - 1 : Nat) : Int) from by congr 1; omega) ?_; refine Ja rfl rfl rfl (JF (j := (k - 1)) (m := 8) (off' := 0 + ((k - 1)) * 8) rfl rfl rfl rfl rfl (by omega) (by omega)) ?_; refine Ja rfl rfl rfl (JV (p := some (⟨r, 0, none⟩, cap)) AcL.len (fun q hq => Or.inl hq) rfl hsegz hx rfl rfl) ?_; refine V3 rfl rfl rfl eg ((hg y x).toR) oR ?_; refine JS ?_; refine JI 2 rfl ?_; refine cD (fun h13 => ?_) fun h13 => ?_
    ·refine Jq 4 rfl ?_; refine LR rfl (JU (sz := 8) (m := k) (kl := some k) (kh := none) (km := none) (q := xs.length) (z := cap) (off' := k * 8) rfl rfl rfl ⟨_, rfl⟩ trivial trivial rfl rfl rfl (by omega) (by omega) (by omega) (fun _ => rfl) (by rw [if_neg (by omega)]; omega)) ?_; refine JI 5 rfl ?_
     have hadj : XV (XW xs) = true := by
      have he : y.addr = x.addr := by simp_all
      have h1 := XK hx
      have h2 := XK hy
      rw [he] at h2
      obtain ⟨k0, rfl⟩ : ∃ k0, k = k0 + 1 := ⟨k - 1, by omega⟩
      exact Jbi h1 h2
     clear hsegz hx hy; refine JK 5 rfl ?_; refine Jy (σ := Nat × Nat × List AcL) (fun s => s.2.2.length = xs.length ∧ (1 ≤ s.1 ∧ s.1 ≤ xs.length - k) ∧ s.2.1 ≤ k + s.1 - 1) (fun s => [(0, .slice (some ⟨r, 0, none⟩) xs.length cap), (1, .func (.func g) #[] #[]), (5, .int .i64 (s.2.1 : Int)), (6, .slice (some ⟨r, k * 8, none⟩) (xs.length - k) (cap - k)), (7, .int .i64 (s.1 : Int))]) (fun s => [(r, .cells (KA s.2.2 ++ sp).toArray 48 (0, 0))]) (fun _ _ _ => True) (fun s => xs.length - k - s.1) (1, k, xs) ⟨rfl, ⟨Nat.le_refl _, by simp only; omega⟩, by simp only; omega⟩ (lK rfl) (List.Sublist.refl _) (fun _ _ h => h) ?_; rintro ⟨k2, i, zs⟩ ⟨hz, ⟨hk2, hk3⟩, hi⟩; simp only at hz hk2 hk3 hi; change HC _ _ [(0, _), (1, _), (5, .int .i64 (i : Int)), (6, _), (7, .int .i64 (k2 : Int))] [(r, .cells (KA zs ++ sp).toArray 48 (0, 0))] _ _ _; refine Jq 5 rfl ?_; refine LR rfl (Ka rfl rfl) ?_; refine JI 3 rfl ?_; refine cD (fun h19 => ?_) fun h19 => ?_
     refine JK 5 rfl ?_
     have hsegz := hseg zs hz
     obtain ⟨x, hx, hmx⟩ := Qs (show k + k2 - 1 < zs.length by omega)
     obtain ⟨y, hy, hmy⟩ := Qs (show k + k2 < zs.length by omega)
     refine JE 12 (by kernel_rfl) (by kernel_rfl) ?_; refine Ja rfl rfl rfl (Jf rfl) ?_; refine Ja rfl rfl rfl (Jf rfl) ?_; refine Ja rfl rfl rfl (Jf rfl) ?_; refine Ja rfl rfl rfl (JF (j := k2) (m := 8) (off' := 0 + (k + k2) * 8) rfl rfl rfl rfl rfl (by omega) (by omega)) ?_; refine Ja rfl rfl rfl (JV (p := some (⟨r, 0, none⟩, cap)) AcL.len (fun q hq => Or.inl hq) rfl hsegz hy rfl rfl) ?_; refine Ja rfl rfl rfl (Jf rfl) ?_; refine Ja rfl rfl rfl (Jf rfl) ?_; refine Ja rfl rfl rfl (J2 rfl rfl rfl) ?_; refine Q9 (by omega) (by omega) ?_; refine KR (show _ = Value.int .i64 ((k2 - 1 : Nat) : Int) from by congr 1; omega) ?_; refine Ja rfl rfl rfl (JF (j := k2 - 1) (m := 8) (off' := 0 + (k + k2 - 1) * 8) rfl rfl rfl rfl rfl (by omega) (by omega)) ?_; refine Ja rfl rfl rfl (JV (p := some (⟨r, 0, none⟩, cap)) AcL.len (fun q hq => Or.inl hq) rfl hsegz hx rfl rfl) ?_; refine V3 rfl rfl rfl eg ((hg y x).toR) oR ?_; refine Ja rfl rfl rfl (J2 rfl rfl rfl) ?_; refine JS ?_; refine JI 2 rfl ?_; refine cD (fun h22 => ?_) fun h22 => ?_
     refine Jq 6 rfl ?_; refine LR rfl (JF (j := k2) (m := 8) (off' := 0 + (k + k2) * 8) rfl rfl rfl rfl rfl (by omega) (by omega)) ?_; refine LR rfl (JV (p := some (⟨r, 0, none⟩, cap)) AcL.len (fun q hq => Or.inl hq) rfl hsegz hy rfl rfl) ?_; refine LR rfl (JF (j := i) (m := 8) (off' := i * 8) rfl rfl rfl rfl rfl (by omega) (by omega)) ?_; refine Qm (k := 0) (n := 8) (vs := (AcL.cells y).toArray) (cs' := ((zs.set i y).flatMap AcL.cells ++ sp).toArray) rfl rfl rfl rfl rfl rfl (AcL.one y) (by simp only [List.size_toArray, List.length_append, KA, Kt AcL.len]; omega) (by apply Array.toList_inj.1; simp only [List.toList_toArray]; exact Jaa AcL.len (show i < zs.length by omega) y sp) rfl ?_; refine JJ 5 rfl ?_; refine Jc (by omega) (by omega) ?_; refine JJ 7 rfl ?_; refine Jc (by omega) (by omega) ?_; refine Jx 2 rfl ?_; refine Jv ?_; exact Jo (k2 + 1, i + 1, zs.set i y) ⟨by simp only [List.length_set]; exact hz, ⟨by simp only; omega, by simp only; omega⟩, by simp only; omega⟩ (by simp only; omega) (lK rfl) (List.Sublist.refl _) (fun _ _ h => h)
     refine Jq 6 rfl ?_; refine Jc (by omega) (by omega) ?_; refine Jx 2 rfl ?_; refine Jv ?_; exact Jo (k2 + 1, i, zs) ⟨hz, ⟨by simp only; omega, by simp only; omega⟩, by simp only; omega⟩ (by simp only; omega) (lK rfl) (List.Sublist.refl _) (fun _ _ h => h)
     ·refine Jq 9 rfl ?_; refine LR rfl (JU (sz := 8) (m := i) (kl := some i) (kh := none) (km := none) (q := xs.length) (z := cap) (off' := i * 8) rfl rfl rfl ⟨_, rfl⟩ trivial trivial rfl rfl rfl (by omega) (by omega) (by omega) (fun _ => rfl) (by rw [if_neg (by omega)]; omega)) ?_; refine zm (k := 0) (sz := 8) rfl rfl rfl rfl rfl rfl rfl (by decide) (by simp only [List.size_toArray, List.length_append, KA, Kt AcL.len]; omega) rfl rfl ?_; refine JJ 6 rfl ?_
      refine LR rfl (JU (sz := 8) (q := i) (kl := none) (kh := some i) (km := none) (m := 0) (z := cap) (off' := 0) rfl rfl rfl trivial ⟨_, rfl⟩ trivial rfl rfl rfl (by omega) (by omega) (by omega) (fun h => by cases h) (by split <;> omega)) ?_; refine Jx 9 rfl ?_; refine pT rfl rfl rfl fun w1 hs1 => ?_; exact ⟨⟨(some ⟨r, 0, none⟩, i, cap), ⟨⟨fun _ => hadj, fun _ => by simp only; omega⟩, by simp only; omega⟩⟩, rfl, hs1.weakL (List.nil_sublist _)⟩
    refine Jq 6 rfl ?_; refine Jc (by omega) (by omega) ?_; refine Jx 2 rfl ?_; refine Jv ?_
    exact Jo (k + 1) ⟨⟨by omega, by omega⟩, fun i a hi h1 h2 => by
     rcases Nat.lt_or_ge (i + 1) k with hq | hq
     exact hinv i a hq h1 h2
     obtain rfl : i = k - 1 := by omega
     rw [show k - 1 + 1 = k by omega] at h2
     have e1 := Option.some.inj ((XK hx).symm.trans h1)
     have e2 := Option.some.inj ((XK hy).symm.trans h2)
     have e3 : y.addr = x.addr := e2.trans e1.symm
     simp_all⟩ (by omega) (lK rfl) (List.Sublist.refl _) (fun _ _ h => h)
   ·refine Kh 12 rfl ?_; refine pT rfl rfl rfl fun w1 hs1 => ?_; exact ⟨⟨(some ⟨r, 0, none⟩, xs.length, cap), yu (Jbj fun i a h1 h2 => hinv i a (by have := (List.getElem?_eq_some_iff.1 h2).1; rw [List.length_map] at this; omega) h1 h2) none 0⟩, rfl, hs1.weakL (List.nil_sublist _)⟩
def acI (xs : List AcL) (i : Nat) : AcL := xs.getD i ac0L
theorem Jj1 {xs : List AcL} {i : Nat} (h : i < xs.length) : xs[i]? = some (acI xs i) ∧ acI xs i ∈ xs := by
 unfold acI
 rw [List.getD_eq_getElem?_getD, List.getElem?_eq_getElem h]; exact ⟨rfl, List.getElem_mem h⟩
def Jbk (r n : Nat) (p : Pl) : Nat × Obj := (r, .cells #[KB n p] 30 (0, 0))
theorem Jrx (n : Nat) (p : Pl) : PureE (α := Nat) Tryz.prog 74 [KB n p].toArray (fun r => .func (.func 125) #[] #[.pointer (some ⟨r, 0, none⟩)]) (fun r => [Jbk r n p]) := by
 refine Kf Tryz.func74 rfl rfl fun w => ?_; refine JD ?_; refine Jq 2 rfl ?_; refine LN rfl fun r1 => ?_; refine JJ 5 rfl ?_; refine LR rfl (JN rfl rfl) ?_; refine Jx 4 rfl ?_; refine pT rfl rfl rfl fun w1 hs1 => ?_; exact ⟨_, rfl, hs1⟩
theorem Jry {R : Jm} {xs : List AcL} {p : Pl} (hl : xs.length ≤ 9223372036854775807) (hs : Seg R xs.length (KA xs) p) (rv : Nat) :
    jk Tryz.prog 125 [.pointer (some ⟨rv, 0, none⟩)] (Jbk rv xs.length p :: R) 0 (nxN (fun i => [vA (acI xs i)]) xs.length) (yE xs.length) := by
  have hs := hs.mono (R' := Jbk rv xs.length p :: R) fun q hq => List.mem_cons_of_mem _ hq
  refine Vf Tryz.func125 rfl rfl fun q xids w2 XI XF hY => ?_; refine JD ?_; refine Jq 2 rfl ?_; refine LR rfl (Je rfl (J5 (k := 0) rfl) rfl rfl) ?_; refine LR rfl (Jz rfl hs rfl) ?_; refine JI 4 rfl ?_; refine Jy (σ := Nat) (fun i => i ≤ xs.length) (fun i => [(0, .func (.yield q) #[] #[]), (1, .pointer (some ⟨rv, 0, none⟩)), (5, KB xs.length p), (6, .int .i64 (xs.length : Int)), (7, .int .i64 (i : Int))]) (fun _ => []) (fun i => XI i) (fun i => xs.length - i) 0 (Nat.zero_le _) (lK rfl) (List.nil_sublist _) (fun _ _ h => h) ?_; intro i hi; refine JK 6 rfl ?_; refine cD (fun g => ?_) fun g => ?_
  · refine JK 5 rfl ?_
    have hil : i < xs.length := by omega
    have hix := Jj1 hil
    refine Jq 1 rfl ?_
    refine LR rfl (Jk (j := i) rfl hs rfl rfl rfl (by first | rfl | omega) (by omega)) ?_; refine LR rfl (JV AcL.len oR rfl hs hix.1 rfl rfl) ?_; refine LN rfl fun r1 => ?_; refine Jh (k := 0) (n := 8) (ys := AcL.cells (acI xs i)) rfl rfl rfl rfl rfl rfl rfl rfl rfl ?_; refine JJ 5 rfl ?_; refine LR rfl (Jd (xs := AcL.cells (acI xs i)) (n := 8) rfl (kn 0 rfl) rfl rfl rfl) ?_; refine V2 (XT := XI (i + 1)) (XF := XF) rfl rfl rfl rfl (hY i [vA (acI xs i)] (i + 1) ⟨hil, rfl, rfl⟩) ?_ ?_
    all_goals (
     refine Jx 2 rfl (XN 1 rfl ?_); refine J0 rfl (fun g => ?_) (fun g => ?_)
     · try exact Bool.noConfusion g
       all_goals try simp only [ZZ] at g
       all_goals (
        refine Kh 5 rfl ?_; refine Jg rfl rfl .nil (fun w1 hs1 => ?_)
        obtain ⟨xs1, hx1⟩ := hs1.now
        exact ⟨⟨_, rfl⟩, hs1.keep, .inr ⟨_, hx1⟩⟩
        skip)
     · try exact Bool.noConfusion g
       all_goals try simp only [ZZ] at g
       all_goals (
        refine Jq 5 rfl ?_; refine Jc (by omega) (by omega) ?_; refine Jx 2 rfl ?_; refine Jv ?_; exact Jo (i + 1) (by omega) (by omega) (lK rfl) (List.nil_sublist _) (fun _ _ h => h)
        skip)
     skip)
  · refine Kh 4 rfl ?_; refine Kv rfl rfl .nil (fun w1 hs1 => ?_)
    obtain ⟨xs1, hx1⟩ := hs1.now
    exact ⟨⟨_, rfl⟩, hs1.keep, .inl ⟨i, _, (by show i = xs.length; omega), hx1⟩⟩
theorem Jev {xs : List AcL} {i : Nat} (h : i < xs.length) : KA (xs.take i) ++ (AcL.cells (acI xs i)) = KA (xs.take (i + 1)) := by
 rw [List.take_add_one, (Jj1 h).1]
 simp [KA, List.flatMap_append]
theorem Jrz {R : Jm} {xs : List AcL} {g : FuncId} {caps : List Value} (hl : xs.length ≤ 1000) (eg : Enters Tryz.prog g) (hit : jk Tryz.prog g caps R 0 (nxN (fun i => [vA (acI xs i)]) xs.length) (yE xs.length)) :
  PureT (α := { row : QD // rowOk 8 xs.length (KA xs) row }) Tryz.prog 194 [.slice none 0 0, .func (.func g) #[] caps.toArray].toArray (fun x => J8 xs.length x.1) [] (fun x => JH 48 (KA xs) x.1) R := by
 refine Jw Tryz.func194 rfl rfl fun w => ?_; refine JD ?_; refine Jq 2 rfl ?_; refine LN rfl fun r1 => ?_; refine JI 10 rfl ?_; refine Wd (τ := Unit) (fun i (s : Nat × QD) => i = s.1 ∧ i ≤ xs.length ∧ rowOk 8 i (KA (xs.take i)) s.2) (fun s => (r1, .cells #[J8 s.1 s.2] 30 (0, 0)) :: JH 48 (KA (xs.take s.1)) s.2) (fun _ _ => False) (fun _ => []) [] (0, none) rfl rfl eg hit (by rintro _ _ _ ⟨_, rfl, _⟩; rfl) rfl oR rfl ⟨rfl, Nat.zero_le _, ⟨rfl, rfl⟩⟩ ?_ ?_ ?_
 rintro q Xr Xb w3 i _ _ ⟨_, row⟩ ⟨hii, rfl, rfl⟩ ⟨rfl, him, hrow⟩ Kr hKr; refine inR ?_
 simp only at hKr ⊢; refine Jq 1 rfl ?_; refine LN rfl fun r2 => ?_; refine Jh (k := 0) (n := 8) (ys := AcL.cells (acI xs i)) rfl rfl rfl rfl rfl rfl rfl rfl rfl ?_; refine Jx 1 rfl ?_; refine hKr _ _ ?_; refine JD ?_; clear hKr; refine Jq 2 rfl ?_; refine LR rfl (Je rfl (kn 1 rfl) rfl rfl) ?_; refine LR rfl (Jd (xs := AcL.cells (acI xs i)) (n := 8) rfl (kn 0 rfl) rfl rfl rfl) ?_; refine J4 (n := 1) (sz := 8) (vs := [_]) (zs := [_, _, _, _, _, _, _, _]) (r := AcL.cells (acI xs i)) rfl rfl rfl rfl rfl rfl rfl rfl rfl (by rw [JO]; exact rfl) rfl fun r3 => ?_; refine JM (L0 := [_, _, _]) (xs := KA (xs.take i)) (row := row) (n := i) (sz := 8) (b := 96) (news := AcL.cells (acI xs i)) (List.perm_append_comm (l₁ := [_, _, _])) rfl rfl rfl rfl (kn 0 rfl) rfl rfl rfl rfl rfl (by decide) rfl rfl rfl (by decide) hrow (by omega) (by omega) fun ra cap sp hra => ?_
 refine LT 3 rfl rfl ?_; refine Jx 2 rfl ?_; refine Qi [3, 0] (L' := [_, _]) (by decide) rfl ?_; refine KD (i + 1, some (ra, cap, sp)) ⟨rfl, by omega, by rw [Jev hii] at hra; exact hra⟩ ?_; simp only [JH, J8, Jev hii]
 rintro D i ⟨_, row⟩ hfi ⟨rfl, him, hrow⟩
 simp only at hrow ⊢
 have hfi : i = xs.length := hfi
 subst hfi; rw [List.take_length] at hrow ⊢; refine Gqq 9 [1] rfl rfl ?_; refine KX (k := 0) rfl rfl ?_; refine pT rfl rfl rfl fun w1 hs1 => ?_; exact ⟨⟨row, hrow⟩, rfl, hs1.weakL (by simp only [List.set_cons_zero, List.append_nil]; exact List.sublist_append_right [_, _] _)⟩
 ·exact fun _ _ _ h => h.elim
theorem Jl9 {R : Jm} {xs : List AcL} {g : FuncId} {caps : List Value} (hl : xs.length ≤ 1000) (eg : Enters Tryz.prog g) (hit : jk Tryz.prog g caps R 0 (nxN (fun i => [vA (acI xs i)]) xs.length) (yE xs.length)) :
  PureT (α := { row : QD // rowOk 8 xs.length (KA xs) row }) Tryz.prog 123 [.func (.func g) #[] caps.toArray].toArray (fun x => J8 xs.length x.1) [] (fun x => JH 48 (KA xs) x.1) R := by
 refine Jw Tryz.func123 rfl rfl fun w => ?_; refine JD ?_; refine Jq 8 rfl ?_; refine Ke rfl rfl rfl (enters_of Tryz.func194 (by kernel_rfl) rfl) (Jrz hl eg hit) oR fun x => ?_; refine Jx 4 rfl ?_; refine pT rfl rfl rfl fun w1 hs1 => ?_; exact ⟨x, rfl, hs1.weakL (List.sublist_append_left _ _)⟩
end Go.Proofs.YtfaagelglpgpkaaGreatDoor
namespace Go.Proofs
open Go.Shelf
def Tryz.laysSortA_ren : Go.Shelf.Ren := ⟨fun | 6 => 124 | 15 => 174 | 14 => 195 | 28 => 234 | 29 => 235 | 20 => 248 | 21 => 249 | 22 => 250 | 23 => 251 | 24 => 252 | 25 => 253 | 26 => 254 | 27 => 255 | 46 => 319 | 47 => 308 | 48 => 309 | 49 => 320 | 50 => 321 | 57 => 349 | n => n, fun | 22 => 30 | 24 => 48 | 25 => 125 | 3 => 3 | 39 => 188 | 0 => 0 | 53 => 261 | 55 => 25 | 4 => 4 | 46 => 254 | 45 => 253 | 50 => 258 | 5 => 5 | 9 => 9 | 66 => 293 | 70 => 297 | 76 => 327 | 77 => 328 | n => n, fun | n => n⟩
theorem Tryz.laysSortA : Go.Proofs.SlLaysF0.n6 Tryz.prog Tryz.laysSortA_ren := {
 mixed := by kernel_rfl
 f6 := ⟨Tryz.f124.name, by decide, Tryz.func124.trans (congrArg some (by kernel_rfl))⟩
 f14 := ⟨Tryz.f195.name, by decide, Tryz.func195.trans (congrArg some (by kernel_rfl))⟩
 f15 := Tryz.func174.trans (congrArg some (by kernel_rfl))
 f20 := ⟨Tryz.f248.name, by decide, Tryz.func248.trans (congrArg some (by kernel_rfl))⟩
 f21 := ⟨Tryz.f249.name, by decide, Tryz.func249.trans (congrArg some (by kernel_rfl))⟩
 f22 := ⟨Tryz.f250.name, by decide, Tryz.func250.trans (congrArg some (by kernel_rfl))⟩
 f23 := ⟨Tryz.f251.name, by decide, Tryz.func251.trans (congrArg some (by kernel_rfl))⟩
 f24 := ⟨Tryz.f252.name, by decide, Tryz.func252.trans (congrArg some (by kernel_rfl))⟩
 f25 := ⟨Tryz.f253.name, by decide, Tryz.func253.trans (congrArg some (by kernel_rfl))⟩
 f26 := ⟨Tryz.f254.name, by decide, Tryz.func254.trans (congrArg some (by kernel_rfl))⟩
 f27 := ⟨Tryz.f255.name, by decide, Tryz.func255.trans (congrArg some (by kernel_rfl))⟩
 f28 := Tryz.func234.trans (congrArg some (by kernel_rfl))
 f29 := Tryz.func235.trans (congrArg some (by kernel_rfl))
 f46 := ⟨Tryz.f319.name, by decide, Tryz.func319.trans (congrArg some (by kernel_rfl))⟩
 f47 := Tryz.func308.trans (congrArg some (by kernel_rfl))
 f48 := Tryz.func309.trans (congrArg some (by kernel_rfl))
 f49 := ⟨Tryz.f320.name, by decide, Tryz.func320.trans (congrArg some (by kernel_rfl))⟩
 f50 := ⟨Tryz.f321.name, by decide, Tryz.func321.trans (congrArg some (by kernel_rfl))⟩
 f57 := ⟨Tryz.f349.name, by decide, Tryz.func349.trans (congrArg some (by kernel_rfl))⟩
 t0 := Tryz.underlying0
 a0 := Tryz.isAgg0
 z0 := Tryz.sizeOf0
 v0 := Tryz.zeroValue0
 t3 := Tryz.underlying3
 a3 := Tryz.isAgg3
 z3 := Tryz.sizeOf3
 v3 := Tryz.zeroValue3
 t4 := Tryz.underlying4
 a4 := Tryz.isAgg4
 z4 := Tryz.sizeOf4
 v4 := Tryz.zeroValue4
 t5 := Tryz.underlying5
 a5 := Tryz.isAgg5
 z5 := Tryz.sizeOf5
 v5 := Tryz.zeroValue5
 t9 := Tryz.underlying9
 a9 := Tryz.isAgg9
 z9 := Tryz.sizeOf9
 v9 := Tryz.zeroValue9
 t22 := Tryz.underlying30
 a22 := Tryz.isAgg30
 z22 := Tryz.sizeOf30
 v22 := Tryz.zeroValue30
 t25 := Tryz.underlying125
 a25 := Tryz.isAgg125
 z25 := Tryz.sizeOf125
 v25 := Tryz.zeroValue125
 t39 := Tryz.underlying188
 a39 := Tryz.isAgg188
 z39 := Tryz.sizeOf188
 v39 := Tryz.zeroValue188
 t45 := Tryz.underlying253
 a45 := Tryz.isAgg253
 z45 := Tryz.sizeOf253
 v45 := Tryz.zeroValue253
 t46 := Tryz.underlying254
 a46 := Tryz.isAgg254
 z46 := Tryz.sizeOf254
 v46 := Tryz.zeroValue254
 t50 := Tryz.underlying258
 a50 := Tryz.isAgg258
 z50 := Tryz.sizeOf258
 v50 := Tryz.zeroValue258
 t53 := Tryz.underlying261
 a53 := Tryz.isAgg261
 z53 := Tryz.sizeOf261
 v53 := Tryz.zeroValue261
 t55 := Tryz.underlying25
 a55 := Tryz.isAgg25
 z55 := Tryz.sizeOf25
 v55 := Tryz.zeroValue25
 t66 := Tryz.underlying293
 a66 := Tryz.isAgg293
 z66 := Tryz.sizeOf293
 v66 := Tryz.zeroValue293
 t70 := Tryz.underlying297
 a70 := Tryz.isAgg297
 z70 := Tryz.sizeOf297
 v70 := Tryz.zeroValue297
 t76 := Tryz.underlying327
 a76 := Tryz.isAgg327
 z76 := Tryz.sizeOf327
 v76 := Tryz.zeroValue327
 t77 := Tryz.underlying328
 a77 := Tryz.isAgg328
 z77 := Tryz.sizeOf328
 v77 := Tryz.zeroValue328 }
end Go.Proofs
namespace Go.Proofs.YtfaagelglpgpkaaGreatDoor
set_option linter.all false
open Go.SL Go.RowKit Go.Shelf
open Go.Proofs
theorem Jr0 (a : ByteArray) (W : World) : Calls Tryz.prog 126 #[.string a] W fun e w' => e = .returned (.bool false) ∧ w' = W := by
 go_enter Tryz.func126, Tryz.ntmps126
 go_wp2
 go_ret
 exact ⟨by simp, rfl⟩
theorem Jv9 (a b : BS) (t : TypeId) (w : World) : (binOp .gtr t (.string (bs a)) (.string (bs b))).run Tryz.prog w = .ok (.bool (Op.bytesLess b a)) w := by
 simp only [binOp, eqGuard, Op.stringOp, Sem.run_bind, We]
 rw [show Op.bytesLess b a = !(Op.bytesLess a b || a == b) from by
  rcases Xk a b with rfl | h | h
  ·rw [Vy]; simp
  ·rw [h, Wo h]; rfl
  ·rw [h, Wo h, show (a == b) = false from beq_eq_false_iff_ne.2 (ZE h).symm]; rfl]
 rfl
theorem Jgy (a b : BS) (W : World) : Calls Tryz.prog 76 #[.string (bs a), .string (bs b)] W fun e w' => e = .returned (.int .i64 (Yd a b)) ∧ w' = W := by
 have h := Jr0
 have hg := Jv9
 unfold Yd
 go_enter Tryz.func76, Tryz.ntmps76
 go_wp2_with (first | (go_at_call 126; refine (h _ _).mono ?_; rintro e w' ⟨rfl, rfl⟩) | rw [hg])
 all_goals go_ret
 all_goals refine ⟨?_, rfl⟩
 all_goals simp_all [We]
theorem Jwa (x y : AcL) (W : World) : Calls Tryz.prog 75 #[.agg (AcL.cells x).toArray, .agg (AcL.cells y).toArray] W fun e w' => e = .returned (.int .i64 (Yd x.addr y.addr)) ∧ ∃ q os', w' = Go.Sort.grow (W.drewN q) os' := by
 have hcon := fun W' => Jgy x.addr y.addr W'
 generalize Yd x.addr y.addr = r at hcon ⊢
 obtain ⟨xa, xn, ⟨xb, xc, xd, xe⟩, xo, xs, xp⟩ := x
 obtain ⟨ya, yn, ⟨yb, yc, yd, ye⟩, yo, ys, yp⟩ := y
 simp only [AcL.cells] at hcon ⊢
 go_enter Tryz.func75, Tryz.ntmps75
 go_wp2_with (go_at_call 76; refine (hcon _).mono ?_; rintro e w' ⟨rfl, rfl⟩)
 go_ret
 exact ⟨rfl, 0, _, by rw [Go.Sort.alloc_eq_grow, Go.Sort.alloc_eq_grow, Go.Sort.grow_grow]; rfl⟩
theorem Jew {w w' : World} {blk n : Nat} {os : Array Obj} {xs ys : List Value} {sp : List Value} {e : TypeId} (hl : ys.length = xs.length) (hw : w' = Go.Sort.grow (Go.Sort.putRow id (Go.Sort.ahead w n) blk 0 ys.toArray) os)
  (hb : w.heap[blk]? = some (.cells (xs ++ sp).toArray e (0, 0))) : Keep [blk] w w' ∧ w'.heap[blk]? = some (.cells (ys ++ sp).toArray e (0, 0)) := by
 have hlt := JB hb
 have hh : ∀ k, k < w.heap.size → w'.heap[k]? = (w.heap.modify blk (Go.Sort.onCells (Go.Sort.putCells id 0 ys.toArray)))[k]? := fun k hk => by
  subst hw
  show (_ ++ _ : Array Obj)[k]? = _
  rw [Array.getElem?_append_left]
  ·rfl
  ·show k < (Array.modify _ _ _).size
   rw [Array.size_modify]; exact hk
 refine ⟨⟨by subst hw; rfl, by subst hw; rfl, by subst hw; rfl, ?_, fun k hk hn => ?_⟩, ?_⟩
 ·subst hw
  show _ ≤ (_ ++ _ : Array Obj).size
  rw [Array.size_append]
  show _ ≤ (Array.modify _ _ _).size + _
  rw [Array.size_modify]; exact Nat.le_add_right _ _
 ·rw [hh k hk, Array.getElem?_modify, if_neg]
  intro e; exact hn (by simp [e])
 ·rw [hh blk hlt, Array.getElem?_modify, if_pos rfl, hb]
  simp only [Option.map_some, Go.Sort.onCells, Option.some.injEq, Obj.cells.injEq, and_true]
  apply Array.toList_inj.1
  apply List.ext_getElem?
  intro j; simp only [Go.Sort.putCells, Nat.zero_le, true_and, Nat.zero_add, List.size_toArray, Nat.sub_zero, Array.toList_mapIdx, List.getElem?_mapIdx]
  by_cases hj : j < ys.length
  ·rw [List.getElem?_append_left (by omega), List.getElem?_append_left hj]
   simp [hj, (by omega : j < xs.length)]
  ·rw [List.getElem?_append_right (by omega), List.getElem?_append_right (by omega)]
   simp only [hl, if_neg (by omega : ¬ j < xs.length)]
   cases sp[j - xs.length]? <;> simp
theorem Jgz {w : World} {blk : Nat} {xs : List Value} {sp : List Value} {e : TypeId} (hb : w.heap[blk]? = some (.cells (xs ++ sp).toArray e (0, 0))) : Go.Sort.Holds id w blk 0 xs.toArray := fun j hj => by
 have hj' : j < xs.length := by simpa using hj
 rw [Nat.zero_add, Vo hb, XX hb (show frB (0, 0) j = false from by simp [frB, Nat.blt, Nat.ble])]; refine ⟨?_, rfl⟩
 simp [hj', List.getElem?_append_left]
instance : Inhabited AcL := ⟨ac0L⟩
theorem Jex (xs : List AcL) : Go.Sort.flatK AcL.cells 8 xs.toArray = (KA xs).toArray := by
 refine Go.Sort.ext_get! (by rw [Go.Sort.size_flatK]; simp [KA, Kt AcL.len]) fun t ht => ?_; rw [Go.Sort.size_flatK, List.size_toArray] at ht
 have hq : t / 8 < xs.length := by omega
 have hx : xs[t / 8]? = some xs[t / 8] := List.getElem?_eq_getElem hq
 have hr : t % 8 < (AcL.cells xs[t / 8]).length := by rw [AcL.len]; omega
 have h := Jcy (f := AcL.cells) AcL.len hx (List.getElem?_eq_getElem hr)
 rw [show t / 8 * 8 + t % 8 = t by omega] at h; rw [Go.Sort.get_flatK _ _ _ _ (by rw [List.size_toArray]; exact ht)]
 have h2 : (KA xs).toArray[t]? = some (AcL.cells xs[t / 8])[t % 8] := by simpa [KA] using h
 have e1 : ∀ (a : Array Value) (v : Value), a[t]? = some v → a[t]! = v := fun a v h => by rw [Array.getElem!_eq_getD, Array.getD_eq_getD_getElem?, h]; rfl
 rw [e1 _ _ h2]
 simp [hq, hr]
theorem Jr1 : Go.Sort.SWO (Go.Proofs.ltOf fun x y : AcL => Yd x.addr y.addr) := by
 have h : ∀ x y : AcL, Go.Proofs.ltOf (fun x y : AcL => Yd x.addr y.addr) x y = Op.bytesLess x.addr y.addr := fun x y => vz _ _
 refine ⟨fun x => by rw [h]; exact Vy _, fun x y z h1 h2 => by rw [h] at h1 h2 ⊢; exact QA h1 h2, fun x y z h1 h2 => ?_⟩; rw [h] at h1 h2 ⊢
 rcases Xk x.addr z.addr with e | e | e
 ·rw [e]; exact Vy _
 ·rcases Xk x.addr y.addr with f | f | f
  ·rw [f] at e; rw [e] at h2; cases h2
  ·rw [f] at h1; cases h1
  ·have := QA f e; rw [this] at h2; cases h2
 ·exact Wo e
def SortR (xs : List AcL) : Type := { ys : List AcL // ys.Perm xs ∧ ∀ (i j : Nat) (x y : AcL), i < j → ys[i]? = some x → ys[j]? = some y → Op.bytesLess y.addr x.addr = false }
theorem Jzb : Pure Tryz.prog 248 [.slice none 0 0, .int .i64 0, .int .i64 0, fV 75].toArray (.tuple #[]) := by
 refine Jl Tryz.func248 rfl rfl fun w => ?_; refine JD ?_; refine Jq 4 rfl ?_; refine Jc (by omega) (by omega) ?_; refine JI 4 rfl ?_; refine Jy (σ := Unit) (fun _ => True) (fun _ => [(2, .int .i64 0), (8, .int .i64 1)]) (fun _ => []) (fun _ _ _ => True) (fun _ => 0) () trivial (lK rfl) (List.nil_sublist _) (fun _ _ h => h) ?_; rintro ⟨⟩ -; refine JK 8 rfl ?_; refine J0 rfl (fun h4 => ?_) (fun h4 => ?_)
 exact absurd h4 (by decide)
 ·try simp only [ZZ] at h4
  refine Kh 4 rfl ?_; refine Kv rfl rfl .nil (fun w1 hs1 => ?_); exact ⟨rfl, hs1.keep⟩
theorem Jzc : Pure Tryz.prog 195 [.slice none 0 0, .int .i64 0, .int .i64 0, .int .i64 0, fV 75].toArray (.tuple #[]) := by
 refine Jl Tryz.func195 rfl rfl fun w => ?_; refine JD ?_; refine JK 11 rfl ?_; refine Jy (σ := Unit) (fun _ => True) (fun _ => [(0, .slice none 0 0), (1, .int .i64 0), (2, .int .i64 0), (4, fV 75)]) (fun _ => []) (fun _ _ _ => True) (fun _ => 0) () trivial (lK rfl) (List.nil_sublist _) (fun _ _ h => h) ?_; rintro ⟨⟩ -; refine Jq 6 rfl ?_; refine Jc (by omega) (by omega) ?_; refine JI 10 rfl ?_; refine J0 rfl (fun h6 => ?_) (fun h6 => ?_)
 try simp only [ZZ] at h6
 refine Jq 6 rfl ?_; refine Jn rfl rfl rfl (enters_of Tryz.func248 (by kernel_rfl) rfl) Jzb ?_; refine Jx 7 rfl ?_; refine Jg rfl rfl .nil (fun w1 hs1 => ?_); exact ⟨rfl, hs1.keep⟩
 ·exact absurd h6 (by decide)
theorem P_sortA_nil : Pure Tryz.prog 124 [.slice none 0 0, fV 75].toArray (.tuple #[]) := by
 refine Jl Tryz.func124 rfl rfl fun w => ?_; refine JD ?_; refine Jq 3 rfl ?_; refine LR rfl (Ka rfl rfl) ?_; refine JJ 8 rfl ?_; refine VE (by omega) (by omega) ?_; refine Jn rfl rfl rfl (enters_of Tryz.func174 (by kernel_rfl) rfl) yq ?_; refine Q1 rfl (Jn rfl rfl rfl (enters_of Tryz.func195 (by kernel_rfl) rfl) Jzc (Jx 1 rfl ?_)); refine Kv rfl rfl .nil (fun w1 hs1 => ?_); exact ⟨rfl, hs1.keep⟩
theorem Jwb {R : Jm} {xs : List AcL} {row : QD} (hl : xs.length ≤ 1000) (hrow : rowOk 8 xs.length (KA xs) row) :
  PureT (α := SortR xs) Tryz.prog 124 [J8 xs.length row, fV 75].toArray (fun _ => .tuple #[]) (JH 48 (KA xs) row) (fun ys => JH 48 (KA ys.1) row) R := by
 cases row with
 | none =>
  have h0 : xs = [] := by
   have := hrow.1
   exact List.eq_nil_of_length_eq_zero (by simpa using this)
  subst h0; exact P_sortA_nil.toR.toT.map (fun _ => ⟨[], List.Perm.refl _, fun i j x y _ h => by simp at h⟩) (fun _ => rfl) (fun _ => List.Sublist.refl _)
 | some p =>
  obtain ⟨r, cap, sp⟩ := p
  obtain ⟨hr1, hr2⟩ := hrow
  refine ⟨fun w hT hR hd hne => ?_⟩
  have hb : w.heap[r]? = some (.cells (KA xs ++ sp).toArray 48 (0, 0)) := hT _ List.mem_cons_self
  have hH : Go.Sort.HoldsK AcL.cells 8 w r 0 xs.toArray := by
   unfold Go.Sort.HoldsK
   rw [Jex]; exact Jgz hb
  have eg : ∀ args w, (callFunc 75 args).run Tryz.prog w = .ok (.enter 75 args) w := enters_of Tryz.func75 (by kernel_rfl) rfl
  have hcon := AnyQ.slices_SortFunc Tryz.laysSortA 8 Tryz.isAgg48 Tryz.sizeOf48 AcL.cells AcL.len (fun x v hv => by simp [AcL.cells] at hv; rcases hv with rfl | rfl | rfl | rfl | rfl | rfl | rfl | rfl <;> rfl) (fun x y => Yd x.addr y.addr) Jr1 75 #[] r 0 cap xs.toArray w eg (fun _ _ _ _ x y => Jwa x y _) hH (JB hb) (by rw [List.size_toArray]; omega)
  change Calls Tryz.prog 124 #[.slice (some ⟨r, 0, none⟩) xs.length cap, fV 75] w _ at hcon; refine hcon.mono ?_; rintro e w' ⟨rfl, d', n, os, ⟨hp1, _, hp3⟩, hso, hw⟩
  have hsz : d'.toList.length = xs.length := by rw [Array.length_toList, hp1, List.size_toArray]
  have hfl : Go.Sort.flatK AcL.cells 8 d' = (KA d'.toList).toArray := Jex d'.toList
  have hw2 : w' = Go.Sort.grow (Go.Sort.putRow id (Go.Sort.ahead w n) r 0 (KA d'.toList).toArray) os := by rw [hw, ← hfl]; rfl
  obtain ⟨h1, h2⟩ := Jew (ys := KA d'.toList) (by simp only [KA, Kt AcL.len, hsz]) hw2 hb
  have hperm : d'.toList.Perm xs := by
   rw [List.size_toArray] at hp3
   have e1 : (d'.extract 0 xs.length).toList = d'.toList := by rw [Array.toList_extract]; simp [← hsz]; exact List.take_of_length_le (by simp)
   have e2 : (xs.toArray.extract 0 xs.length).toList = xs := by rw [Array.toList_extract]; simp
   rw [e1, e2] at hp3; exact hp3
  have hs : ∀ (i j : Nat) (x y : AcL), i < j → d'.toList[i]? = some x → d'.toList[j]? = some y → Op.bytesLess y.addr x.addr = false := fun i j x y hij hx hy => by
   have hj := (List.getElem?_eq_some_iff.1 hy).1
   have h := hso i j (Nat.zero_le _) hij (by rw [List.size_toArray]; omega)
   have g : ∀ (k : Nat) (z : AcL), d'.toList[k]? = some z → d'[k]! = z := fun k z hz => by
    have h3 : d'[k]? = some z := by simpa using hz
    rw [Array.getElem!_eq_getD, Array.getD_eq_getD_getElem?, h3]; rfl
   rw [g j y hy, g i x hx] at h
   have h4 : Op.bytesLess y.addr x.addr = decide (Yd y.addr x.addr < 0) := (vz _ _).symm
   rw [h4]; exact h
  exact ⟨⟨d'.toList, hperm, hs⟩, rfl, h1, fun p hp => by
   rw [List.mem_singleton.1 hp]; exact ⟨.inl (by simp [JH]), h2⟩, List.pairwise_singleton _ _⟩
theorem Jma {R : Jm} {xs : List AcL} {g : FuncId} {caps : List Value} (hl : xs.length ≤ 1000) (eg : Enters Tryz.prog g) (hit : jk Tryz.prog g caps R 0 (nxN (fun i => [vA (acI xs i)]) xs.length) (yE xs.length)) :
  PureT (α := { y : SortR xs × QD // rowOk 8 xs.length (KA y.1.1) y.2 }) Tryz.prog 73 [.func (.func g) #[] caps.toArray, fV 75].toArray (fun y => J8 xs.length y.1.2) [] (fun y => JH 48 (KA y.1.1.1) y.1.2) R := by
 refine Jw Tryz.func73 rfl rfl fun w => ?_; refine JD ?_; refine Jq 8 rfl ?_; refine Ke rfl rfl rfl (enters_of Tryz.func123 (by kernel_rfl) rfl) (Jl9 hl eg hit) oR fun x => ?_
 obtain ⟨row, hrow⟩ := x
 refine JJ 7 rfl ?_; refine Qw (T := JH 48 (KA xs) row) (L0 := []) (Rl := []) (List.Perm.refl _) rfl rfl rfl (enters_of Tryz.func124 (by kernel_rfl) rfl) (Jwb hl hrow) oN fun ys => ?_; refine Jx 9 rfl ?_; refine pT rfl rfl rfl fun w1 hs1 => ?_; exact ⟨⟨(ys, row), hrow.same (by rw [KA, KA, Kt AcL.len, Kt AcL.len, ys.2.1.length_eq])⟩, rfl, hs1.weakL (List.sublist_append_left _ _)⟩
def wkC (g : GenL) (n : Nat) (p : Pl) (f : Int) : List Value := [KB g.ts.length g.tp, uV g.time, uV g.rc.number, uV g.rc.time, uV g.rc.base.a, uV g.rc.base.b, uV g.rc.base.c, uV g.rc.base.d, uV g.rc.blob.a, uV g.rc.blob.b, uV g.rc.blob.c, uV g.rc.blob.d, uV g.rc.overhead.a, uV g.rc.overhead.b, uV g.rc.overhead.c, uV g.rc.overhead.d, uV g.rc.scalar, uV g.rc.extra, uV g.rc.operator, KB g.accts.length g.ap, KB n p, .int .i64 f]
def yP (W : Nat) (g : GenL) (n : Nat) (p : Pl) (f : Int) : Nat × Obj := (W, .cells (wkC g n p f).toArray 70 (0, 0))
def rpB (rp W : Nat) : Nat × Obj := (rp, .cells #[Qh W 0] 68 (0, 0))
theorem Jwc {R : Jm} {g : GenL} (hg : g.In R) (rp W n : Nat) (p : Pl) (f : Int) : PureT (α := Unit) Tryz.prog 70 [Qh rp 0].toArray (fun _ => .int .i64 (Qq g.ts g.time).2) [yP W g n p f] (fun _ => [yP W g n p (Qq g.ts g.time).1]) (rpB rp W :: R) := by
 have hA := (Jru hg.tlen hg.tseg g.time).mono (R' := rpB rp W :: R) fun q hq => List.mem_cons_of_mem _ hq
 refine Jw Tryz.func70 rfl rfl fun w => ?_; refine JD ?_; refine JK 6 rfl ?_
 refine JT [] [(0, .pure), (1, .pure), (2, .pure), (3, .pure), (4, .pure), (6, .pure), (7, .pure), (8, .pure), (9, .pure), (12, .pure), (13, .pure), (14, .pure), (15, .pure), (16, .pure), (17, .turn), (18, .pure)] 19 [0, 1, 2, 3, 4, 5, 6, 7, 8, 9, 10, 11, 12, 13, 14, 15, 16, 17, 18] (by kernel_rfl) (by kernel_rfl) (by first | exact (fun _ h => absurd h List.not_mem_nil) | simp [SubS] | (intro p hp; simp [hp])) ?_; refine Jp (k := 0) rfl rfl rfl rfl rfl (fun _ hS => (Je rfl (J5 (k := 0) rfl) rfl rfl)) ?_; refine Jp (k := 1) rfl rfl rfl rfl rfl (fun _ hS => (Je rfl (J5 (k := 0) rfl) rfl rfl)) ?_; refine Jp (k := 2) rfl rfl rfl rfl rfl (fun _ hS => (J2 rfl rfl rfl)) ?_
 refine Jp (k := 3) rfl rfl rfl rfl rfl (fun _ hS => (JA rfl rfl rfl)) ?_
 refine Jp (k := 4) rfl rfl rfl rfl rfl (fun _ hS => (JA rfl rfl rfl)) ?_; refine KE (k := 5) rfl rfl rfl rfl rfl (Js (vs := [_]) rfl (kn 0 rfl) rfl rfl rfl rfl) ?_; refine Jp (k := 6) rfl rfl rfl rfl rfl (fun _ hS => (Je rfl (J5 (k := 0) rfl) rfl rfl)) ?_; refine Jp (k := 7) rfl rfl rfl rfl rfl (fun _ hS => (J2 rfl rfl rfl)) ?_
 refine Jp (k := 8) rfl rfl rfl rfl rfl (fun _ hS => (JA rfl rfl rfl)) ?_
 refine Jp (k := 9) rfl rfl rfl rfl rfl (fun _ hS => (JA rfl rfl rfl)) ?_; refine KE (k := 10) rfl rfl rfl rfl rfl (Je rfl (kn 0 rfl) rfl rfl) ?_; refine Qa (k := 11) rfl rfl rfl rfl rfl (enters_of Tryz.func71 (by kernel_rfl) rfl) (hA) (fun q hq => .inr hq) ?_; refine Jp (k := 12) rfl rfl rfl rfl rfl (fun _ hS => (Jf rfl)) ?_; refine Jp (k := 13) rfl rfl rfl rfl rfl (fun _ hS => (JY rfl rfl)) ?_; refine Jp (k := 14) rfl rfl rfl rfl rfl (fun _ hS => (JY rfl rfl)) ?_; refine Jp (k := 15) rfl rfl rfl rfl rfl (fun _ hS => (J2 rfl rfl rfl)) ?_
 refine Jp (k := 16) rfl rfl rfl rfl rfl (fun _ hS => (JA rfl rfl rfl)) ?_
 refine Ya (k := 17) (q := 0) rfl rfl rfl rfl rfl rfl rfl rfl rfl (by first | (simp only [List.setIfInBounds_toArray, List.set_cons_zero, List.set_cons_succ]; exact rfl) | exact rfl) (by first | (simp only [List.set_cons_zero, List.set_cons_succ]; exact rfl) | exact rfl) (by first | exact (fun _ h => absurd h List.not_mem_nil) | simp [SubS] | (intro p hp; simp [hp])) ?_; refine Jp (k := 18) rfl rfl rfl rfl rfl (fun _ hS => (JC rfl)) ?_; refine Kx ?_; refine Jx 9 rfl ?_; refine pT rfl rfl rfl fun w1 hs1 => ?_; exact ⟨(), rfl, hs1⟩
theorem Jwd {R : Jm} {g : GenL} (hg : g.In R) {s : StL} (hs : s.In R) (rp W : Nat) (f : Int) : PureT (α := StRes R (Q5 f s.er g.rc)) Tryz.prog 80 [Qh rp 0].toArray (fun x => .int .i64 x.err) [yP W g s.accts.length s.p f] (fun x => yP W g x.s.accts.length x.s.p f :: x.L) (rpB rp W :: R) := by
 have hw0 := Jvm f hs hg.rc
 refine Jbb Tryz.func80 rfl rfl fun w hR => ?_; refine JD ?_
 obtain ⟨x0⟩ := hw0.ne (fun p hp => hR p (List.mem_cons_of_mem _ hp))
 refine JK 6 rfl ?_
 refine JT [] [(0, .pure), (1, .pure), (2, .pure), (3, .pure), (5, .pure), (6, .pure), (7, .pure), (9, .pure), (10, .pure), (11, .pure), (12, .pure), (14, .grow (Qe x0 (fun x => x.val) (fun x => x.L))), (15, .pure), (16, .pure), (17, .pure), (18, .pure), (19, .pure), (20, .turn), (21, .pure)] 22 [0, 1, 2, 3, 4, 5, 6, 7, 8, 9, 10, 11, 12, 13, 14, 15, 16, 17, 18, 19, 20, 21] (by kernel_rfl) (by kernel_rfl) (by first | exact (fun _ h => absurd h List.not_mem_nil) | simp [SubS] | (intro p hp; simp [hp])) ?_; refine Jp (k := 0) rfl rfl rfl rfl rfl (fun _ hS => (Je rfl (J5 (k := 0) rfl) rfl rfl)) ?_; refine Jp (k := 1) rfl rfl rfl rfl rfl (fun _ hS => (Je rfl (J5 (k := 0) rfl) rfl rfl)) ?_; refine Jp (k := 2) rfl rfl rfl rfl rfl (fun _ hS => (J2 rfl rfl rfl)) ?_
 refine Jp (k := 3) rfl rfl rfl rfl rfl (fun _ hS => (JA rfl rfl rfl)) ?_; refine KE (k := 4) rfl rfl rfl rfl rfl (Je rfl (kn 0 rfl) rfl rfl) ?_; refine Jp (k := 5) rfl rfl rfl rfl rfl (fun _ hS => (Je rfl (J5 (k := 0) rfl) rfl rfl)) ?_; refine Jp (k := 6) rfl rfl rfl rfl rfl (fun _ hS => (J2 rfl rfl rfl)) ?_
 refine Jp (k := 7) rfl rfl rfl rfl rfl (fun _ hS => (JA rfl rfl rfl)) ?_; refine KE (k := 8) rfl rfl rfl rfl rfl (Js (vs := [_]) rfl (kn 0 rfl) rfl rfl rfl rfl) ?_; refine Jp (k := 9) rfl rfl rfl rfl rfl (fun _ hS => (Je rfl (J5 (k := 0) rfl) rfl rfl)) ?_; refine Jp (k := 10) rfl rfl rfl rfl rfl (fun _ hS => (J2 rfl rfl rfl)) ?_
 refine Jp (k := 11) rfl rfl rfl rfl rfl (fun _ hS => (JA rfl rfl rfl)) ?_
 refine Jp (k := 12) rfl rfl rfl rfl rfl (fun _ hS => (JA rfl rfl rfl)) ?_; refine KE (k := 13) rfl rfl rfl rfl rfl (Js (vs := [_, _, _, _, _, _, _, _, _, _, _, _, _, _, _, _, _]) rfl (kn 0 rfl) rfl rfl rfl rfl) ?_; refine KO (k := 14) rfl rfl rfl rfl rfl (enters_of Tryz.func81 (by kernel_rfl) rfl) hw0 (fun q hq => .inr (List.mem_cons_of_mem _ hq)) fun x => ?_; refine Jp (k := 15) rfl rfl rfl rfl rfl (fun _ hS => (Jf rfl)) ?_; refine Jp (k := 16) rfl rfl rfl rfl rfl (fun _ hS => (JY rfl rfl)) ?_; refine Jp (k := 17) rfl rfl rfl rfl rfl (fun _ hS => (JY rfl rfl)) ?_; refine Jp (k := 18) rfl rfl rfl rfl rfl (fun _ hS => (J2 rfl rfl rfl)) ?_
 refine Jp (k := 19) rfl rfl rfl rfl rfl (fun _ hS => (JA rfl rfl rfl)) ?_; refine zN (k := 20) (q := x.L.length) (n := 1) (off := 20) (vs := x.s.cells.toArray) (cs := (wkC g s.accts.length s.p f).toArray) (e := 70) (E' := x.L ++ [yP W g x.s.accts.length x.s.p f]) (cs' := (wkC g x.s.accts.length x.s.p f).toArray) rfl rfl rfl rfl List.getElem?_concat_length rfl rfl rfl rfl (by exact Nat.le_of_ble_eq_true rfl) rfl (by simp [yP]) (fun _ h => absurd h List.not_mem_nil) ?_; refine Jp (k := 21) rfl rfl rfl rfl rfl (fun _ hS => (JC rfl)) ?_; refine Kx ?_; refine Jx 9 rfl ?_; refine pT rfl rfl rfl fun w1 hs1 => ?_; exact ⟨x, rfl, hs1.perm (List.perm_append_comm)⟩
section
variable {c : Cx} {l : Kw} {E : Jm} {X : XP} {d : List Deferred} {ops : Array Oper} {rest : List Nat} {k i : Nat} {tb : ZU} {S : Jm} {T : Jm → Act → Prop}
theorem zS {α : Type} {T0 L0 Rl : Jm} {f : Operand} {args : Array Operand} {at_ : Array TypeId} {g : FuncId} {vs : List Value} {V : α → Value} {LL E' : α → Jm} {ty : TypeId} {ps : String} {af : Array Edge} {gd : Option (Nat × Bool)}
  (hp : E.Perm (T0 ++ L0)) (hE : ∀ x, (LL x ++ L0).Perm (E' x)) (hk : WJ ops.toList k = some ⟨some i, .call ⟨.value f, args, at_⟩, ty, ps, af, gd⟩) (hg : Kj l ops ⟨some i, .call ⟨.value f, args, at_⟩, ty, ps, af, gd⟩ = some true) (hi : Nat.ble (i + 1) c.n = true) (hA : tb k = .turn) (hca : Kq l f args = some (g, vs)) (eg : Enters c.P g)
  (hpt : PureT c.P g vs.toArray V T0 LL Rl) (hR : ∀ p ∈ Rl, known c L0 p.1 p.2) (hS : ∀ x, SubS S (E' x)) (h : ∀ x, HB c d ((i, V x) :: l) (E' x) X S ops tb rest T) : HB c d l E X S ops tb (k :: rest) T := fun a hf => by
 refine ⟨_, QG hk, ?_⟩; rw [hA]; refine .inl ⟨α, V, E', ⟨JL hf hg, fun w hs => ?_⟩, fun x => ⟨hS x, h x _ (hf.put (Nat.le_of_ble_eq_true hi))⟩⟩
 have hs := hs.perm hp
 obtain ⟨hd1, _, hd3⟩ := List.pairwise_append.1 hs.distinct
 refine Wu hf hca eg ((hpt.run w (fun p hp => (hs.own p (List.mem_append_left _ hp)).2.2) (fun p hp => ?_) hd1 (fun p hp q hq => ?_)).mono fun _ _ ⟨x, he, hk, h1, h2⟩ => ⟨V x, he, x, rfl, (hs.turnT hk h1 h2).perm (hE x)⟩)
 ·exact (hR p hp).elim (fun h => (hs.own _ (List.mem_append_right _ h)).2.2) hs.readR
 ·rcases hR p hp with h | h
  ·exact fun e => hd3 q hq _ h e.symm
  ·rintro e
   obtain ⟨h1, _, h3⟩ := hs.ext _ h
   have h3 := JB h3
   rcases (hs.own q (List.mem_append_left _ hq)).1 with h4 | h4
   ·exact h1 (e ▸ h4)
   ·simp only at h3 e; omega
theorem Jr2 {o : Oper} {v : Value} (hk : WJ ops.toList k = some o) (hg : Kj l ops o = some true) (hd : o.dst = some i) (hi : Nat.ble (i + 1) c.n = true) (hA : tb k = .turn) (hr : J9 c d l E X o v) (hS : SubS S E) (h : HB c d ((i, v) :: l) E X S ops tb rest T) : HB c d l E X S ops tb (k :: rest) T := fun a hf => by
 refine ⟨o, QG hk, ?_⟩; rw [hA]; refine .inl ⟨Unit, fun _ => v, fun _ => E, ⟨JL hf hg, fun w hs => X9 (hr a w hf hs) ⟨(), rfl, hs⟩⟩, fun _ => ⟨hS, ?_⟩⟩; rw [hd]; exact h _ (hf.put (Nat.le_of_ble_eq_true hi))
end
theorem Jr3 (xs : List AcL) : Nonempty { row : QD // rowOk 8 xs.length (xs.flatMap AcL.cells) row } := ⟨⟨some (0, xs.length, []), ⟨Kt AcL.len xs, by simp⟩⟩⟩
structure Step2R (g : GenL) : Type where
  ys : SortR g.accts
  row : QD
  ok : rowOk 8 ys.1.length (KA ys.1) row
def Step2R.st {g : GenL} (x : Step2R g) : StL := ⟨x.ys.1, Qo x.row⟩
def Step2R.L {g : GenL} (x : Step2R g) : Jm := JH 48 (KA x.ys.1) x.row
def yQ (ys : List AcL) : Int := if XV (XW ys) = true then 13 else KC (ys.map AcL.er)
theorem yv {R : Jm} {g : GenL} (hg : g.In R) (x : Step2R g) : x.st.In (x.L ++ R) :=
 ⟨by show x.ys.1.length ≤ YU; rw [x.ys.2.1.length_eq]; exact hg.st.len, (Km x.ok (by decide)).mono fun q hq => List.mem_append_left _ hq, fun a ha => (hg.st.accts a (x.ys.2.1.mem_iff.1 ha)).mono fun q hq => List.mem_append_right _ hq⟩
theorem Jwe {R : Jm} {g : GenL} (hg : g.In R) (hf : g.accts.length ≤ 1000) (rp W n : Nat) (p : Pl) (f : Int) : PureT (α := Step2R g) Tryz.prog 72 [Qh rp 0].toArray (fun x => .int .i64 (yQ x.ys.1)) [yP W g n p f] (fun x => yP W g x.ys.1.length (Qo x.row) f :: x.L) (rpB rp W :: R) := by
 have hseg : Seg (rpB rp W :: R) g.accts.length (KA g.accts) g.ap := hg.st.seg.mono fun q hq => List.mem_cons_of_mem _ hq
 have hg2 : g.In (rpB rp W :: R) := hg.mono fun q hq => List.mem_cons_of_mem _ hq
 have hb : g.accts.length ≤ 9223372036854775807 := by omega
 refine Jw Tryz.func72 rfl rfl fun w => ?_; refine JD ?_; refine JK 6 rfl ?_
 refine JT [] [(0, .pure), (1, .pure), (2, .pure), (3, .pure), (4, .pure), (5, .turn), (6, .grow (Qe (0 : Nat) (fun r => Value.func (.func 125) #[] #[.pointer (some ⟨r, 0, none⟩)]) (fun r => [Jbk r g.accts.length g.ap]))), (7, .turn), (8, .pure), (9, .pure), (10, .pure), (11, .turn)] 12 [0, 1, 2, 3, 4, 5, 6, 7, 8, 9, 10, 11] (by kernel_rfl) (by kernel_rfl) (by first | exact (fun _ h => absurd h List.not_mem_nil) | simp [SubS] | (intro p hp; simp [hp])) ?_; refine Jp (k := 0) rfl rfl rfl rfl rfl (fun _ hS => (Je rfl (J5 (k := 0) rfl) rfl rfl)) ?_; refine Jp (k := 1) rfl rfl rfl rfl rfl (fun _ hS => (Je rfl (J5 (k := 0) rfl) rfl rfl)) ?_; refine Jp (k := 2) rfl rfl rfl rfl rfl (fun _ hS => (J2 rfl rfl rfl)) ?_
 refine Jp (k := 3) rfl rfl rfl rfl rfl (fun _ hS => (JA rfl rfl rfl)) ?_
 refine Jp (k := 4) rfl rfl rfl rfl rfl (fun _ hS => (JA rfl rfl rfl)) ?_; refine Jr2 (k := 5) rfl rfl rfl rfl rfl (Je rfl (kn 0 rfl) rfl rfl) (fun _ h => absurd h List.not_mem_nil) ?_; refine WV (k := 6) rfl rfl rfl rfl rfl (enters_of Tryz.func74 (by kernel_rfl) rfl) (Jrx _ _) fun rv => ?_
 refine zS (k := 7) (α := { y : SortR g.accts × QD // rowOk 8 g.accts.length (KA y.1.1) y.2 }) (V := fun y => J8 g.accts.length y.1.2) (LL := fun y => JH 48 (KA y.1.1.1) y.1.2) (T0 := []) (L0 := [Jbk rv g.accts.length g.ap, yP W g n p f]) (Rl := Jbk rv g.accts.length g.ap :: rpB rp W :: R) (E' := fun x => yP W g n p f :: Jbk rv g.accts.length g.ap :: JH 48 (KA x.1.1.1) x.1.2) (List.Perm.refl _) (fun x => List.perm_append_comm.trans (List.Perm.swap _ _ _)) rfl rfl rfl rfl rfl (enters_of Tryz.func73 (by kernel_rfl) rfl) (Jma hf (enters_of Tryz.func125 (by kernel_rfl) rfl) (Jry hb hseg rv)) (fun q hq => by rcases List.mem_cons.1 hq with rfl | h; exact .inl (List.mem_cons_self ..); exact .inr h) (fun _ _ h => absurd h List.not_mem_nil) fun x => ?_
 obtain ⟨⟨ys, row⟩, hrow⟩ := x
 simp only at hrow ⊢
 have hyl := ys.2.1.length_eq
 rw [← hyl] at hrow; refine Ww (v' := KB ys.1.length (Qo row)) (by rw [← hyl]; exact (QZ _ _ (fun h => by subst h; exact hrow.1)).symm) ?_; refine Jp (k := 8) rfl rfl rfl rfl rfl (fun _ hS => (J2 rfl rfl rfl)) ?_
 refine Jp (k := 9) rfl rfl rfl rfl rfl (fun _ hS => (JA rfl rfl rfl)) ?_
 refine Jp (k := 10) rfl rfl rfl rfl rfl (fun _ hS => (JA rfl rfl rfl)) ?_; refine Ya (k := 11) (q := 0) (off := 20) (cs' := (wkC g ys.1.length (Qo row) f).toArray) rfl rfl rfl rfl rfl rfl rfl rfl rfl rfl rfl (fun _ h => absurd h List.not_mem_nil) ?_; refine Kx ?_; refine JI 9 rfl ?_
 obtain ⟨x0⟩ := Jr3 ys.1
 have hyl2 : ys.1.length ≤ 1000 := by omega
 have hsy : Seg (JH 48 (KA ys.1) row) ys.1.length (ys.1.flatMap AcL.cells) (Qo row) := Km hrow (by decide)
 refine JT (yP W g ys.1.length (Qo row) f :: JH 48 (KA ys.1) row) [(0, .pure), (1, .pure), (2, .pure), (3, .pure), (4, .pure), (5, .grow (Qe x0 (fun x => J8 ys.1.length x.1) (fun x => JH 48 (ys.1.flatMap AcL.cells) x.1))), (6, .pure), (7, .turn), (8, .pure), (9, .pure), (10, .pure), (11, .pure), (12, .pure), (13, .pure), (14, .pure), (15, .pure)] 16 [0, 1, 2, 3, 4, 6, 9, 10, 11, 12, 13, 14, 5, 7, 8, 15] (by kernel_rfl) (by kernel_rfl) (fun q hq => by rcases List.mem_cons.1 hq with rfl | h; exact List.mem_cons_self ..; exact List.mem_cons_of_mem _ (List.mem_cons_of_mem _ h)) ?_; refine Jp (k := 0) rfl rfl rfl rfl rfl (fun _ hS => (Je rfl (J5 (k := 0) rfl) rfl rfl)) ?_; refine Jp (k := 1) rfl rfl rfl rfl rfl (fun _ hS => (J2 rfl rfl rfl)) ?_
 refine Jp (k := 2) rfl rfl rfl rfl rfl (fun _ hS => (JA rfl rfl rfl)) ?_
 refine Jp (k := 3) rfl rfl rfl rfl rfl (fun _ hS => (JA rfl rfl rfl)) ?_; refine Jp (k := 4) rfl rfl rfl rfl rfl (fun _ hS => (Je rfl (.inl (hS _ (Ju (n := 0) rfl))) rfl rfl)) ?_; refine Jp (k := 6) rfl rfl rfl rfl rfl (fun _ hS => (Jf rfl)) ?_; refine Jp (k := 9) rfl rfl rfl rfl rfl (fun _ hS => (Je rfl (J5 (k := 0) rfl) rfl rfl)) ?_; refine Jp (k := 10) rfl rfl rfl rfl rfl (fun _ hS => (J2 rfl rfl rfl)) ?_
 refine Jp (k := 11) rfl rfl rfl rfl rfl (fun _ hS => (JA rfl rfl rfl)) ?_
 refine Jp (k := 12) rfl rfl rfl rfl rfl (fun _ hS => (JA rfl rfl rfl)) ?_; refine Jp (k := 13) rfl rfl rfl rfl rfl (fun _ hS => (Je rfl (.inl (hS _ (Ju (n := 0) rfl))) rfl rfl)) ?_; refine Jp (k := 14) rfl rfl rfl rfl rfl (fun _ hS => (Ka rfl rfl)) ?_; refine KO (k := 5) rfl rfl rfl rfl rfl (enters_of Tryz.func79 (by kernel_rfl) rfl) (Jek hyl2 hsy) (fun q hq => .inl (List.mem_cons_of_mem _ hq)) fun x2 => ?_
 obtain ⟨row2, hrow2⟩ := x2
 refine zS (k := 7) (α := CompR ys.1) (V := fun q => q.val) (LL := fun _ => []) (T0 := JH 48 (KA ys.1) row2) (Rl := []) (L0 := yP W g ys.1.length (Qo row) f :: Jbk rv g.accts.length g.ap :: JH 48 (KA ys.1) row) (E' := fun _ => yP W g ys.1.length (Qo row) f :: Jbk rv g.accts.length g.ap :: JH 48 (KA ys.1) row) (List.Perm.refl _) (fun x => List.Perm.refl _) rfl rfl rfl rfl rfl (enters_of Tryz.func78 (by kernel_rfl) rfl) (Jl8 hyl2 hrow2 (enters_of Tryz.func77 (by kernel_rfl) rfl) Jv7) oN (fun _ => (fun q hq => by rcases List.mem_cons.1 hq with rfl | h; exact List.mem_cons_self ..; exact List.mem_cons_of_mem _ (List.mem_cons_of_mem _ h))) fun qq => ?_; refine Jp (k := 8) rfl rfl rfl rfl rfl (fun _ hS => (Ka rfl rfl)) ?_; refine Jp (k := 15) rfl rfl rfl rfl rfl (fun _ hS => (J2 rfl rfl rfl)) ?_; refine Kx ?_; refine JI 2 rfl ?_; refine cD (fun h6 => ?_) fun h6 => ?_
 refine Kh 7 rfl ?_; refine pT rfl rfl rfl fun w1 hs1 => ?_
 (have ha : XV (XW ys.1) = true := qq.2.1.1 (by omega)
  exact ⟨⟨ys, row, hrow⟩, by rw [yQ, if_pos ha]; rfl, hs1.weakL (.cons₂ _ (.cons _ (List.Sublist.refl _)))⟩)
 ·refine JK 3 rfl ?_
  have hst := yv hg2 ⟨ys, row, hrow⟩
  refine Jq 1 rfl ?_; refine LR rfl (Je rfl (J5 (k := 0) rfl) rfl rfl) ?_; refine Xf 3 [0] rfl rfl ?_; refine Ji rfl rfl rfl Jtx (Zv hst) (fun q hq => (List.mem_append.1 hq).elim (fun h => .inl (List.mem_cons_of_mem _ (List.mem_cons_of_mem _ h))) .inr) ?_; refine Jx 4 rfl ?_; refine pT rfl rfl rfl fun w1 hs1 => ?_
  (have ha : ¬ XV (XW ys.1) = true := fun ha => by
    have := qq.2.1.2 ha
    omega
   exact ⟨⟨ys, row, hrow⟩, by rw [yQ, if_neg ha]; rfl, hs1.weakL (.cons₂ _ (.cons _ (List.Sublist.refl _)))⟩)
def yR (x y : AcE) : Bool := !Op.bytesLess y.addr x.addr
def Vb (l : List AcE) : List AcE := l.mergeSort yR
theorem q8 (x y z : AcE) (h1 : yR x y = true) (h2 : yR y z = true) : yR x z = true := by
 simp only [yR, Bool.not_eq_true'] at h1 h2 ⊢
 rcases Xk x.addr z.addr with e | e | e
 ·rw [e]; exact Vy _
 ·exact Wo e
 ·rcases Xk x.addr y.addr with f | f | f
  ·rw [f] at e; rw [e] at h2; cases h2
  ·have := QA e f; rw [this] at h2; cases h2
  ·rw [f] at h1; cases h1
theorem zT (x y : AcE) : (yR x y || yR y x) = true := by
 simp only [yR]
 rcases Xk x.addr y.addr with e | e | e
 ·rw [e, Vy]; rfl
 ·rw [Wo e]; rfl
 ·rw [Wo e]; simp
theorem yw {x y : AcE} (h1 : yR x y = true) (h2 : yR y x = true) : x.addr = y.addr := by
 simp only [yR, Bool.not_eq_true'] at h1 h2
 rcases Xk x.addr y.addr with e | e | e
 ·exact e
 ·rw [e] at h2; cases h2
 ·rw [e] at h1; cases h1
theorem SortR.pair {xs : List AcL} (ys : SortR xs) : (ys.1.map AcL.er).Pairwise fun x y => yR x y = true := by
 rw [List.pairwise_map]
 rw [List.pairwise_iff_getElem]
 intro i j hi hj hij
 simp only [yR, Bool.not_eq_true']
 exact ys.2.2 i j _ _ hij (List.getElem?_eq_getElem hi) (List.getElem?_eq_getElem hj)
theorem Jj3 {l : List AcE} (hn : (l.map AcE.addr).Nodup) {x y : AcE} (hx : x ∈ l) (hy : y ∈ l) (h : x.addr = y.addr) : x = y := by
 induction l with
 | nil => cases hx
 | cons a l ih =>
  rw [List.map_cons, List.nodup_cons] at hn
  rcases List.mem_cons.1 hx with rfl | hx2
  ·rcases List.mem_cons.1 hy with rfl | hy2
   ·rfl
   ·exact absurd (h ▸ List.mem_map_of_mem hy2) hn.1
  ·rcases List.mem_cons.1 hy with rfl | hy2
   ·exact absurd (h ▸ List.mem_map_of_mem hx2) hn.1
   ·exact ih hn.2 hx2 hy2
theorem SortR.uniq {xs : List AcL} (ys : SortR xs) (hn : ((xs.map AcL.er).map AcE.addr).Nodup) : ys.1.map AcL.er = Vb (xs.map AcL.er) := by
 have hp : (ys.1.map AcL.er).Perm (xs.map AcL.er) := ys.2.1.map _
 have hp2 : (Vb (xs.map AcL.er)).Perm (xs.map AcL.er) := List.mergeSort_perm _ _
 have hs2 : (Vb (xs.map AcL.er)).Pairwise fun x y => yR x y = true := List.pairwise_mergeSort q8 zT _
 exact List.Perm.eq_of_pairwise (fun x y hx hy h1 h2 => Jj3 hn (hp.mem_iff.1 hx) (hp2.mem_iff.1 hy) (yw h1 h2)) ys.pair hs2 (hp.trans hp2.symm)
theorem q9 : ∀ {l : List AcE}, l.Pairwise (fun x y => yR x y = true) → (XV (l.map AcE.addr) = true ↔ ¬ (l.map AcE.addr).Nodup)
 | [], _ => by simp [XV]
 | [x], _ => by simp [XV]
 | x :: y :: l, h => by
  have ih := q9 (List.pairwise_cons.1 h).2
  have e : XV ((x :: y :: l).map AcE.addr) = (decide (x.addr = y.addr) || XV ((y :: l).map AcE.addr)) := rfl
  rw [e, Bool.or_eq_true, decide_eq_true_eq, ih]
  have e2 : ((x :: y :: l).map AcE.addr).Nodup ↔ x.addr ∉ (y :: l).map AcE.addr ∧ ((y :: l).map AcE.addr).Nodup := List.nodup_cons
  rw [e2]
  constructor
  ·rintro (h1 | h1) ⟨h2, h3⟩
   ·exact h2 (by rw [h1]; exact List.mem_map_of_mem (List.mem_cons_self ..))
   ·exact h1 h3
  ·intro h1
   by_cases h2 : ((y :: l).map AcE.addr).Nodup
   ·left
    by_cases h3 : x.addr ∈ (y :: l).map AcE.addr
    ·obtain ⟨z, hz, hzx⟩ := List.mem_map.1 h3
     have hxy := (List.pairwise_cons.1 h).1 y (List.mem_cons_self ..)
     rcases List.mem_cons.1 hz with rfl | hz
     ·exact hzx.symm
     ·have hyz := (List.pairwise_cons.1 (List.pairwise_cons.1 h).2).1 z hz
      refine yw hxy ?_
      simp only [yR] at hyz ⊢
      rw [← hzx]; exact hyz
    ·exact absurd ⟨h3, h2⟩ h1
   ·exact .inr h2
def Vc (l : List AcE) : Int := if (l.map AcE.addr).Nodup then KC (Vb l) else 13
theorem jQ {xs : List AcL} (ys : SortR xs) : yQ ys.1 = Vc (xs.map AcL.er) := by
 have ha : XW ys.1 = (ys.1.map AcL.er).map AcE.addr := by simp [XW, AcL.er]
 have hp : ((ys.1.map AcL.er).map AcE.addr).Perm ((xs.map AcL.er).map AcE.addr) := (ys.2.1.map _).map _
 have h := q9 ys.pair
 rw [← ha] at h
 unfold yQ Vc
 by_cases hn : ((xs.map AcL.er).map AcE.addr).Nodup
 ·have : ¬ XV (XW ys.1) = true := fun h2 => h.1 h2 (ha ▸ hp.nodup_iff.2 hn)
  rw [if_neg this, if_pos hn, ys.uniq hn]
 ·rw [if_neg hn, if_pos (h.2 fun h2 => hn (hp.nodup_iff.1 (ha ▸ h2)))]
def Vv (ts : List Nat) (t : Nat) (rc : Rec) (l : List AcE) : List AcE × Int × Int :=
 if (Qq ts t).2 ≠ 0 then ([], 0, (Qq ts t).2) else if Vc l ≠ 0 then ([], 0, Vc l) else
  if (Q5 (Qq ts t).1 (Vb l) rc).2 ≠ 0 then ([], 0, (Q5 (Qq ts t).1 (Vb l) rc).2) else ((Q5 (Qq ts t).1 (Vb l) rc).1, (Qq ts t).1, 0)
structure BldR (R : Jm) (e : List AcE × Int × Int) : Type where
  s : StL
  f : Int
  err : Int
  L : Jm
  ok : s.In (L ++ R)
  eq : (s.er, f, err) = e
def BldR.val {R : Jm} {e : List AcE × Int × Int} (x : BldR R e) : Value := .tuple #[x.s.val, .int .i64 x.f, .int .i64 x.err]
structure BSt : Type where
  i : Nat
  n : Nat
  p : Pl
  f : Int
  L : Jm
def BSt.ok (R : Jm) (g : GenL) (b : BSt) : Prop :=
 (b.i = 0 ∧ b.n = 0 ∧ b.p = none ∧ b.f = 0 ∧ b.L = []) ∨
 (b.i = 1 ∧ b.n = 0 ∧ b.p = none ∧ b.f = (Qq g.ts g.time).1 ∧ (Qq g.ts g.time).2 = 0 ∧ b.L = []) ∨
 (b.i = 2 ∧ b.f = (Qq g.ts g.time).1 ∧ (Qq g.ts g.time).2 = 0 ∧ ∃ x : Step2R g, yQ x.ys.1 = 0 ∧ b.n = x.ys.1.length ∧ b.p = Qo x.row ∧ b.L = x.L) ∨
 (b.i = 3 ∧ b.f = (Qq g.ts g.time).1 ∧ (Qq g.ts g.time).2 = 0 ∧ Vc (g.accts.map AcL.er) = 0 ∧ ∃ s : StL, s.In (b.L ++ R) ∧ b.n = s.accts.length ∧ b.p = s.p ∧ (s.er, (0 : Int)) = Q5 b.f (Vb (g.accts.map AcL.er)) g.rc)
theorem Jzd {ts : List Nat} {t : Nat} {rc : Rec} {l : List AcE} (h : (Qq ts t).2 ≠ 0) : Vv ts t rc l = ([], 0, (Qq ts t).2) := by unfold Vv; rw [if_pos h]
theorem Jg0 {ts : List Nat} {t : Nat} {rc : Rec} {l : List AcE} (h : (Qq ts t).2 = 0) (h2 : Vc l ≠ 0) : Vv ts t rc l = ([], 0, Vc l) := by unfold Vv; rw [if_neg (by simpa using h), if_pos h2]
theorem Jbl {ts : List Nat} {t : Nat} {rc : Rec} {l : List AcE} (h : (Qq ts t).2 = 0) (h2 : Vc l = 0) : Vv ts t rc l = if (Q5 (Qq ts t).1 (Vb l) rc).2 ≠ 0 then ([], 0, (Q5 (Qq ts t).1 (Vb l) rc).2) else ((Q5 (Qq ts t).1 (Vb l) rc).1, (Qq ts t).1, 0) := by
 unfold Vv; rw [if_neg (by simpa using h), if_neg (by simpa using h2)]
structure BStep (R : Jm) (g : GenL) (b : BSt) : Type where
  n : Nat
  p : Pl
  f : Int
  err : Int
  L : Jm
  ok : err = 0 → BSt.ok R g ⟨b.i + 1, n, p, f, L ++ b.L⟩
  bad : err ≠ 0 → Vv g.ts g.time g.rc g.ac = ([], 0, err)
def fnN (i : Nat) : FuncId := if i = 0 then 70 else if i = 1 then 72 else 80
theorem Jg1 (i : Nat) : Enters Tryz.prog (fnN i) := by
 unfold fnN
 split
 ·exact enters_of Tryz.func70 (by kernel_rfl) rfl
 ·split
  ·exact enters_of Tryz.func72 (by kernel_rfl) rfl
  ·exact enters_of Tryz.func80 (by kernel_rfl) rfl
theorem Jr4 {l : List AcE} (h : Vc l = 0) : (l.map AcE.addr).Nodup := by
 unfold Vc at h
 split at h
 ·assumption
 ·cases h
theorem Jwf {R : Jm} {g : GenL} (hg : g.In R) (hf : g.accts.length ≤ 1000) {b : BSt} (hb : b.ok R g) (hi : b.i < 3) (rp W : Nat) :
  PureT (α := BStep R g b) Tryz.prog (fnN b.i) [Qh rp 0].toArray (fun y => .int .i64 y.err) [yP W g b.n b.p b.f] (fun y => yP W g y.n y.p y.f :: y.L) (rpB rp W :: (b.L ++ R)) := by
 obtain ⟨i, n, p, f, L⟩ := b
 rcases hb with ⟨h1, h2, h3, h4, h5⟩ | ⟨h1, h2, h3, h4, h5, h6⟩ | ⟨h1, h2, h3, x, h4, h5, h6, h7⟩ | ⟨h1, _⟩
 ·simp only at h1 h2 h3 h4 h5
  subst h1 h2 h3 h4 h5; exact (Jwc hg rp W 0 none 0).map (fun _ => ⟨0, none, (Qq g.ts g.time).1, (Qq g.ts g.time).2, [], fun h => .inr (.inl ⟨rfl, rfl, rfl, rfl, h, rfl⟩), fun h => by unfold Vv; rw [if_pos h]⟩) (fun _ => rfl) fun _ => List.Sublist.refl _
 ·simp only at h1 h2 h3 h4 h6
  subst h1 h2 h3 h4 h6
  exact (Jwe hg hf rp W 0 none _).map (fun x => ⟨x.ys.1.length, Qo x.row, (Qq g.ts g.time).1, yQ x.ys.1, x.L, fun h => .inr (.inr (.inl ⟨rfl, rfl, h5, x, h, rfl, rfl, List.append_nil _⟩)), fun h => by
   have h2 : Vc g.ac ≠ 0 := by rw [jQ] at h; exact h
   rw [jQ]; exact Jg0 h5 h2⟩) (fun _ => rfl) fun _ => List.Sublist.refl _
 ·simp only at h1 h2 h5 h6 h7
  subst h1 h2 h5 h6 h7
  have he : Vc g.ac = 0 := by rw [← h4, jQ]; rfl
  have hs : x.st.er = Vb g.ac := x.ys.uniq (Jr4 he)
  have hq : Q5 (Qq g.ts g.time).1 x.st.er g.rc = Q5 (Qq g.ts g.time).1 (Vb g.ac) g.rc := by rw [hs]
  exact (Jwd (hg.mono fun q hq => List.mem_append_right _ hq) (yv hg x) rp W _).map (fun y => ⟨y.s.accts.length, y.s.p, (Qq g.ts g.time).1, y.err, y.L, fun h => .inr (.inr (.inr ⟨rfl, rfl, h3, he, y.s, by
    show y.s.In (y.L ++ x.L ++ R)
    rw [List.append_assoc]; exact y.ok, rfl, rfl, by
    have e := y.eq.trans hq
    rw [h] at e; exact e⟩)), fun h => by
   have e := y.eq.trans hq
   rw [Jbl h3 he, ← e, if_pos h]⟩) (fun _ => rfl) fun _ => List.Sublist.refl _
 ·simp only at h1 hi; omega
def Jr5 (rq rp : Nat) : Nat × Obj := (rq, .cells #[.func (.func 70) #[] #[Qh rp 0], .func (.func 72) #[] #[Qh rp 0], .func (.func 80) #[] #[Qh rp 0]] 73 (0, 0))
theorem Y9 {R : Jm} {g : GenL} (hg : g.In R) (hf : g.accts.length ≤ 1000) : PureT (α := BldR R (Vv g.ts g.time g.rc g.ac)) Tryz.prog 11 [g.val].toArray (fun x => x.val) [] (fun x => x.L) R := by
 refine Jw Tryz.func11 rfl rfl fun w => ?_; refine JD ?_; refine Jq 2 rfl ?_; refine JR (cs := g.cells.toArray) rfl rfl rfl rfl fun r1 => ?_; refine LN rfl fun r2 => ?_; refine JJ 6 rfl ?_; refine LR rfl (Jd (xs := g.cells) (n := 20) rfl (kn 1 rfl) rfl rfl rfl) ?_; refine LR rfl (Jt (r := [_, _, _, _, _, _, _, _, _, _, _, _, _, _, _, _, _, _, _, _, _, _]) rfl rfl) ?_; refine JR (cs := (wkC g 0 none 0).toArray) rfl rfl rfl rfl fun W => ?_; refine JJ 7 rfl ?_; refine JZ rfl rfl rfl (enters_of Tryz.func30 (by kernel_rfl) rfl) (Jv8 W) fun pp => ?_
 obtain ⟨rp, rq⟩ := pp
 change HL _ _ _ (Jr5 rq rp :: rpB rp W :: yP W g 0 none 0 :: (r2, _) :: (r1, _) :: []) _ _ _ _; refine LR rfl (Ka rfl rfl) ?_; refine JI 4 rfl ?_; refine Jy (σ := BSt) (fun b => b.ok R g ∧ b.i ≤ 3) (fun b => [(2, Qh r2 0), (3, .int .i64 0), (4, .int .i64 0), (5, Qh W 0), (13, .slice (some ⟨rq, 0, none⟩) 3 3), (14, .int .i64 3), (15, .int .i64 (b.i : Int))]) (fun b => Jr5 rq rp :: rpB rp W :: yP W g b.n b.p b.f :: (r2, .cells #[KB 0 none] 36 (0, 0)) :: (r1, .cells g.cells.toArray 32 (0, 0)) :: b.L) (fun _ _ _ => True) (fun b => 3 - b.i) ⟨0, 0, none, 0, []⟩ ⟨.inl ⟨rfl, rfl, rfl, rfl, rfl⟩, Nat.zero_le _⟩ (lK rfl) (List.Sublist.refl _) (fun _ _ h => h) ?_; rintro b ⟨hok, hi1⟩; refine JK 6 rfl ?_; refine cD (fun h7 => ?_) fun h7 => ?_
 ·refine JK 5 rfl ?_
  have hb3 : b.i < 3 := by omega
  have hi3 : b.i = 0 ∨ b.i = 1 ∨ b.i = 2 := by omega
  refine Jq 1 rfl ?_; refine LR rfl (JF (j := b.i) (m := 1) (off' := b.i) rfl rfl rfl rfl rfl hb3 (by omega)) ?_
  refine LR rfl (Je (v := .func (.func (fnN b.i)) #[] #[Qh rp 0]) rfl (kn 0 rfl) rfl (by rcases hi3 with h | h | h <;> rw [h] <;> rfl)) ?_; refine JJ 6 rfl ?_; refine Qw (T := [yP W g b.n b.p b.f]) (L0 := Jr5 rq rp :: rpB rp W :: (r2, _) :: (r1, _) :: b.L) (Rl := rpB rp W :: (b.L ++ R)) (List.perm_middle (l₁ := [_, _])) rfl rfl rfl (Jg1 b.i) (Jwf hg hf hok hb3 rp W) (fun q hq => (List.mem_cons.1 hq).elim (fun h => .inl (by rw [h]; exact List.mem_cons_of_mem _ List.mem_cons_self)) fun hq => (List.mem_append.1 hq).elim (fun h => .inl (List.mem_cons_of_mem _ (List.mem_cons_of_mem _ (List.mem_cons_of_mem _ (List.mem_cons_of_mem _ h))))) .inr) fun y => ?_; refine Kk (((Qz y.L [_, _, _, _] b.L).cons _).trans (List.perm_middle (l₁ := [_, _])).symm) ?_; change HL _ _ _ (Jr5 rq rp :: rpB rp W :: yP W g y.n y.p y.f :: (r2, _) :: (r1, _) :: (y.L ++ b.L)) _ _ _ _; refine JI 9 rfl ?_; refine cD (fun h12 => ?_) fun h12 => ?_
  refine Jq 2 rfl ?_; refine LR rfl (Jt (r := [_]) rfl rfl) ?_; refine Q1 rfl ?_
  refine LT 3 rfl rfl ?_; refine Jx 10 rfl ?_; refine Jg rfl rfl (.cons (Jr (vs := [_]) rfl (kn 3 rfl) rfl rfl) (.cons (Jj rfl) (.cons (Jj rfl) .nil))) (fun w1 hs1 => ?_)
  (have hbad := y.bad (by omega)
   exact ⟨⟨st0L, 0, y.err, [], qn, hbad.symm⟩, rfl, hs1.weakL (List.nil_sublist _)⟩)
  refine Jq 5 rfl ?_; refine Jc (by omega) (by omega) ?_; refine Jx 2 rfl ?_; refine Jv ?_; exact Jo ⟨b.i + 1, y.n, y.p, y.f, y.L ++ b.L⟩ ⟨y.ok (by omega), by show b.i + 1 ≤ 3; omega⟩ (by show 3 - (b.i + 1) < 3 - b.i; omega) (lK rfl) (List.Sublist.refl _) (fun _ _ h => h)
 ·refine JK 6 rfl ?_; refine JT [yP W g b.n b.p b.f] [(0, .pure), (1, .pure), (2, .pure), (3, .pure), (4, .pure), (5, .pure), (6, .pure), (7, .pure), (8, .turn), (9, .pure), (10, .pure)] 11 [0, 1, 2, 3, 4, 5, 6, 7, 8, 9, 10] (by kernel_rfl) (by kernel_rfl) (fun q hq => by rw [List.mem_singleton.1 hq]; exact List.mem_cons_of_mem _ (List.mem_cons_of_mem _ List.mem_cons_self)) ?_; refine Jp (k := 0) rfl rfl rfl rfl rfl (fun _ hS => (Jf rfl)) ?_; refine Jp (k := 1) rfl rfl rfl rfl rfl (fun _ hS => (J2 rfl rfl rfl)) ?_
  refine Jp (k := 2) rfl rfl rfl rfl rfl (fun _ hS => (JA rfl rfl rfl)) ?_; refine Jp (k := 3) rfl rfl rfl rfl rfl (fun _ hS => (Js (vs := [_]) rfl (.inl (hS _ (Ju (n := 0) rfl))) rfl rfl rfl rfl)) ?_; refine Jp (k := 4) rfl rfl rfl rfl rfl (fun _ hS => (Jf rfl)) ?_; refine Jp (k := 5) rfl rfl rfl rfl rfl (fun _ hS => (J2 rfl rfl rfl)) ?_
  refine Jp (k := 6) rfl rfl rfl rfl rfl (fun _ hS => (JA rfl rfl rfl)) ?_; refine Jp (k := 7) rfl rfl rfl rfl rfl (fun _ hS => (Je rfl (.inl (hS _ (Ju (n := 0) rfl))) rfl rfl)) ?_; refine zN (k := 8) (q := 3) (n := 1) (off := 0) (vs := #[KB b.n b.p]) (E' := Jr5 rq rp :: rpB rp W :: yP W g b.n b.p b.f :: (r2, _) :: (r1, _) :: b.L) (cs' := #[KB b.n b.p]) rfl rfl rfl rfl rfl rfl rfl rfl rfl (by exact Nat.le_of_ble_eq_true rfl) rfl rfl (fun q hq => by rw [List.mem_singleton.1 hq]; exact List.mem_cons_of_mem _ (List.mem_cons_of_mem _ List.mem_cons_self)) ?_; refine Jp (k := 9) rfl rfl rfl rfl rfl (fun _ hS => (JC rfl)) ?_; refine Jp (k := 10) rfl rfl rfl rfl rfl (fun _ hS => (JC rfl)) ?_; refine Kx ?_; refine Jx 3 rfl ?_; refine Jg rfl rfl (.cons (Jr (vs := [_]) rfl (kn 3 rfl) rfl rfl) (.cons (Jj rfl) (.cons (Jj rfl) .nil))) (fun w1 hs1 => ?_)
  (rcases hok with ⟨h1, _⟩ | ⟨h1, _⟩ | ⟨h1, _⟩ | ⟨h1, h2, h3, h4, s, h5, h6, h7, h8⟩
   omega
   omega
   omega
   ·refine ⟨⟨s, b.f, 0, b.L, h5, ?_⟩, ?_, hs1.weakL (List.sublist_append_right [_, _, _, _, _] _)⟩
    have h9 : (s.er, (0 : Int)) = Q5 b.f (Vb g.ac) g.rc := h8
    have h10 : Vc g.ac = 0 := h4
    rw [Jbl h3 h10, ← h2, ← h9, if_neg (by simp)]
    ·rw [h6, h7]; rfl)
def jR (x : AcL) : Bool → List AcL → List AcL
 | p, [] => if p then [] else [x]
 | p, y :: ys => (if !p && Op.bytesLess x.addr y.addr then [x] else []) ++ [y] ++ jR x (p || Op.bytesLess x.addr y.addr) ys
theorem Zz (x y : AcL) (p : Bool) (ys : List AcL) : jR x p (y :: ys) = (if !p && Op.bytesLess x.addr y.addr then [x] else []) ++ [y] ++ jR x (p || Op.bytesLess x.addr y.addr) ys := rfl
theorem zU {x y : AcL} {res acc ys : List AcL} {p : Bool} (h : res = acc ++ jR x p (y :: ys)) :
  (p = false → Op.bytesLess x.addr y.addr = true → res = acc ++ [x] ++ [y] ++ jR x true ys) ∧ (p = true ∨ Op.bytesLess x.addr y.addr = false → res = acc ++ [y] ++ jR x p ys) := by
 rw [h, Zz]
 refine ⟨fun h1 h2 => ?_, fun h1 => ?_⟩
 ·subst h1; rw [h2]; simp
 ·rcases h1 with h1 | h1
  ·subst h1; simp
  ·rw [h1]; simp
theorem qA (x : AcL) : ∀ l, jR x true l = l
 | [] => rfl
 | y :: ys => by rw [Zz]; simp [qA x ys]
theorem Yn (x : AcL) : ∀ l, (jR x false l).Perm (x :: l)
 | [] => List.Perm.refl _
 | y :: ys => by
  rw [Zz]
  by_cases h : Op.bytesLess x.addr y.addr = true
  ·rw [h]; simp [qA]
  ·rw [Bool.not_eq_true] at h
   rw [h]
   simp only [Bool.not_false, Bool.true_and, Bool.false_eq_true, if_false, List.nil_append, Bool.or_self, List.singleton_append]
   exact ((Yn x ys).cons y).trans (List.Perm.swap x y ys)
abbrev leL (a b : AcL) : Prop := Op.bytesLess b.addr a.addr = false
theorem Jmb {a b c : AcL} (h1 : leL a b) (h2 : leL b c) : leL a c := by
 have := q8 a.er b.er c.er (by simp only [yR]; rw [show b.er.addr = b.addr from rfl, show a.er.addr = a.addr from rfl, h1]; rfl) (by simp only [yR]; rw [show c.er.addr = c.addr from rfl, show b.er.addr = b.addr from rfl, h2]; rfl)
 simpa [yR, AcL.er] using this
theorem zV (x : AcL) : ∀ l : List AcL, l.Pairwise leL → (jR x false l).Pairwise leL
 | [], _ => List.pairwise_singleton _ _
 | y :: ys, h => by
  rw [Zz]
  obtain ⟨h1, h2⟩ := List.pairwise_cons.1 h
  by_cases hx : Op.bytesLess x.addr y.addr = true
  ·rw [hx]
   simp only [Bool.not_false, Bool.true_and, if_true, Bool.or_true, qA, List.singleton_append]
   refine List.pairwise_cons.2 ⟨fun z hz => ?_, h⟩
   have hxy : leL x y := Wo hx
   rcases List.mem_cons.1 hz with rfl | hz
   ·exact hxy
   ·exact Jmb hxy (h1 z hz)
  ·rw [Bool.not_eq_true] at hx
   rw [hx]
   simp only [Bool.not_false, Bool.true_and, Bool.false_eq_true, if_false, List.nil_append, Bool.or_self, List.singleton_append]
   refine List.pairwise_cons.2 ⟨fun z hz => ?_, zV x ys h2⟩
   rcases List.mem_cons.1 ((Yn x ys).mem_iff.1 hz) with rfl | hz
   ·exact hx
   ·exact h1 z hz
def jS (out l : List AcL) : List AcL := l.foldl (fun o x => jR x false o) out
theorem Z0 (out : List AcL) (x : AcL) (l : List AcL) : jS out (x :: l) = jS (jR x false out) l := rfl
theorem zX : ∀ (l out : List AcL), (jS out l).Perm (out ++ l)
 | [], out => by rw [List.append_nil]; exact List.Perm.refl _
 | x :: l, out => by
  rw [Z0]
  refine (zX l _).trans (((Yn x out).append_right l).trans ?_)
  exact List.perm_middle.symm
theorem zY : ∀ (l out : List AcL), out.Pairwise leL → (jS out l).Pairwise leL
 | [], _, h => h
 | x :: l, out, h => by rw [Z0]; exact zY l _ (zV x out h)
def J2d (xs : List AcL) : SortR xs := ⟨jS [] xs, zX xs [], fun i j x y hij hx hy => by
 obtain ⟨hi, rfl⟩ := List.getElem?_eq_some_iff.1 hx
 obtain ⟨hj, rfl⟩ := List.getElem?_eq_some_iff.1 hy
 exact List.pairwise_iff_getElem.1 (zY xs [] List.Pairwise.nil) i j hi hj hij⟩
structure GenOk (ts : List Nat) (t : Nat) (rc : Rec) (l s : List AcE) (f : Int) : Prop where
  act : Qq ts t = (f, 0)
  nd : (l.map AcE.addr).Nodup
  chk : KC (Vb l) = 0
  wr : Q5 f (Vb l) rc = (s, 0)
theorem Jze {ts : List Nat} {t : Nat} {rc : Rec} {l s : List AcE} {f : Int} (h : Vv ts t rc l = (s, f, 0)) : GenOk ts t rc l s f := by
 unfold Vv at h
 split at h
 ·rename_i h1; exact absurd (Prod.mk.inj (Prod.mk.inj h).2).2 h1
 rename_i h1
 split at h
 ·rename_i h2; exact absurd (Prod.mk.inj (Prod.mk.inj h).2).2 h2
 rename_i h2
 split at h
 ·rename_i h3; exact absurd (Prod.mk.inj (Prod.mk.inj h).2).2 h3
 rename_i h3
 have h1 := Decidable.not_not.1 h1
 have h2 := Decidable.not_not.1 h2
 have h3 := Decidable.not_not.1 h3
 obtain ⟨e1, e2⟩ := Prod.mk.inj h
 have e2 := (Prod.mk.inj e2).1
 unfold Vc at h2
 split at h2
 ·rename_i hn
  exact ⟨by rw [← e2, ← h1], hn, h2, by rw [← e1, ← e2, ← h3]⟩
 ·cases h2
structure Ov (f : Int) (s t : List AcE) : Prop where
  kept : Kept s t
  fee : ¬ (KG f 1).2 = true → KP t A1 = KP s A1
theorem yx {f g : Int} (hg : g ≤ f) (h : (KG g 1).2 = true) : (KG f 1).2 = true := by
 unfold KG at h ⊢
 rw [if_pos rfl] at h ⊢
 split at h
 ·rw [if_pos (by omega)]
 ·cases h
theorem Ov.of {f g : Int} {s t : List AcE} {r : Rec} (hg : g ≤ f) (W : Wrote g s t r) : Ov f s t := ⟨W.kept, fun hf => by
 have h := W.fee
 rw [if_neg fun h2 => hf (yx hg h2)] at h
 exact h⟩
theorem Ov.trans {f g : Int} {s t u : List AcE} (hg : g ≤ f) (h : Ov g s t) (k : Ov f t u) : Ov f s u := ⟨h.kept.trans k.kept, fun hf => (k.fee hf).trans (h.fee fun h2 => hf (yx hg h2))⟩
theorem Ov.mono {f g : Int} {s t : List AcE} (hg : g ≤ f) (h : Ov g s t) : Ov f s t := ⟨h.kept, fun hf => h.fee fun h2 => hf (yx hg h2)⟩
theorem Jbm {s : List AcE} (h : Ks AcE.addr s) : (s.map AcE.addr).Nodup := by
 unfold List.Nodup
 rw [List.pairwise_map]
 exact h.imp fun h => ZE h
theorem Jw8 : ∀ s : BS, wL (s.map ZW) = s.length
 | [] => by rw [List.map_nil, wL]; rfl
 | b :: s => by rw [List.map_cons, wL, Jw8 s, List.length_cons]; show YF (.mk b.toNat 0 0 0 [] none [] none 0) + s.length = _; rw [YF, wL]; simp; omega
theorem Jj4 (s : BS) : YF (yN s) = 1 + s.length := by unfold yN KY; rw [YF, Jw8]; simp
theorem Jr6 : ∀ l : List (BS × BS), (∀ x ∈ l, x.1.length = 32 ∧ x.2.length = 32) → wL (l.map wW) = 67 * l.length
 | [], _ => by rw [List.map_nil, wL]; rfl
 | x :: l, h => by
  obtain ⟨h1, h2⟩ := h x List.mem_cons_self
  rw [List.map_cons, wL, Jr6 l fun y hy => h y (List.mem_cons_of_mem _ hy), List.length_cons]
  unfold wW KY
  rw [YF, wL, wL, wL, Jj4, Jj4, h1, h2]; simp; omega
def wA (a : AcE) : Nat := 26 + a.code.length + 67 * a.slots.length
theorem J04 {a : AcE} (h : VM a = 0) : YF (acV a) = wA a := by
 obtain ⟨h1, h2, _⟩ := QH h
 unfold acV KY wA
 rw [YF, wL, wL, wL, wL, wL, wL, Jj4, Jj4, YF, YF, YF, wL, Jr6 _ fun x hx => ⟨(h2 x hx).1, (h2 x hx).2.1⟩, h1]; simp; omega
def wS (l : List AcE) : Nat := (l.map wA).sum
theorem Jw9 : ∀ l : List AcE, (∀ a ∈ l, VM a = 0) → wL (l.map acV) = wS l
 | [], _ => by rw [List.map_nil, wL]; simp [wS]
 | a :: l, h => by
  have ih := Jw9 l fun b hb => h b (List.mem_cons_of_mem _ hb)
  rw [List.map_cons, wL, J04 (h a List.mem_cons_self), ih]
  unfold wS
  rw [List.map_cons, List.sum_cons]
theorem Jr7 {l : List AcE} (h : KC l = 0) : YF (Zf l) = 1 + wS l := by
 unfold Zf KY
 rw [YF, Jw9 l (Xl.1 h).2.1]; simp
def slN (l : List AcE) : Nat := (l.map fun a => a.slots.length).sum
theorem Jr8 {a : AcE} (h : XU a = true) (h2 : a.code.length ≤ 512) : a.code.length ≤ 60 := by
 unfold XU at h
 simp only [Bool.and_eq_true, Bool.not_eq_true', Bool.or_eq_false_iff, Bool.and_eq_false_iff, decide_eq_false_iff_not] at h
 omega
theorem Jr9 : ∀ l : List AcE, (∀ a ∈ l, VM a = 0 ∧ XU a = true) → wS l ≤ 86 * l.length + 67 * slN l
 | [], _ => by simp [wS]
 | a :: l, h => by
  obtain ⟨h1, h2⟩ := h a List.mem_cons_self
  have ih := Jr9 l fun b hb => h b (List.mem_cons_of_mem _ hb)
  have hc := Jr8 h2 (QH h1).2.2.2.1
  unfold wS slN wA at ih ⊢
  rw [List.map_cons, List.sum_cons, List.map_cons, List.sum_cons, List.length_cons]
  omega
theorem Jj5 : ∀ (l : List AcE) (i : Nat) (n : Int), i + l.length ≤ 41 → (ZD i n l).1 = true → (∀ a ∈ l, XU a = true) ∧ (ZD i n l).2 = n + (slN l : Int)
 | [], i, n, _, _ => ⟨fun a ha => (nomatch ha), by unfold ZD slN; simp⟩
 | a :: l, i, n, hl, h => by
  rw [List.length_cons] at hl
  unfold ZD at h ⊢
  rw [if_neg (by omega)] at h ⊢
  by_cases hf : XU a = false
  ·rw [if_pos hf] at h; cases h
  ·rw [if_neg hf] at h ⊢
   obtain ⟨h1, h2⟩ := Jj5 l (i + 1) (n + (a.slots.length : Int)) (by omega) h
   refine ⟨fun b hb => ?_, ?_⟩
   ·rcases List.mem_cons.1 hb with rfl | hb
    ·simpa using hf
    ·exact h1 b hb
   ·rw [h2]; unfold slN; rw [List.map_cons, List.sum_cons]; omega
theorem Jj6 {l : List AcE} (h : ZP l = true) : l.length ≤ 40 ∧ (∀ a ∈ l, XU a = true) ∧ slN l ≤ 40 := by
 unfold ZP at h
 simp only [Bool.and_eq_true, decide_eq_true_eq] at h
 obtain ⟨h1, h2, h3⟩ := h
 obtain ⟨g1, g2⟩ := Jj5 l 0 0 (by omega) h1
 exact ⟨h2, g1, by omega⟩
theorem Jj7 {l m : List AcE} (h : l.Perm m) : wS l = wS m := (h.map wA).sum_nat
theorem Jxa : ∀ {l m : List AcE}, l.Nodup → (∀ x ∈ l, x ∈ m) → wS l ≤ wS m
 | [], _, _, _ => by simp [wS]
 | x :: l, m, hn, h => by
  obtain ⟨h1, h2⟩ := List.nodup_cons.1 hn
  have ih := Jxa h2 (m := m.erase x) fun y hy => (List.mem_erase_of_ne (fun e => h1 (by rw [← e]; exact hy))).2 (h y (List.mem_cons_of_mem _ hy))
  have hp := Jj7 (List.perm_cons_erase (h x List.mem_cons_self))
  rw [hp]
  unfold wS at ih ⊢
  rw [List.map_cons, List.sum_cons, List.map_cons, List.sum_cons]
  omega
theorem Jsa {a : AcE} (h : VM a = 0) : wA a ≤ 1610 := by
 obtain ⟨_, _, _, h4, h5⟩ := QH h
 unfold wA; omega
theorem Jsb (s : List AcE) (hs : KC s = 0) (k : BS) : wA (Vx s k) ≤ 1610 := by
 unfold Vx
 cases h : KP s k with
 | none => simp [wA, ac0]
 | some a => exact Jsa (j8 hs h).2
theorem Jsc {f : Int} {s t : List AcE} {r : Rec} (W : Wrote f s t r) : wS t ≤ wS s + 3220 := by
 have hs := (Xl.1 W.new).2.2
 have hn : t.Nodup := by
  have := Jbm hs
  unfold List.Nodup at this ⊢
  rw [List.pairwise_map] at this
  exact this.imp fun h e => h (by rw [e])
 have h := Jxa (m := Vx t A0 :: Vx t A1 :: s) hn fun a ha => by
  have e2 : KP t a.addr = some a := qk hs ha
  by_cases h0 : a.addr = A0
  ·have : Vx t A0 = a := by unfold Vx; rw [← h0, e2]; rfl
   rw [this]; exact List.mem_cons_self
  by_cases h1 : a.addr = A1
  ·have : Vx t A1 = a := by unfold Vx; rw [← h1, e2]; rfl
   rw [this]; exact List.mem_cons_of_mem _ List.mem_cons_self
  rw [W.others a.addr h0 h1] at e2
  exact List.mem_cons_of_mem _ (List.mem_cons_of_mem _ (qj e2).2)
 have g0 := Jsb t W.new A0
 have g1 := Jsb t W.new A1
 unfold wS at h ⊢
 rw [List.map_cons, List.sum_cons, List.map_cons, List.sum_cons] at h
 omega
theorem Jsd {ts : List Nat} {t : Nat} {rc : Rec} {l s : List AcE} {f : Int} (h : GenOk ts t rc l s f) (hf : ZP l = true) : KC s = 0 ∧ YF (Zf s) ≤ 20000 := by
 have W := Jws h.wr
 obtain ⟨f1, f2, f3⟩ := Jj6 hf
 obtain ⟨c1, c2, _⟩ := Xl.1 h.chk
 have hp := List.mergeSort_perm l yR
 have hlk : ∀ a ∈ l, VM a = 0 ∧ XU a = true := fun a ha => ⟨c2 a (hp.mem_iff.2 ha), f2 a ha⟩
 have h1 := Jr9 l hlk
 have h2 := Jsc W
 rw [show wS (Vb l) = wS l from Jj7 hp] at h2
 have h3 := (Xl.1 W.new).1
 exact ⟨W.new, by rw [Jr7 W.new]; omega⟩
def WG (s : List AcE) : List AcE := [(KP s A0).getD ac0]
theorem Jse {f : Int} {s t : List AcE} {r : Rec} (W : Wrote f s t r) : KC (WG t) = 0 ∧ YF (Zf (WG t)) ≤ 20000 := by
 obtain ⟨b, b1, b2, _⟩ := W.acct
 have e : WG t = [b] := by unfold WG; rw [b1]; rfl
 have hc : KC [b] = 0 := by rw [chk_one]; exact b2
 rw [e]
 refine ⟨hc, ?_⟩
 have := Jsa b2
 rw [Jr7 hc]
 unfold wS
 simp only [List.map_cons, List.map_nil, List.sum_cons, List.sum_nil]
 omega
def yS (f : Int) : Int := Jjw (vl f 5)
def yy (ts : List Nat) (t : Nat) (rc : Rec) (l : List AcE) : BS × Int :=
 if (Vv ts t rc l).2.2 ≠ 0 then ([], (Vv ts t rc l).2.2) else (Xy t (QB (Vv ts t rc l).1).1, 0)
def Jbn (f : Int) (rc : Rec) : Nat := if yS f = 1 then rc.number else 0
def ZS (ts : List Nat) (t : Nat) (rc : Rec) (l : List AcE) : BS × Int :=
 if (Vv ts t rc l).2.2 ≠ 0 then ([], (Vv ts t rc l).2.2) else
  Xx (yS (Vv ts t rc l).2.1) [(QB (Vv ts t rc l).1).1, (QB (WG (Vv ts t rc l).1)).1, Xy t (QB (Vv ts t rc l).1).1] (Jbn (Vv ts t rc l).2.1 rc)
theorem Jzf (f : Int) : yS f = 0 ∨ yS f = 1 := by
 unfold yS Jjw
 by_cases h : (vl f 5) = []
 ·rw [h]; exact .inl rfl
 ·have hl : (vl f 5).length - 1 < (vl f 5).length := by have := List.length_pos_iff.2 h; omega
  have hm : (vl f 5).getD ((vl f 5).length - 1) 0 ∈ vl f 5 := by
   rw [List.getD_eq_getElem?_getD, List.getElem?_eq_getElem hl, Option.getD_some]; exact List.getElem_mem hl
  have hm2 := (List.mem_filter.1 hm).1
  simpa [vd] using hm2
theorem zZ {l : List AcE} (h : KC l = 0) (hn : ∀ a ∈ l, VV a.nonce) : (QB l).1.length = 32 ∧ (QB l).2 = 0 := by
 rw [Jep h (Ja9 h hn)]
 exact ⟨WX _ _ 0 Jjc (Ja9 h hn), rfl⟩
theorem yz {R : Jm} {s : StL} (hs : s.In R) : ∀ a ∈ s.er, VV a.nonce := fun a ha => by
 obtain ⟨b, hb, rfl⟩ := List.mem_map.1 ha
 exact (hs.accts b hb).nonce
theorem Jsf {R : Jm} {ts : List Nat} {t : Nat} {rc : Rec} {l : List AcE} (x : BldR R (Vv ts t rc l)) (h : x.err = 0) : GenOk ts t rc l x.s.er x.f := Jze (x.eq.symm.trans (by rw [h]))
theorem yA {g : GenL} (hf : ZP g.ac = true) : g.accts.length ≤ 40 := by
 have := (Jj6 hf).1
 unfold GenL.ac at this
 rwa [List.length_map] at this
theorem Jbo {l : List AcE} (h : KC l = 0) (hn : ∀ a ∈ l, VV a.nonce) : ∃ s : BS, QB l = (s, 0) ∧ s.length = 32 := ⟨(QB l).1, Prod.ext rfl (zZ h hn).2, (zZ h hn).1⟩
theorem xf {ts : List Nat} {t : Nat} {rc : Rec} {l s : List AcE} {f e : Int} (h : (s, f, e) = Vv ts t rc l) (he : e ≠ 0) : yy ts t rc l = ([], e) ∧ ZS ts t rc l = ([], e) := by
 constructor
 ·unfold yy; rw [← h, if_pos he]
 ·unfold ZS; rw [← h, if_pos he]
theorem Jsg {ts : List Nat} {t : Nat} {rc : Rec} {l s : List AcE} {f e : Int} (h : (s, f, e) = Vv ts t rc l) (he : e = 0) {rt : BS} (hr : QB s = (rt, 0)) : yy ts t rc l = (Xy t rt, 0) := by
 unfold yy; rw [← h, if_neg (by simpa using he)]
 show (Xy t (QB s).1, (0 : Int)) = _
 rw [hr]
theorem Jmc {ts : List Nat} {t : Nat} {rc : Rec} {l s : List AcE} {f e : Int} (h : (s, f, e) = Vv ts t rc l) (he : e = 0) {rt st : BS} (hr : QB s = (rt, 0)) (hs : QB (WG s) = (st, 0)) : ZS ts t rc l = Xx (yS f) [rt, st, Xy t rt] (Jbn f rc) := by
 unfold ZS; rw [← h, if_neg (by simpa using he)]
 show Xx (yS f) [(QB s).1, (QB (WG s)).1, Xy t (QB s).1] (Jbn f rc) = _
 rw [hr, hs]
theorem yB (s : StL) (rv : Nat) : StL.er ⟨[Qy s A0], some (⟨rv, 0, none⟩, 1)⟩ = WG s.er := by
 show [(Qy s A0).er] = WG s.er
 unfold WG
 rw [Jhy]
theorem Jzg {R : Jm} {g : GenL} (hg : g.In R) (hf : ZP g.ac = true) : PureR Tryz.prog 14 [g.val].toArray (ZB (yy g.ts g.time g.rc g.ac)) R := by
 have hl := yA hf
 refine Jb Tryz.func14 rfl rfl fun w => ?_; refine JD ?_; refine Jq 2 rfl ?_; refine JR (cs := g.cells.toArray) rfl rfl rfl rfl fun r1 => ?_; refine JJ 6 rfl ?_; refine LR rfl (Jd (xs := g.cells) (n := 20) rfl (kn 0 rfl) rfl rfl rfl) ?_; refine Ke rfl rfl rfl Jf3 (Y9 hg (by omega)) oR fun x => ?_; refine Kk List.perm_append_comm ?_; change HL _ _ ((10, .tuple #[x.s.val, .int .i64 x.f, .int .i64 x.err]) :: _) ((r1, _) :: x.L) _ _ _ _; refine LS 4 [] rfl rfl ?_; refine LN rfl fun r4 => ?_; refine Jh (k := 0) (n := 1) (ys := x.s.cells) rfl rfl rfl rfl rfl rfl rfl rfl rfl ?_; refine JI 11 rfl ?_; refine cD (fun h5 => ?_) fun h5 => ?_
 refine JK 1 rfl ?_
 have hbad := xf x.eq (by omega)
 refine Kh 8 rfl ?_; refine Jg rfl rfl (.cons (Jj rfl) (.cons (Jj rfl) .nil)) (fun w1 hs1 => ?_)
 (refine ⟨?_, hs1.keep⟩
  rw [hbad.1]; rfl)
 ·refine JK 3 rfl ?_
  have he : x.err = 0 := by omega
  obtain ⟨hck, hw⟩ := Jsd (Jsf x he) hf
  obtain ⟨rt, hrt, hrl⟩ := Jbo hck (yz x.ok)
  have hG := Jsg x.eq he hrt
  refine Jq 1 rfl ?_; refine LR rfl (Jd (xs := x.s.cells) (n := 1) rfl (kn 0 rfl) rfl rfl rfl) ?_; refine Ji rfl rfl rfl Jxz (yi (R := x.L ++ R) x.ok (fun _ => hw)) (fun q hq => (List.mem_append.1 hq).elim (fun h => Or.inl (List.mem_cons_of_mem _ (List.mem_cons_of_mem _ h))) (fun hq => Or.inr hq)) ?_; refine J3 (congrArg ZB hrt) ?_; refine Xf 12 [1] rfl rfl ?_; refine Jn rfl rfl rfl Jx0 (Jbh (root := rt) hg.time (by omega)) ?_; refine Jx 6 rfl ?_; refine Jg rfl rfl (.cons (Jj rfl) (.cons (Jj rfl) .nil)) (fun w1 hs1 => ?_)
  (refine ⟨?_, hs1.keep⟩
   rw [hG]; rfl)
theorem Jwg {R : Jm} {g : GenL} (hg : g.In R) (hf : ZP g.ac = true) : PureR Tryz.prog 16 [g.val].toArray (ZB (ZS g.ts g.time g.rc g.ac)) R := by
 have hl := yA hf
 have hn0 : g.rc.number < 18446744073709551616 := hg.rc.1
 refine Jb Tryz.func16 rfl rfl fun w => ?_; refine JD ?_; refine Jq 2 rfl ?_; refine JR (cs := g.cells.toArray) rfl rfl rfl rfl fun r1 => ?_; refine JJ 6 rfl ?_; refine LR rfl (Jd (xs := g.cells) (n := 20) rfl (kn 0 rfl) rfl rfl rfl) ?_; refine Ke rfl rfl rfl Jf3 (Y9 hg (by omega)) oR fun x => ?_; refine Kk List.perm_append_comm ?_; change HL _ _ ((18, .tuple #[x.s.val, .int .i64 x.f, .int .i64 x.err]) :: _) ((r1, _) :: x.L) _ _ _ _; refine LS 4 [] rfl rfl ?_; refine LN rfl fun r4 => ?_; refine Jh (k := 0) (n := 1) (ys := x.s.cells) rfl rfl rfl rfl rfl rfl rfl rfl rfl ?_; refine JI 11 rfl ?_; refine cD (fun h5 => ?_) fun h5 => ?_
 refine JK 1 rfl ?_
 have hbad := xf x.eq (by omega)
 refine Kh 8 rfl ?_; refine Jg rfl rfl (.cons (Jj rfl) (.cons (Jj rfl) .nil)) (fun w1 hs1 => ?_)
 (refine ⟨?_, hs1.keep⟩
  rw [hbad.2]; rfl)
 ·refine JK 3 rfl ?_
  have he : x.err = 0 := by omega
  have hok := Jsf x he
  obtain ⟨hck, hw⟩ := Jsd hok hf
  obtain ⟨hck2, hw2⟩ := Jse (Jws hok.wr)
  obtain ⟨rt, hrt, hrl⟩ := Jbo hck (yz x.ok)
  obtain ⟨st, hst, hsl⟩ := Jbo hck2 (by rw [← yB x.s 0]; exact yz (Ja7 (vB x.ok A0) 0))
  have hC := Jmc x.eq he hrt hst
  obtain ⟨v, hv⟩ : ∃ v, v = yS x.f := ⟨_, rfl⟩
  have hv01 := Jzf x.f
  rw [← hv] at hC hv01; refine Jq 1 rfl ?_; refine LR rfl (Jd (xs := x.s.cells) (n := 1) rfl (kn 0 rfl) rfl rfl rfl) ?_; refine Ji rfl rfl rfl Jxz (yi (R := x.L ++ R) x.ok (fun _ => hw)) (fun q hq => (List.mem_append.1 hq).elim (fun h => Or.inl (List.mem_cons_of_mem _ (List.mem_cons_of_mem _ h))) (fun hq => Or.inr hq)) ?_; refine J3 (congrArg ZB hrt) ?_; refine JI 8 rfl ?_
  refine JT [] [(3, .pure), (4, .pure), (5, .pure), (6, .grow (VI vV (.cells #[.string ⟨#[]⟩, .int .u64 0, .int .u64 0, .int .u64 0, .int .u64 0, .int .u64 0, .string ⟨#[]⟩, .slice none 0 0] 48 (0, 0)))), (7, .turn), (8, .pure)] 9 [0, 1, 2, 3, 4, 5, 6, 7, 8] (by kernel_rfl) (by kernel_rfl) (by first | exact (fun _ h => absurd h List.not_mem_nil) | simp [SubS] | (intro p hp; simp [hp])) ?_; refine KE (k := 0) rfl rfl rfl rfl rfl (Jd (xs := x.s.cells) (n := 1) rfl (kn 0 rfl) rfl rfl rfl) ?_; refine Qa (k := 1) rfl rfl rfl rfl rfl Jxy (P_Addr0.toR) (fun q hq => .inr hq) ?_; refine Qa (k := 2) rfl rfl rfl rfl rfl (enters_of Tryz.func18 (by kernel_rfl) rfl) (Jqh (R := x.L ++ R) x.ok A0) (fun q hq => (List.mem_append.1 hq).elim (fun h => Or.inl (List.mem_cons_of_mem _ (List.mem_cons_of_mem _ h))) (fun hq => Or.inr hq)) ?_; refine Jp (k := 3) rfl rfl rfl rfl rfl (fun _ hS => (Jf rfl)) ?_; refine Jp (k := 4) rfl rfl rfl rfl rfl (fun _ hS => (JY rfl rfl)) ?_; refine Jp (k := 5) rfl rfl rfl rfl rfl (fun _ hS => (JY rfl rfl)) ?_; refine Wx (k := 6) (cs := #[_, _, _, _, _, _, _, _]) rfl rfl rfl rfl rfl rfl fun r9 => ?_; refine Vi (k := 7) (q := 0) (n := 8) (ys := (Qy x.s A0).cells) rfl rfl rfl rfl rfl rfl rfl rfl rfl rfl rfl (fun _ h => absurd h List.not_mem_nil) ?_; refine Jp (k := 8) rfl rfl rfl rfl rfl (fun _ hS => (JC rfl)) ?_; refine Kx ?_; refine JJ 4 rfl ?_; refine LR rfl (Jd (xs := (Qy x.s A0).cells) (n := 8) rfl (kn 0 rfl) rfl rfl rfl) ?_; refine J4 (n := 1) (sz := 8) (vs := [_]) (zs := [_, _, _, _, _, _, _, _]) (r := (Qy x.s A0).cells) rfl rfl rfl rfl rfl rfl rfl rfl rfl (by rw [JO]; exact rfl) rfl fun rv => ?_; refine LR rfl (Jt (r := [_]) rfl rfl) ?_; refine Ji (v := ZB (QB (StL.er ⟨[Qy x.s A0], some (⟨rv, 0, none⟩, 1)⟩))) rfl rfl rfl Jxz (yi (Ja7 (vB x.ok A0) rv) (fun _ => by rw [yB]; exact hw2)) (fun q hq => (List.mem_cons.1 hq).elim (fun h => .inl (by rw [h]; exact List.mem_cons_self)) fun hq => (List.mem_append.1 hq).elim (fun h => Or.inl (List.mem_cons_of_mem _ (List.mem_cons_of_mem _ (List.mem_cons_of_mem _ (List.mem_cons_of_mem _ h))))) (fun hq => Or.inr hq)) ?_; refine J3 (congrArg ZB ((congrArg QB (yB x.s rv)).trans hst)) ?_; refine JJ 10 rfl ?_; refine Jn rfl rfl rfl (enters_of Tryz.func21 (by kernel_rfl) rfl) (J02 x.f 5) ?_; refine J3 (show _ = Value.tuple #[.int .i64 v, .int .i64 (Jrp (vl x.f 5))] from by rw [hv]; rfl) ?_; refine Goc 22 [3] rfl rfl ?_; refine cD (fun h14 => ?_) fun h14 => ?_
  refine Vw 12 [3] rfl rfl ?_; refine Jn rfl rfl rfl Jx0 (Jbh (root := rt) hg.time (by omega)) ?_; refine LR rfl (Jt (r := [_, _, _]) rfl rfl) ?_; refine Q1 rfl ?_
  first | (refine Jn rfl rfl rfl Jtw (Y6 (p := [rt, st, Xy g.time rt]) rfl (n := 0) (by decide) v) ?_) | (refine Jn rfl rfl rfl Jtw (Y6 (p := [rt, st, Xy g.time rt]) rfl (n := g.rc.number) hn0 v) ?_)
  refine Jx 7 rfl ?_; refine Jg rfl rfl (.cons (Jj rfl) (.cons (Jj rfl) .nil)) (fun w1 hs1 => ?_)
  (refine ⟨?_, hs1.keep⟩
   rw [hC, show Jbn x.f g.rc = 0 from by unfold Jbn; rw [← hv, if_neg (by omega)]]; rfl)
  ·refine Vw 10 [3] rfl rfl ?_; refine Jn rfl rfl rfl Jx0 (Jbh (root := rt) hg.time (by omega)) ?_; refine LR rfl (Jt (r := [_, _, _]) rfl rfl) ?_; refine Q1 rfl ?_
   first | (refine Jn rfl rfl rfl Jtw (Y6 (p := [rt, st, Xy g.time rt]) rfl (n := 0) (by decide) v) ?_) | (refine Jn rfl rfl rfl Jtw (Y6 (p := [rt, st, Xy g.time rt]) rfl (n := g.rc.number) hn0 v) ?_)
   refine Jx 7 rfl ?_; refine Jg rfl rfl (.cons (Jj rfl) (.cons (Jj rfl) .nil)) (fun w1 hs1 => ?_)
   (refine ⟨?_, hs1.keep⟩
    rw [hC, show Jbn x.f g.rc = g.rc.number from by unfold Jbn; rw [← hv, if_pos (by omega)]]; rfl)
theorem Jmd {R : Jm} {l : List AcL} {p : Pl} (hl : l.length ≤ 1000) (hseg : Seg R l.length (KA l) p) :
    PureT (α := { row : QD // rowOk 8 (jS [] l).length (KA (jS [] l)) row }) Tryz.prog 32 [KB l.length p].toArray (fun y => J8 (jS [] l).length y.1) [] (fun y => JH 48 (KA (jS [] l)) y.1) R := by
  obtain ⟨fin, hfin⟩ : ∃ r, r = jS [] l := ⟨_, rfl⟩
  rw [← hfin]; refine Jw Tryz.func32 rfl rfl fun w => ?_; refine JD ?_; refine JK 17 rfl ?_; refine Jy (σ := Nat × List AcL × QD) (fun q => q.1 ≤ l.length ∧ fin = jS q.2.1 (l.drop q.1) ∧ q.2.1.length = q.1 ∧ rowOk 8 q.2.1.length (KA q.2.1) q.2.2) (fun q => [(0, KB l.length p), (3, KB q.2.1.length (Qo q.2.2)), (4, .int .i64 (q.1 : Int))]) (fun q => JH 48 (KA q.2.1) q.2.2) (fun _ _ _ => True) (fun q => l.length - q.1) (0, [], none) ⟨Nat.zero_le _, hfin, rfl, rfl, rfl⟩ (lK rfl) (List.Sublist.refl _) (fun _ _ h => h) ?_; rintro ⟨i, out, row⟩ ⟨hi1, hsrt, hlen, hrow⟩; simp only at hi1 hsrt hlen hrow
  have hso := Km (e := 48) hrow (by decide)
  change HC _ _ [(0, _), (3, KB out.length (Qo row)), (4, .int .i64 (i : Int))] (JH _ (KA out) row) _ _ _; refine Jq 5 rfl ?_; refine LR rfl (Jz rfl hseg rfl) ?_; refine JI 3 rfl ?_; refine cD (fun g => ?_) fun g => ?_
  · refine JK 5 rfl ?_
    obtain ⟨x, hx, hmx⟩ := Qs (show i < l.length by omega)
    have hso := Km (e := 48) hrow (by decide)
    obtain ⟨res, hres⟩ : ∃ r, r = jR x false out := ⟨_, rfl⟩
    refine JK 16 rfl ?_; refine Jy (σ := Nat × Bool × List AcL × Nat × List Value × QD) (fun q => q.1 ≤ out.length ∧ res = q.2.2.1 ++ jR x q.2.1 (out.drop q.1) ∧ OutI AcL.cells 8 q.2.2.1 q.2.2.2.1 q.2.2.2.2.1 q.2.2.2.2.2 ∧ q.2.2.2.1 ≤ 2 * q.1) (fun q => [(0, KB l.length p), (3, KB out.length (Qo row)), (4, .int .i64 (i : Int)), (5, J8 q.2.2.2.1 q.2.2.2.2.2), (6, .bool q.2.1), (7, .int .i64 (q.1 : Int))]) (fun q => JH 48 q.2.2.2.2.1 q.2.2.2.2.2 ++ JH 48 (KA out) row) (fun _ _ _ => True) (fun q => out.length - q.1) (0, false, [], 0, [], none) ⟨Nat.zero_le _, hres, OutI.nil, Nat.zero_le _⟩ (lK rfl) (List.Sublist.refl _) (fun _ _ h => h) ?_; rintro ⟨k, pt, acc, m, xs, row2⟩ ⟨hk1, hinv, ho, hm2⟩; simp only at hk1 hinv ho hm2; change HC _ _ [(0, _), (3, _), (4, _), (5, J8 m row2), (6, .bool pt), (7, .int .i64 (k : Int))] (JH _ xs row2 ++ JH _ (KA out) row) _ _ _; refine Jq 5 rfl ?_; refine LR rfl (Jz rfl hso rfl) ?_; refine JI 3 rfl ?_; refine cD (fun g => ?_) fun g => ?_
    · refine JK 6 rfl ?_
      obtain ⟨y, hy, hmy⟩ := Qs (show k < out.length by omega)
      rw [WH hy] at hinv
      have hno := ho.num
      refine JE 15 (by kernel_rfl) (by kernel_rfl) ?_; refine Ja rfl rfl rfl (Jf rfl) ?_; refine Ja rfl rfl rfl (J2 rfl rfl rfl) ?_; refine Ja rfl rfl rfl (Jf rfl) ?_
      refine X7 22 rfl (fun gb => ?_) (fun gb => ?_) <;> (try simp only [ZZ] at gb) <;> first | (refine Ja rfl rfl rfl (Jf rfl) ?_) | (refine J7 rfl rfl rfl ?_)
      all_goals first | refine Ja rfl rfl rfl (Jf rfl) ?_ | refine J7 rfl rfl rfl ?_
      all_goals first | (refine Ja rfl rfl rfl (Jk (j := i) rfl hseg rfl rfl rfl (by first | rfl | omega) (by omega)) ?_) | refine J7 rfl rfl rfl ?_
      all_goals first | (refine Ja rfl rfl rfl (JQ (off' := WP p + (i * 8 + 0)) rfl rfl (by show WP p + i * 8 + 0 = _; omega)) ?_) | refine J7 rfl rfl rfl ?_
      all_goals first | refine Ja rfl rfl rfl (KN AcL.len (k := 0) (v := J1 x.addr) oR rfl hseg hx rfl rfl) ?_ | refine J7 rfl rfl rfl ?_
      all_goals first | refine Ja rfl rfl rfl (Jf rfl) ?_ | refine J7 rfl rfl rfl ?_
      all_goals first | refine Ja rfl rfl rfl (Jf rfl) ?_ | refine J7 rfl rfl rfl ?_
      all_goals first | (refine Ja rfl rfl rfl (Jk (j := k) rfl hso rfl rfl rfl (by first | rfl | omega) (by omega)) ?_) | refine J7 rfl rfl rfl ?_
      all_goals first | (refine Ja rfl rfl rfl (JQ (off' := WP (Qo row) + (k * 8 + 0)) rfl rfl (by show WP (Qo row) + k * 8 + 0 = _; omega)) ?_) | refine J7 rfl rfl rfl ?_
      all_goals first | refine Ja rfl rfl rfl (KN AcL.len (k := 0) (v := J1 y.addr) (fun q hq => Or.inl (List.mem_append_right _ hq)) rfl hso hy rfl rfl) ?_ | refine J7 rfl rfl rfl ?_
      all_goals first | refine Ja rfl rfl rfl (Jhe (a := x.addr) (b := y.addr) rfl rfl) ?_ | refine J7 rfl rfl rfl ?_
      all_goals first | refine Ja rfl rfl rfl (VO rfl rfl) ?_ | refine Ja rfl rfl rfl (VP rfl rfl) ?_
      all_goals (
       refine JS (Jx 1 rfl (XN 1 rfl ?_)); refine J0 rfl (fun g => ?_) (fun g => ?_)
       · try exact Bool.noConfusion g
         all_goals try simp only [ZZ] at g
         all_goals (
          refine Jq 5 rfl ?_
          refine LR rfl (Jk (j := i) rfl hseg rfl rfl rfl (by first | rfl | omega) (by omega)) ?_; refine LR rfl (JV AcL.len oR rfl hseg hx rfl rfl) ?_; refine J4 (n := 1) (sz := 8) (vs := [_]) (zs := [_, _, _, _, _, _, _, _]) (r := x.cells) rfl rfl rfl rfl rfl rfl rfl rfl rfl (by rw [JO]; exact rfl) rfl fun rv => ?_; refine JM (L0 := (rv, _) :: JH 48 (KA out) row) (xs := xs) (row := row2) (n := m) (sz := 8) (b := 96) (news := x.cells) List.perm_middle.symm rfl rfl rfl rfl (kn 0 rfl) rfl rfl rfl rfl rfl (by decide) rfl rfl rfl (by decide) ho.ok (by omega) (by omega) fun ra cap sp hra => ?_; refine JI 3 rfl ?_; refine vD (.cons₂ _ (.cons _ (List.Sublist.refl _))) ?_
          obtain ⟨pt2, hpt2⟩ : ∃ b, b = true := ⟨_, rfl⟩
          refine Jq 2 rfl ?_; refine J3 (congrArg Value.bool hpt2.symm) ?_; refine JI 2 rfl ?_
          (have ho1 := ho.snoc hra
           have hinv1 := (zU hinv).1 (by assumption) (by assumption)
           have hm1 : m + 1 ≤ 2 * k + 1 := by omega
           change HC _ _ ((6, .bool pt2) :: (5, J8 (m + 1) (some (ra, cap, sp))) :: _) (JH 48 (xs ++ x.cells) (some (ra, cap, sp)) ++ JH 48 (KA out) row) _ _ _; clear hinv ho hno hra hm2
           generalize acc ++ [x] = acc at ho1 hinv1
           generalize m + 1 = m at ho1 hm1 ⊢
           generalize xs ++ x.cells = xs at ho1 ⊢
           generalize (some (ra, cap, sp) : QD) = row2 at ho1 ⊢
           rw [← hpt2] at hinv1; clear hpt2
           obtain ⟨pt, rfl⟩ : ∃ b, b = pt2 := ⟨pt2, rfl⟩)
          have ho := ho1
          have hno := ho.num
          refine Jq 4 rfl ?_
          refine LR rfl (Jk (j := k) rfl hso rfl rfl rfl (by first | rfl | omega) (by omega)) ?_; refine LR rfl (JV AcL.len (fun q hq => Or.inl (List.mem_append_right _ hq)) rfl hso hy rfl rfl) ?_; refine J4 (n := 1) (sz := 8) (vs := [_]) (zs := [_, _, _, _, _, _, _, _]) (r := y.cells) rfl rfl rfl rfl rfl rfl rfl rfl rfl (by rw [JO]; exact rfl) rfl fun rv => ?_; refine JM (L0 := (rv, _) :: JH 48 (KA out) row) (xs := xs) (row := row2) (n := m) (sz := 8) (b := 96) (news := y.cells) List.perm_middle.symm rfl rfl rfl rfl (kn 0 rfl) rfl rfl rfl rfl rfl (by decide) rfl rfl rfl (by decide) ho.ok (by omega) (by omega) fun ra cap sp hra => ?_; refine JJ 7 rfl ?_; refine Jc (by omega) (by omega) ?_; refine Jx 2 rfl ?_; refine Jv ?_; exact Jo (k + 1, pt, acc ++ [y], m + 1, xs ++ y.cells, some (ra, cap, sp)) ⟨by simp only; omega, hinv1, ho.snoc hra, by simp only; omega⟩ (by simp only; omega) (lK rfl) (.cons₂ _ (.cons _ (List.Sublist.refl _))) (fun _ _ h => h)
          skip)
       try simp only [ZZ] at g
       refine JK 2 rfl ?_
       (have ho1 := ho
        have hinv1 := (zU hinv).2 (by first | exact .inl (by assumption) | exact .inr (by assumption))
        have hm1 : m ≤ 2 * k + 1 := by omega
        clear hinv ho hno hm2)
       have ho := ho1
       have hno := ho.num
       refine Jq 4 rfl ?_
       refine LR rfl (Jk (j := k) rfl hso rfl rfl rfl (by first | rfl | omega) (by omega)) ?_; refine LR rfl (JV AcL.len (fun q hq => Or.inl (List.mem_append_right _ hq)) rfl hso hy rfl rfl) ?_; refine J4 (n := 1) (sz := 8) (vs := [_]) (zs := [_, _, _, _, _, _, _, _]) (r := y.cells) rfl rfl rfl rfl rfl rfl rfl rfl rfl (by rw [JO]; exact rfl) rfl fun rv => ?_; refine JM (L0 := (rv, _) :: JH 48 (KA out) row) (xs := xs) (row := row2) (n := m) (sz := 8) (b := 96) (news := y.cells) List.perm_middle.symm rfl rfl rfl rfl (kn 0 rfl) rfl rfl rfl rfl rfl (by decide) rfl rfl rfl (by decide) ho.ok (by omega) (by omega) fun ra cap sp hra => ?_; refine JJ 7 rfl ?_; refine Jc (by omega) (by omega) ?_; refine Jx 2 rfl ?_; refine Jv ?_; exact Jo (k + 1, pt, acc ++ [y], m + 1, xs ++ y.cells, some (ra, cap, sp)) ⟨by simp only; omega, hinv1, ho.snoc hra, by simp only; omega⟩ (by simp only; omega) (lK rfl) (.cons₂ _ (.cons _ (List.Sublist.refl _))) (fun _ _ h => h)
       skip)
    refine JK 7 rfl ?_
    obtain rfl : k = out.length := by omega
    rw [List.drop_length, jR] at hinv
    have hno := ho.num
    refine JK 5 rfl ?_; refine cD (fun g => ?_) fun g => ?_
    refine Jq 4 rfl ?_
    refine LR rfl (Jk (j := i) rfl hseg rfl rfl rfl (by first | rfl | omega) (by omega)) ?_; refine LR rfl (JV AcL.len oR rfl hseg hx rfl rfl) ?_; refine J4 (n := 1) (sz := 8) (vs := [_]) (zs := [_, _, _, _, _, _, _, _]) (r := x.cells) rfl rfl rfl rfl rfl rfl rfl rfl rfl (by rw [JO]; exact rfl) rfl fun rv => ?_; refine JM (L0 := (rv, _) :: JH 48 (KA out) row) (xs := xs) (row := row2) (n := m) (sz := 8) (b := 96) (news := x.cells) List.perm_middle.symm rfl rfl rfl rfl (kn 0 rfl) rfl rfl rfl rfl rfl (by decide) rfl rfl rfl (by decide) ho.ok (by omega) (by omega) fun ra cap sp hra => ?_; refine JI 3 rfl ?_
    (have hr : res = acc ++ [x] := by rw [hinv]; simp_all
     have ho1 := ho.snoc hra
     refine vD (L' := JH 48 (xs ++ x.cells) (some (ra, cap, sp))) (.cons₂ _ (List.nil_sublist _)) ?_; rw [← hr] at ho1; change HC _ _ ((5, J8 (m + 1) (some (ra, cap, sp))) :: _) _ _ _ _; clear hinv ho hno hra
     generalize m + 1 = m at ho1 ⊢
     generalize xs ++ x.cells = xs at ho1 ⊢
     generalize (some (ra, cap, sp) : QD) = row2 at ho1 ⊢)
    obtain ⟨e1, e2, e3⟩ := ho1
    subst e1 e2; refine Jq 3 rfl ?_; refine J3 (QZ _ _ e3.zero).symm ?_; refine JJ 6 rfl ?_; refine Jc (by omega) (by omega) ?_; refine Jx 2 rfl ?_; refine Jv ?_; exact Jo (i + 1, res, row2) ⟨by simp only; omega, by rw [hsrt, WH hx, Z0, hres], by have := (Yn x out).length_eq; rw [← hres] at this; simp only; rw [this, List.length_cons, hlen], e3⟩ (by simp only; omega) (lK rfl) (List.Sublist.refl _) (fun _ _ h => h)
    refine JK 2 rfl ?_
    (have hr : res = acc := by rw [hinv]; simp_all
     have ho1 := ho
     refine vD (L' := JH 48 xs row2) (List.sublist_append_left _ _) ?_; rw [← hr] at ho1
     clear hinv ho hno)
    obtain ⟨e1, e2, e3⟩ := ho1
    subst e1 e2; refine Jq 3 rfl ?_; refine J3 (QZ _ _ e3.zero).symm ?_; refine JJ 6 rfl ?_; refine Jc (by omega) (by omega) ?_; refine Jx 2 rfl ?_; refine Jv ?_; exact Jo (i + 1, res, row2) ⟨by simp only; omega, by rw [hsrt, WH hx, Z0, hres], by have := (Yn x out).length_eq; rw [← hres] at this; simp only; rw [this, List.length_cons, hlen], e3⟩ (by simp only; omega) (lK rfl) (List.Sublist.refl _) (fun _ _ h => h)
  · refine JK 6 rfl ?_
    obtain rfl : i = l.length := by omega
    rw [List.drop_length] at hsrt
    obtain rfl : fin = out := hsrt
    refine Kh 6 rfl ?_; refine pT rfl rfl rfl fun w1 hs1 => ?_; exact ⟨⟨row, hrow⟩, by rw [← QZ _ _ hrow.zero]; rfl, hs1⟩
theorem Jwh {xs : List AcL} (X : SortR xs) {i : Nat} {x y : AcL} (hx : X.1[i]? = some x) (hy : X.1[i + 1]? = some y) (h : y.addr = x.addr) : Vc (xs.map AcL.er) = 13 := by
 rw [← jQ X]
 have h1 := XK hx
 have h2 := XK hy
 rw [h] at h2
 unfold yQ; rw [if_pos (Jbi h1 h2)]
theorem Jme {xs : List AcL} (X : SortR xs) (h : ∀ i a, i + 1 < X.1.length → (XW X.1)[i]? = some a → (XW X.1)[i + 1]? = some a → False) : Vc (xs.map AcL.er) = KC (X.1.map AcL.er) ∧ X.1.map AcL.er = Vb (xs.map AcL.er) := by
 have hn : XV (XW X.1) = false := Jbj fun i a h1 h2 => h i a (by have := (List.getElem?_eq_some_iff.1 h2).1; rwa [List.length_map] at this) h1 h2
 have e : yQ X.1 = KC (X.1.map AcL.er) := by unfold yQ; rw [hn]; rfl
 rw [← jQ X, e]; refine ⟨rfl, X.uniq ?_⟩
 have hp : ((X.1.map AcL.er).map AcE.addr).Perm ((xs.map AcL.er).map AcE.addr) := (X.2.1.map _).map _
 have ha : XW X.1 = (X.1.map AcL.er).map AcE.addr := by simp [XW, AcL.er]
 have h2 := q9 X.pair
 rw [← ha, hn] at h2; rw [← hp.nodup_iff, ← ha]; exact Decidable.not_not.1 fun h3 => by simpa using h2.2 h3
def BldR.cs {R : Jm} {e : List AcE × Int × Int} (x : BldR R e) : List Value := [KB x.s.accts.length x.s.p, .int .i64 x.f, .int .i64 x.err]
def BldR.bv {R : Jm} {e : List AcE × Int × Int} (x : BldR R e) : Value := .agg x.cs.toArray
theorem Jsh {R : Jm} {g : GenL} (hg : g.In R) (hf : g.accts.length ≤ 1000) : PureT (α := BldR R (Vv g.ts g.time g.rc g.ac)) Tryz.prog 12 [g.val].toArray (fun x => x.bv) [] (fun x => x.L) R := by
 refine Jw Tryz.func12 rfl rfl fun w => ?_; refine JD ?_; refine Jq 2 rfl ?_; refine JR (cs := g.cells.toArray) rfl rfl rfl rfl fun r1 => ?_; refine LN rfl fun r2 => ?_; refine Xf 8 [1, 1] rfl rfl ?_; refine Ji rfl rfl rfl (enters_of Tryz.func31 (by kernel_rfl) rfl) (Jl7 hg.tlen hg.tseg g.time) oR ?_; refine JI 14 rfl ?_; refine cD (fun h5 => ?_) fun h5 => ?_
 refine Jq 3 rfl ?_; refine LR rfl (Jt (r := [_, _, _]) rfl rfl) ?_
 refine LT 0 rfl rfl ?_; refine Jx 4 rfl ?_; refine Jg rfl rfl (.cons (Jr (vs := [_, _, _]) rfl (kn 0 rfl) rfl rfl) .nil) (fun w1 hs1 => ?_)
 (have hne : (Qq g.ts g.time).2 ≠ 0 := by omega
  exact ⟨⟨st0L, 0, (Qq g.ts g.time).2, [], qn, (Jzd hne).symm⟩, rfl, hs1.weakL (List.nil_sublist _)⟩)
 ·refine JK 3 rfl ?_
  have hact : (Qq g.ts g.time).2 = 0 := by omega
  refine Vw 3 [1] rfl rfl ?_; refine Ke rfl rfl rfl (enters_of Tryz.func32 (by kernel_rfl) rfl) (Jmd hf hg.st.seg) oR fun y => ?_
  obtain ⟨row, hrow⟩ := y
  refine Kk List.perm_append_comm ?_; change HL _ _ ((25, J8 (jS [] g.accts).length row) :: _) ((r2, _) :: (r1, _) :: JH 48 (KA (jS [] g.accts)) row) _ _ _ _
  obtain ⟨X, hX1, hX2⟩ : ∃ X : Step2R g, X.ys.1 = jS [] g.accts ∧ X.row = row := ⟨⟨J2d g.accts, row, hrow⟩, rfl, rfl⟩
  subst hX2; rw [← hX1] at hrow ⊢
  have hXl : X.ys.1.length = g.accts.length := X.ys.2.1.length_eq
  have hso := Km (e := 48) hrow (by decide)
  have hXin := yv hg X
  refine Q1 rfl (J3 (QZ _ _ hrow.zero).symm (JI 9 rfl ?_)); refine Jy (σ := Nat) (fun j => 1 ≤ j ∧ ∀ i a, i + 1 < j → (XW X.ys.1)[i]? = some a → (XW X.ys.1)[i + 1]? = some a → False) (fun j => [(1, Qh r1 0), (2, Qh r2 0), (3, .int .i64 (Qq g.ts g.time).1), (5, KB X.ys.1.length (Qo X.row)), (6, .int .i64 (j : Int))]) (fun _ => (r2, .cells #[KB 0 none, .int .i64 0, .int .i64 0] 41 (0, 0)) :: (r1, .cells g.cells.toArray 32 (0, 0)) :: X.L) (fun _ _ _ => True) (fun j => X.ys.1.length - j) 1 ⟨Nat.le_refl _, fun i a hi => absurd hi (by omega)⟩ (lK rfl) (List.Sublist.refl _) (fun _ _ h => h) ?_; rintro j ⟨hj0, hinv⟩; refine Jq 5 rfl ?_; refine LR rfl (Jz rfl hso rfl) ?_; refine JI 3 rfl ?_; refine cD (fun h12 => ?_) fun h12 => ?_
  refine JK 5 rfl ?_
  obtain ⟨i, hi⟩ : ∃ i, j = i + 1 := ⟨j - 1, by omega⟩
  subst hi
  obtain ⟨x, hx, hmx⟩ := Qs (show i < X.ys.1.length by omega)
  obtain ⟨y, hy, hmy⟩ := Qs (show i + 1 < X.ys.1.length by omega)
  refine JE 12 (by kernel_rfl) (by kernel_rfl) ?_; refine Ja rfl rfl rfl (Jf rfl) ?_; refine Ja rfl rfl rfl (Jf rfl) ?_
  refine Ja rfl rfl rfl (Jk (j := i + 1) rfl hso rfl rfl rfl (by first | rfl | omega) (by omega)) ?_; refine Ja rfl rfl rfl (JQ (off' := WP (Qo X.row) + ((i + 1) * 8 + 0)) rfl rfl (by show WP (Qo X.row) + (i + 1) * 8 + 0 = _; omega)) ?_; refine Ja rfl rfl rfl (KN AcL.len (k := 0) (v := J1 y.addr) (fun q hq => Or.inl (List.mem_cons_of_mem _ (List.mem_cons_of_mem _ hq))) rfl hso hy rfl rfl) ?_; refine Ja rfl rfl rfl (Jf rfl) ?_; refine Ja rfl rfl rfl (Jf rfl) ?_; refine Ja rfl rfl rfl (J2 rfl rfl rfl) ?_; refine Q9 (by omega) (by omega) ?_; refine KR (show _ = Value.int .i64 (i : Int) from by congr 1; omega) ?_
  refine Ja rfl rfl rfl (Jk (j := i) rfl hso rfl rfl rfl (by first | rfl | omega) (by omega)) ?_; refine Ja rfl rfl rfl (JQ (off' := WP (Qo X.row) + (i * 8 + 0)) rfl rfl (by show WP (Qo X.row) + i * 8 + 0 = _; omega)) ?_; refine Ja rfl rfl rfl (KN AcL.len (k := 0) (v := J1 x.addr) (fun q hq => Or.inl (List.mem_cons_of_mem _ (List.mem_cons_of_mem _ hq))) rfl hso hx rfl rfl) ?_; refine Ja rfl rfl rfl (WO (a := y.addr) (b := x.addr) rfl rfl) ?_; refine JS ?_; refine JI 2 rfl ?_; refine cD (fun h15 => ?_) fun h15 => ?_
  refine Jq 2 rfl ?_; refine LR rfl (Jt (r := [_, _, _]) rfl rfl) ?_
  refine LT 0 rfl rfl ?_; refine Jx 8 rfl ?_; refine Jg rfl rfl (.cons (Jr (vs := [_, _, _]) rfl (kn 0 rfl) rfl rfl) .nil) (fun w1 hs1 => ?_)
  (have hd : Vc g.ac = 13 := Jwh X.ys hx hy (by assumption)
   exact ⟨⟨st0L, 0, 13, [], qn, by rw [Jg0 hact (by omega), hd]; rfl⟩, rfl, hs1.weakL (List.nil_sublist _)⟩)
  refine Jq 6 rfl ?_; refine Jc (by omega) (by omega) ?_; refine Jx 2 rfl ?_; refine Jv ?_
  exact Jo (i + 1 + 1) ⟨by omega, fun q a hq h1 h2 => by
   rcases Nat.lt_or_ge (q + 1) (i + 1) with hq2 | hq2
   exact hinv q a hq2 h1 h2
   obtain rfl : q = i := by omega
   have e1 := Option.some.inj ((XK hx).symm.trans h1)
   have e2 := Option.some.inj ((XK hy).symm.trans h2)
   have e3 : y.addr = x.addr := e2.trans e1.symm
   simp_all⟩ (by omega) (lK rfl) (List.Sublist.refl _) (fun _ _ h => h)
  ·refine JK 6 rfl ?_
   obtain ⟨hchk, hsrt⟩ := Jme X.ys fun i a hi => hinv i a (by omega)
   change Vc g.ac = KC X.st.er at hchk; change X.st.er = Vb g.ac at hsrt; refine Jq 2 rfl ?_; refine LR rfl (Jt (r := [_]) rfl rfl) ?_; refine LN rfl fun r7 => ?_; refine Jh (k := 0) (n := 1) (ys := X.st.cells) rfl rfl rfl rfl rfl rfl rfl rfl rfl ?_; refine JJ 4 rfl ?_; refine LR rfl (Jd (xs := X.st.cells) (n := 1) rfl (kn 0 rfl) rfl rfl rfl) ?_; refine Ji rfl rfl rfl Jok (Zg (R := X.L ++ R) hXin) (fun q hq => (List.mem_append.1 hq).elim (fun h => Or.inl (List.mem_cons_of_mem _ (List.mem_cons_of_mem _ (List.mem_cons_of_mem _ h)))) (fun hq => Or.inr hq)) ?_; refine JI 10 rfl ?_; refine cD (fun h21 => ?_) fun h21 => ?_
   refine Jq 3 rfl ?_; refine LR rfl (Jt (r := [_, _, _]) rfl rfl) ?_
   refine LT 1 rfl rfl ?_; refine Jx 4 rfl ?_; refine Jg rfl rfl (.cons (Jr (vs := [_, _, _]) rfl (kn 1 rfl) rfl rfl) .nil) (fun w1 hs1 => ?_)
   (have hne : KC X.st.er ≠ 0 := by omega
    exact ⟨⟨st0L, 0, KC X.st.er, [], qn, by rw [Jg0 hact (by omega), hchk]; rfl⟩, rfl, hs1.weakL (List.nil_sublist _)⟩)
   ·refine JK 3 rfl ?_
    have hc0 : KC X.st.er = 0 := by omega
    have hq : Q5 (Qq g.ts g.time).1 X.st.er g.rc = Q5 (Qq g.ts g.time).1 (Vb g.ac) g.rc := by rw [hsrt]
    refine Jq 2 rfl ?_; refine LR rfl (Jd (xs := X.st.cells) (n := 1) rfl (kn 0 rfl) rfl rfl rfl) ?_
    refine LS 2 [2] rfl rfl ?_; refine Ke rfl rfl rfl (enters_of Tryz.func34 (by kernel_rfl) rfl) (Jrl (R := X.L ++ R) (Qq g.ts g.time).1 hXin hg.rc) (fun q hq => (List.mem_append.1 hq).elim (fun h => Or.inl (List.mem_cons_of_mem _ (List.mem_cons_of_mem _ (List.mem_cons_of_mem _ h)))) (fun hq => Or.inr hq)) fun y => ?_; refine Kk (Qz y.L [_, _, _] (X.L)) ?_; change HL _ _ ((58, .tuple #[y.s.val, .int .i64 y.err]) :: _) ((r7, _) :: (r2, _) :: (r1, _) :: (y.L ++ (X.L))) _ _ _ _; refine LS 3 [] rfl rfl ?_; refine LN rfl fun r9 => ?_; refine Jh (k := 0) (n := 1) (ys := y.s.cells) rfl rfl rfl rfl rfl rfl rfl rfl rfl ?_; refine JI 10 rfl ?_; refine cD (fun h26 => ?_) fun h26 => ?_
    refine Jq 3 rfl ?_; refine LR rfl (Jt (r := [_, _, _]) rfl rfl) ?_
    refine LT 2 rfl rfl ?_; refine Jx 4 rfl ?_; refine Jg rfl rfl (.cons (Jr (vs := [_, _, _]) rfl (kn 2 rfl) rfl rfl) .nil) (fun w1 hs1 => ?_)
    (have hy := y.eq.trans hq
     have hne : y.err ≠ 0 := by omega
     exact ⟨⟨st0L, 0, y.err, [], qn, by rw [Jbl hact (by omega), ← hy, if_pos hne]; rfl⟩, rfl, hs1.weakL (List.nil_sublist _)⟩)
    ·refine Jq 4 rfl ?_; refine LR rfl (Jd (xs := y.s.cells) (n := 1) rfl (kn 0 rfl) rfl rfl rfl) ?_; refine Q1 rfl (LR rfl (Jt (r := [_, _, _]) rfl rfl) ?_)
     refine LT 2 rfl rfl ?_; refine Jx 3 rfl ?_; refine Jg rfl rfl (.cons (Jr (vs := [_, _, _]) rfl (kn 2 rfl) rfl rfl) .nil) (fun w1 hs1 => ?_)
     (have hy := y.eq.trans hq
      have he0 : y.err = 0 := by omega
      exact ⟨⟨y.s, (Qq g.ts g.time).1, 0, y.L ++ X.L, by rw [List.append_assoc]; exact y.ok, by rw [Jbl hact (by omega), ← hy, if_neg (by simpa using he0)]⟩, rfl, hs1.weakL (List.sublist_append_right [_, _, _, _] _)⟩)
end Go.Proofs.YtfaagelglpgpkaaGreatDoor
