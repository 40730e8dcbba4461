import Derived.Test.YtckoepmdmhdepaaGreatDoorZtStableg
import Derived.WalkKit
import Derived.LaidEql
import Derived.Stop.Asserts
import Derived.RowKitTokens
open Go.Proofs.Tryz (prog)
set_option maxRecDepth 100000
namespace Go.Proofs.YtckoepmdmhdepaaGreatDoor
set_option linter.all false
open Go.SL Go.RowKit Go.Shelf
open Go.Proofs (Enters enters_of)
variable {args : Array Value} {id s zw : BS} {v : Bool} {z : CZ} {E : Er} {g : FuncId} {e hi ze : Int} {Z : Int × List It} {x y : ItL} {F R R' Rl : J3} {ys : List ItL} {ts : List Nat} {cs vs : List Value} {α : Type} {a cap ch f i q r r1 r2 r5 sz u : Nat} {go : Obj} {dst : Option Nat} {P : Program} {row : QZ} {t : TxL} {c : UInt8} {bad : Value → Prop} {w : World}
structure RcE where
  kind : Int
  ok : Bool
  gas : Nat
  logs : List LgE
  has : Bool
  nonce : Nat
  ver : Nat
structure RcL where
  kind : Int
  ok : Bool
  gas : Nat
  p : Pl
  logs : List LgL
  has : Bool
  nonce : Nat
  ver : Nat
def Yz (l : List LgL) : List Value := l.flatMap LgL.cells
theorem Jrr (a b : List LgL) : Yz (a ++ b) = Yz a ++ Yz b := List.flatMap_append ..
def RcL.cells (a : RcL) : List Value := [.int .i64 a.kind, .bool a.ok, uV a.gas, Km a.logs.length a.p, .bool a.has, uV a.nonce, uV a.ver]
def RcL.val (a : RcL) : Value := .agg a.cells.toArray
def RcL.er (a : RcL) : RcE := ⟨a.kind, a.ok, a.gas, a.logs.map LgL.er, a.has, a.nonce, a.ver⟩
theorem RcL.len (a : RcL) : a.cells.length = 7 := rfl
theorem RcL.one (a : RcL) : a.cells.all VU = true := rfl
structure RcL.In (R : J3) (a : RcL) : Prop where
  len : a.logs.length ≤ 1000000
  seg : Seg R a.logs.length (Yz a.logs) a.p
  inn : ∀ x ∈ a.logs, x.In R
theorem RcL.In.mono (hs : ∀ q ∈ R, q ∈ R') {a : RcL} (h : a.In R) : a.In R' := ⟨h.len, h.seg.mono hs, fun x hx => (h.inn x hx).mono hs⟩
def ZS : List It → Er → List LgE × Er
 | [], E => ([], E)
 | y :: r, E => ((vl y E).1 :: (ZS r (vl y E).2).1, (ZS r (vl y E).2).2)
def rt1 (ys : List It) (E : Er) : (Bool × Nat) × Er := if ys = [] then ((false, 0), E) else ((true, (Jf (yO ys)).1), kE E [110, 117, 109, 98, 101, 114] (Jf (yO ys)).2)
def rt2 (ys : List It) (E : Er) : Nat × Er := if ys = [] then (0, E) else ((Jf (yO ys)).1, if (Jf (yO ys)).1 ≠ 1 then kE (kE E [110, 117, 109, 98, 101, 114] (Jf (yO ys)).2) [118, 101, 114, 115, 105, 111, 110] 2 else kE E [110, 117, 109, 98, 101, 114] (Jf (yO ys)).2)
def re3 (ys : List It) (E : Er) : Er := kE (kE (kE E [121, 101, 115] (Vc (yO ys)).2) [110, 117, 109, 98, 101, 114] (Jf (yO ys.tail)).2) [108, 105, 115, 116] (Ka (yO ys.tail.tail) 0 16)
def rls (ys : List It) (E : Er) : List LgE × Er := ZS (vk (yO ys.tail.tail) 0 16) (re3 ys E)
def rof (k : Int) (ys : List It) (E : Er) : RcE × Er :=
 (⟨k, (Vc (yO ys)).1, (Jf (yO ys.tail)).1, (rls ys E).1, (rt1 ys.tail.tail.tail (rls ys E).2).1.1, (rt1 ys.tail.tail.tail (rls ys E).2).1.2, (rt2 ys.tail.tail.tail.tail (rt1 ys.tail.tail.tail (rls ys E).2).2).1⟩,
  (rt2 ys.tail.tail.tail.tail (rt1 ys.tail.tail.tail (rls ys E).2).2).2)
structure RcN (g : RcE) where
  x : RcL
  L : J3
  inn : x.In L
  er : x.er = g
structure RlI (T : List It × Er) (R : J3) (zs : List ItL) (pz : Pl) (Ez : Er) (xs : List LgL) (row : QZ) (F : J3) : Prop where
  seg : Seg R zs.length (Kq zs) pz
  len : zs.length ≤ 1000000
  sub : ∀ y ∈ zs, y.In R
  tot : xs.length + zs.length ≤ 1000000
  eq : ZS T.1 T.2 = (xs.map LgL.er ++ (ZS (zs.map ItL.er) Ez).1, (ZS (zs.map ItL.er) Ez).2)
  ok : rowOk 3 xs.length (Yz xs) row
  inn : ∀ x ∈ xs, x.In F
theorem Jv2 (a b k : α) (P K Z : List α) : (a :: b :: (P ++ (k :: (K ++ Z)))).Perm (K ++ (a :: b :: (P ++ (k :: Z)))) := by
 have := Ye ([a, b] ++ (P ++ [k])) K Z
 simpa using this
theorem Jv3 (K F S : List α) : (K ++ (F ++ S)).Perm (S ++ (K ++ F)) := by
 rw [← Ld']; exact B'
theorem Jzl (ys : List ItL) (E : Er) : rt1 (ys.map ItL.er) E = if ys = [] then ((false, 0), E) else ((true, (Jf (QM ys).er).1), kE E [110, 117, 109, 98, 101, 114] (Jf (QM ys).er).2) := by
 unfold rt1
 cases ys with
 | nil => rw [List.map_nil, if_pos rfl, if_pos rfl]
 | cons y r =>
  have h1 : ¬ (y :: r).map ItL.er = [] := by simp
  have h2 : ¬ y :: r = [] := by simp
  rw [if_neg h1, if_neg h2, qD]
theorem Jzm (ys : List ItL) (E : Er) : rt2 (ys.map ItL.er) E = if ys = [] then (0, E) else ((Jf (QM ys).er).1, if (Jf (QM ys).er).1 ≠ 1 then kE (kE E [110, 117, 109, 98, 101, 114] (Jf (QM ys).er).2) [118, 101, 114, 115, 105, 111, 110] 2 else kE E [110, 117, 109, 98, 101, 114] (Jf (QM ys).er).2) := by
 unfold rt2
 cases ys with
 | nil => rw [List.map_nil, if_pos rfl, if_pos rfl]
 | cons y r =>
  have h1 : ¬ (y :: r).map ItL.er = [] := by simp
  have h2 : ¬ y :: r = [] := by simp
  rw [if_neg h1, if_neg h2, qD]
theorem Jwz {p : Pl} (k : Int) (hs : Seg R ys.length (Kq ys) p) (hl : ys.length ≤ 1000000) (hin : ∀ y ∈ ys, y.In R) :
  PureT (α := RcN (rof k (ys.map ItL.er) E).1) prog 254 [Kj q, .int .i64 k].toArray (fun z => z.x.val) [Q2 q ys.length p E] (fun z => Q2 q ys.tail.tail.tail.tail.tail.length (KX ys.tail.tail.tail.tail (KX ys.tail.tail.tail (KX ys.tail.tail (KX ys.tail (KX ys p))))) (rof k (ys.map ItL.er) E).2 :: z.L) R := by
 have hs1_ := YK hs
 have hs2_ := YK hs1_
 have hs3_ := YK hs2_
 have hs4_ := YK hs3_
 have hl1_ := YM hl
 have hl2_ := YM hl1_
 have hl3_ := YM hl2_
 have hl4_ := YM hl3_
 obtain ⟨hTi, hTs, hTl⟩ := qc (Jbk (xn (xn hin))) 0 16
 obtain ⟨E1, hE1⟩ : ∃ E1, kE E [121, 101, 115] (Vc (QM ys).er).2 = E1 := ⟨_, rfl⟩
 obtain ⟨E2, hE2⟩ : ∃ E2, kE E1 [110, 117, 109, 98, 101, 114] (Jf (QM ys.tail).er).2 = E2 := ⟨_, rfl⟩
 obtain ⟨E3, hE3⟩ : ∃ E3, kE E2 [108, 105, 115, 116] (Ka (QM ys.tail.tail).er 0 16) = E3 := ⟨_, rfl⟩
 obtain ⟨T, hT⟩ : ∃ T, W3 (QM ys.tail.tail) 0 16 = T := ⟨_, rfl⟩
 obtain ⟨tP, htP⟩ : ∃ tP, qb (QM ys.tail.tail) 0 16 = tP := ⟨_, rfl⟩
 obtain ⟨⟨ls, E4⟩, hLs⟩ : ∃ g, ZS (T.map ItL.er) E3 = g := ⟨_, rfl⟩
 obtain ⟨⟨⟨has, nonce⟩, E5⟩, hR1⟩ : ∃ g, rt1 (ys.tail.tail.tail.map ItL.er) E4 = g := ⟨_, rfl⟩
 obtain ⟨⟨ver, E7⟩, hR2⟩ : ∃ g, rt2 (ys.tail.tail.tail.tail.map ItL.er) E5 = g := ⟨_, rfl⟩
 obtain ⟨ok, hok⟩ : ∃ ok, (Vc (QM ys).er).1 = ok := ⟨_, rfl⟩
 obtain ⟨gas, hgas⟩ : ∃ gas, (Jf (QM ys.tail).er).1 = gas := ⟨_, rfl⟩
 have hre : re3 (ys.map ItL.er) E = E3 := by simp only [re3, qD, Jjw, hE1, hE2, hE3]
 have hrl : rls (ys.map ItL.er) E = (ls, E4) := by unfold rls; rw [hre]; simp only [vR, qD, Jjw, hT, hLs]
 have hof : rof k (ys.map ItL.er) E = (⟨k, ok, gas, ls, has, nonce, ver⟩, E7) := by
  unfold rof; rw [hrl]; simp only [qD, Jjw, hR1, hR2, hok, hgas]
 have hMy := Jzh (R := R) (q := q) (E := E) hs hl
 have hMn := Jgy (R := R) (q := q) (E := E1) hs1_ hl1_
 have hMr := qC (q := q) (E := E2) hs2_ hl2_ (xn (xn hin)) 0 16
 rw [hE1, hok] at hMy; rw [hE2, hgas] at hMn; rw [hE3, hT, htP] at hMr; rw [hT] at hTi hTl; rw [hT, htP] at hTs; rw [hof]; rw [Jzl] at hR1; rw [Jzm] at hR2
 have hMn1 := Jgy (R := R) (q := q) (E := E4) hs3_ hl3_
 have hMn2 := Jgy (R := R) (q := q) (E := E5) hs4_ hl4_
 refine Jq Tryz.func254 O O fun w => MZ ?_; refine LN O fun r4 => kB ?_; refine NR ?_; refine JI O (LR O (JN O O) (J5 8 O ?_)); refine QW (T := [_]) (L0 := [_]) (P') O O O (enters_of Tryz.func278 m4 O) hMy oR fun _ => ?_; change HL _ _ _ (Q2 q ys.tail.length (KX ys p) E1 :: [(r4, _)]) _ _ _ _; refine JI O (QW (T := [_]) (L0 := _) (O') O O O Jnw hMn oR fun _ => ?_); change HL _ _ _ (Q2 q ys.tail.tail.length (KX ys.tail (KX ys p)) E2 :: [(r4, _)]) _ _ _ _; refine LR O (Jo (r := [.int .i64 k, .bool ok, uV gas, .slice none 0 0, .bool false, uV 0, uV 0]) O m4) (LN O fun r7 => Je (k := 0) (n := 7) (ys := [.int .i64 k, .bool ok, uV gas, .slice none 0 0, .bool false, uV 0, uV 0]) O O O O O O O O O (kB ?_)); refine Jx (T := [_]) (L0 := [_, _]) (P') O O O zJ hMr oR fun q8 => ?_; change HL _ _ _ (Q2 q8 T.length tP E3 :: Q2 q ys.tail.tail.tail.length (KX ys.tail.tail (KX ys.tail (KX ys p))) E3 :: (r7, _) :: [(r4, _)]) _ _ _ _; refine gp ?_; refine NR ?_; refine JP 5 O (Zc [0, 2, 1, 3] m7 O (JQ (σ := List ItL × Pl × Er × List LgL × QZ × J3) (fun g => RlI (T.map ItL.er, E3) R g.1 g.2.1 g.2.2.1 g.2.2.2.1 g.2.2.2.2.1 g.2.2.2.2.2) (fun _ => [(8, Kj q8), (7, Kj r7), (4, Kj r4), (0, Kj q), (6, .func (.func 279) #[Kj q] #[]), (9, .func (.func 280) #[Kj q8] #[])]) (fun g => Q2 q8 g.1.length g.2.1 g.2.2.1 :: (r7, .cells #[.int .i64 k, .bool ok, uV gas, JV g.2.2.2.1.length g.2.2.2.2.1, .bool false, uV 0, uV 0] 36 (0, 0)) :: (J9 179 (Yz g.2.2.2.1) g.2.2.2.2.1 ++ (g.2.2.2.2.2 ++ [Q2 q ys.tail.tail.tail.length (KX ys.tail.tail (KX ys.tail (KX ys p))) E3, (r4, .cells #[.int .i64 0, .bool false, uV 0, .slice none 0 0, .bool false, uV 0, uV 0] 36 (0, 0))]))) (fun _ _ _ => True) (fun g => g.1.length) (T, tP, E3, [], none, []) ⟨hTs, hTl, hTi, by simp only [List.length_nil]; omega, rfl, ⟨rfl, rfl⟩, fun _ h => nomatch h⟩ (lK rfl) (T') (fun _ _ h => h) ?_)); rintro ⟨zs, pz, Ez, xs, row, F⟩ hI; simp only at hI; change HC _ _ [(8, Kj q8), (7, Kj r7), (4, Kj r4), (0, Kj q), (6, .func (.func 279) #[Kj q] #[]), (9, .func (.func 280) #[Kj q8] #[])] (Q2 q8 zs.length pz Ez :: (r7, .cells #[.int .i64 k, .bool ok, uV gas, JV xs.length row, .bool false, uV 0, uV 0] 36 (0, 0)) :: (J9 179 (Yz xs) row ++ (F ++ [Q2 q ys.tail.tail.tail.length (KX ys.tail.tail (KX ys.tail (KX ys p))) E3, (r4, .cells #[.int .i64 0, .bool false, uV 0, .slice none 0 0, .bool false, uV 0, uV 0] 36 (0, 0))]))) _ _ _; refine EY ?_; refine cD (fun h9 => ?_) fun h9 => ?_
 refine D5 ?_
 obtain ⟨z, zr, rfl⟩ : ∃ z zr, zs = z :: zr := by
  cases zs with
  | nil => exfalso; simp at *
  | cons z zr => exact ⟨z, zr, rfl⟩
 have htl := hI.tot
 simp only [List.length_cons] at htl; refine Kk [(r7, .cells #[.int .i64 k, .bool ok, uV gas, JV xs.length row, .bool false, uV 0, uV 0] 36 (0, 0))] [(0, .pure), (1, .pure), (2, .pure), (3, .turn), (4, .dep [33] (Jhu 1 179))] 5 [0, 1, 2, 3, 4] m4 m4 (fun p hp => by rw [U'.1 hp]; exact M' N') ?_
 refine gM ?_; refine Jr (k := 1) O O O O O (fun _ hS => Jc (v := JV xs.length row) O (.inl (hS _ (J0 (n := 0) O))) O O) (ku ?_); refine xh (k := 3) (T0 := [Q2 q8 (z :: zr).length pz Ez]) (L0 := (r7, .cells #[.int .i64 k, .bool ok, uV gas, JV xs.length row, .bool false, uV 0, uV 0] 36 (0, 0)) :: (J9 179 (Yz xs) row ++ (F ++ [Q2 q ys.tail.tail.tail.length (KX ys.tail.tail (KX ys.tail (KX ys p))) E3, (r4, .cells #[.int .i64 0, .bool false, uV 0, .slice none 0 0, .bool false, uV 0, uV 0] 36 (0, 0))]))) (E' := fun x => Q2 q8 zr.length (KX (z :: zr) pz) (vl z.er Ez).2 :: (x.L ++ ((r7, .cells #[.int .i64 k, .bool ok, uV gas, JV xs.length row, .bool false, uV 0, uV 0] 36 (0, 0)) :: (J9 179 (Yz xs) row ++ (F ++ [Q2 q ys.tail.tail.tail.length (KX ys.tail.tail (KX ys.tail (KX ys p))) E3, (r4, .cells #[.int .i64 0, .bool false, uV 0, .slice none 0 0, .bool false, uV 0, uV 0] 36 (0, 0))]))))) (Rl := R) (O') (fun _ => O') O O O O O (enters_of Tryz.func280 m4 O) (Jzi hI.seg hI.len hI.sub) oR (fun _ p hp => by rw [U'.1 hp]; exact M' (Y' N')) fun x => Vb (k := 4) (dv := [_]) (n := 1) (sz := 3) (vs := [_]) (zs := [_, _, _]) (r := x.x.cells) O O O O O O O O O O O O O n5 m4 fun rb => KJ (Kw (L0 := (rb, _) :: Q2 q8 zr.length (KX (z :: zr) pz) (vl z.er Ez).2 :: (x.L ++ ((r7, .cells #[.int .i64 k, .bool ok, uV gas, JV xs.length row, .bool false, uV 0, uV 0] 36 (0, 0)) :: (F ++ [Q2 q ys.tail.tail.tail.length (KX ys.tail.tail (KX ys.tail (KX ys p))) E3, (r4, .cells #[.int .i64 0, .bool false, uV 0, .slice none 0 0, .bool false, uV 0, uV 0] 36 (0, 0))])))) (xs := Yz xs) (row := row) (n := xs.length) (sz := 3) (b := 56) (news := x.x.cells) (Jv2 _ _ _ _ _ _) O O O O (kn 0 O) O O O O O m7 O O O m7 hI.ok m3 m3 fun ra cap sp hra => JY (((List.perm_middle.cons _).cons _).cons _) ?_); change HL _ _ _ ((ra, _) :: (rb, _) :: Q2 q8 zr.length (KX (z :: zr) pz) (vl z.er Ez).2 :: (r7, .cells #[.int .i64 k, .bool ok, uV gas, JV xs.length row, .bool false, uV 0, uV 0] 36 (0, 0)) :: (x.L ++ (F ++ [Q2 q ys.tail.tail.tail.length (KX ys.tail.tail (KX ys.tail (KX ys p))) E3, (r4, .cells #[.int .i64 0, .bool false, uV 0, .slice none 0 0, .bool false, uV 0, uV 0] 36 (0, 0))]))) _ _ _ _
 refine MP ?_; refine Jm (k := 3) (cs' := #[.int .i64 k, .bool ok, uV gas, JV (xs.length + 1) (some (ra, cap, sp)), .bool false, uV 0, uV 0]) O O O O O O O O O O (Nd ?_); refine Wy (A := [_, _, _, _]) (A' := [_, _, _]) [2, 3, 0] m7 O ?_
 have ea : Yz xs ++ x.x.cells = Yz (xs ++ [x.x]) := by rw [Jrr]; simp [Yz]
 rw [ea] at hra ⊢
 have en : xs.length + 1 = (xs ++ [x.x]).length := by rw [C']; rfl
 rw [en] at hra ⊢; change HQ _ _ _ (_ :: _ :: (ra, _) :: (x.L ++ (F ++ [Q2 q ys.tail.tail.tail.length (KX ys.tail.tail (KX ys.tail (KX ys p))) E3, (r4, .cells #[.int .i64 0, .bool false, uV 0, .slice none 0 0, .bool false, uV 0, uV 0] 36 (0, 0))]))) _ _; rw [← Ld' x.L F]; exact JL (zr, KX (z :: zr) pz, (vl z.er Ez).2, xs ++ [x.x], some (ra, cap, sp), x.L ++ F) ⟨YK hI.seg, YM hI.len, fun y hy => hI.sub y (M' hy), by simp only [C', List.length_singleton]; omega, by rw [hI.eq, List.map_append, Ld', show List.map LgL.er [x.x] = [(vl z.er Ez).1] from congrArg (fun g => [g]) x.er]; rfl, hra, fun y hy => (G'.1 hy).elim (fun h => (hI.inn y h).mono fun q hq => Y' hq) fun h => by rw [U'.1 h]; exact x.inn.mono fun q hq => W' hq⟩ (by simp only [List.length_cons]; omega) (lK rfl) (T') (fun _ _ h => h)
 ·refine gv ?_
  obtain rfl : zs = [] := by
   cases zs with
   | nil => rfl
   | cons z zr => exfalso; simp only [List.length_cons] at *; omega
  have hIe := hI.eq
  rw [hLs] at hIe
  obtain ⟨hls, hE4⟩ := Prod.mk.inj hIe
  obtain rfl : E4 = Ez := hE4
  have hrow := hI.ok
  have hrv : JV xs.length row = Km xs.length (Ke row) := KK hrow
  rw [hrv]; refine jD (((Jv3 _ _ _).cons _).cons _) (Jbb (A := [_, _, _, _]) (A' := [_, _, _, _]) [2, 0, 1, 3] m7 O ?_); change HC _ _ _ (Q2 q ys.tail.tail.tail.length (KX ys.tail.tail (KX ys.tail (KX ys p))) E3 :: Q2 q8 ([] : List ItL).length pz E4 :: (r7, .cells #[.int .i64 k, .bool ok, uV gas, Km xs.length (Ke row), .bool false, uV 0, uV 0] 36 (0, 0)) :: (r4, .cells #[.int .i64 0, .bool false, uV 0, .slice none 0 0, .bool false, uV 0, uV 0] 36 (0, 0)) :: (J9 179 (Yz xs) row ++ F)) _ _ _; refine Di ?_; refine LR O (Jc (v := jY E4) O (kn 1 O) O O) (Ho ?_)
  refine Jm (k := 0) (cs' := #[Km ys.tail.tail.tail.length (KX ys.tail.tail (KX ys.tail (KX ys p))), jY E4]) O O O O O (by cases E4 <;> rfl) rfl rfl rfl rfl ?_; refine Ec ?_; refine LR O (Jc (v := Km ys.tail.tail.tail.length (KX ys.tail.tail (KX ys.tail (KX ys p)))) O (kn 0 O) O O) ?_; refine Fk ?_; refine QR (α := Unit) (fun _ => True) (fun _ => [(8, Kj q8), (7, Kj r7), (4, Kj r4), (0, Kj q), (6, .func (.func 279) #[Kj q] #[])]) (fun _ => Q2 q ys.tail.tail.tail.tail.length (KX ys.tail.tail.tail (KX ys.tail.tail (KX ys.tail (KX ys p)))) E5 :: Q2 q8 ([] : List ItL).length pz E4 :: (r7, .cells #[.int .i64 k, .bool ok, uV gas, Km xs.length (Ke row), .bool has, uV nonce, uV 0] 36 (0, 0)) :: (r4, .cells #[.int .i64 0, .bool false, uV 0, .slice none 0 0, .bool false, uV 0, uV 0] 36 (0, 0)) :: (J9 179 (Yz xs) row ++ F)) ?_ ?_
  rintro _ _
  refine wh 6 O ?_
  refine MP ?_; refine LR O (Jc (v := Km ys.tail.tail.tail.tail.length (KX ys.tail.tail.tail (KX ys.tail.tail (KX ys.tail (KX ys p))))) O (kn 0 O) O O) (Fk ?_); refine cD (fun h15 => ?_) fun h15 => ?_
  refine gz ?_; refine QW (T := [_]) (L0 := _) (O') O O O Jnw hMn2 oR fun _ => ?_; change HL _ _ _ (Q2 q ys.tail.tail.tail.tail.tail.length (KX ys.tail.tail.tail.tail (KX ys.tail.tail.tail (KX ys.tail.tail (KX ys.tail (KX ys p))))) (kE E5 [110, 117, 109, 98, 101, 114] (Jf (QM ys.tail.tail.tail.tail).er).2) :: Q2 q8 ([] : List ItL).length pz E4 :: (r7, .cells #[.int .i64 k, .bool ok, uV gas, Km xs.length (Ke row), .bool has, uV nonce, uV 0] 36 (0, 0)) :: (r4, _) :: (J9 179 (Yz xs) row ++ F)) _ _ _ _
  refine MP ?_; refine Jm (k := 2) (cs' := #[.int .i64 k, .bool ok, uV gas, Km xs.length (Ke row), .bool has, uV nonce, uV (Jf (QM ys.tail.tail.tail.tail).er).1]) O O O O O O O O O O (kV ?_)
  refine MP ?_; refine LR O (Jc (v := uV (Jf (QM ys.tail.tail.tail.tail).er).1) O (kn 2 O) O O) (NQ ?_); refine cD (fun h18 => ?_) fun h18 => ?_
  refine NG ?_; refine Jx (T := [_]) (L0 := _) (O') O O O zK (ZE (R := R) q ys.tail.tail.tail.tail.tail.length (KX ys.tail.tail.tail.tail (KX ys.tail.tail.tail (KX ys.tail.tail (KX ys.tail (KX ys p))))) (kE E5 [110, 117, 109, 98, 101, 114] (Jf (QM ys.tail.tail.tail.tail).er).2) [118, 101, 114, 115, 105, 111, 110] 2) oR fun _ => kV ?_
  refine N7 ?_
  have htot : xs.length ≤ 1000000 := by have h := hI.tot; omega
  (refine Jh O O (.cons (Jj (vs := [.int .i64 k, .bool ok, uV gas, Km xs.length (Ke row), .bool has, uV nonce, uV (Jf (QM ys.tail.tail.tail.tail).er).1]) O (kn 3 O) O O) .nil) (fun w1 hs1 => ?_)
   have h4 : ¬ ys.tail.tail.tail.tail = [] := by intro h; simp [h] at *
   rw [if_neg h4] at hR2
   obtain ⟨hver, hE7⟩ := Prod.mk.inj hR2
   rw [if_pos m3] at hE7; rw [hE7] at hs1; subst hver
   exact ⟨⟨⟨k, ok, gas, Ke row, xs, has, nonce, (Jf (QM ys.tail.tail.tail.tail).er).1⟩, J9 179 (Yz xs) row ++ F, ⟨htot, (Ks (e := 179) hrow m7).mono fun q hq => W' hq, fun x hx => (hI.inn x hx).mono fun q hq => Y' hq⟩, by rw [hls]; simp [RcL.er, ZS]⟩, rfl, hs1.weakL (.cons_cons _ (.cons _ (.cons _ (.cons _ (T')))))⟩)
  refine gw ?_
  refine N7 ?_
  have htot : xs.length ≤ 1000000 := by have h := hI.tot; omega
  (refine Jh O O (.cons (Jj (vs := [.int .i64 k, .bool ok, uV gas, Km xs.length (Ke row), .bool has, uV nonce, uV (Jf (QM ys.tail.tail.tail.tail).er).1]) O (kn 3 O) O O) .nil) (fun w1 hs1 => ?_)
   have h4 : ¬ ys.tail.tail.tail.tail = [] := by intro h; simp [h] at *
   rw [if_neg h4] at hR2
   obtain ⟨hver, hE7⟩ := Prod.mk.inj hR2
   rw [if_neg m3] at hE7; rw [hE7] at hs1; subst hver
   exact ⟨⟨⟨k, ok, gas, Ke row, xs, has, nonce, (Jf (QM ys.tail.tail.tail.tail).er).1⟩, J9 179 (Yz xs) row ++ F, ⟨htot, (Ks (e := 179) hrow m7).mono fun q hq => W' hq, fun x hx => (hI.inn x hx).mono fun q hq => Y' hq⟩, by rw [hls]; simp [RcL.er, ZS]⟩, rfl, hs1.weakL (.cons_cons _ (.cons _ (.cons _ (.cons _ (T')))))⟩)
  refine gw ?_
  refine N7 ?_
  have htot : xs.length ≤ 1000000 := by have h := hI.tot; omega
  (refine Jh O O (.cons (Jj (vs := [.int .i64 k, .bool ok, uV gas, Km xs.length (Ke row), .bool has, uV nonce, uV 0]) O (kn 3 O) O O) .nil) (fun w1 hs1 => ?_)
   have h4 : ys.tail.tail.tail.tail = [] := List.eq_nil_of_length_eq_zero m3
   rw [if_pos h4] at hR2
   obtain ⟨hver, hE7⟩ := Prod.mk.inj hR2
   subst hver hE7
   have hx : Q2 q ys.tail.tail.tail.tail.length (KX ys.tail.tail.tail (KX ys.tail.tail (KX ys.tail (KX ys p)))) E5 = Q2 q ys.tail.tail.tail.tail.tail.length (KX ys.tail.tail.tail.tail (KX ys.tail.tail.tail (KX ys.tail.tail (KX ys.tail (KX ys p))))) E5 := by unfold Q2 KX; rw [if_pos h4, h4]; rfl
   rw [hx] at hs1
   exact ⟨⟨⟨k, ok, gas, Ke row, xs, has, nonce, 0⟩, J9 179 (Yz xs) row ++ F, ⟨htot, (Ks (e := 179) hrow m7).mono fun q hq => W' hq, fun x hx => (hI.inn x hx).mono fun q hq => Y' hq⟩, by rw [hls]; simp [RcL.er, ZS]⟩, rfl, hs1.weakL (.cons_cons _ (.cons _ (.cons _ (.cons _ (T')))))⟩)
  ·intro hJ
   refine cD (fun h22 => ?_) fun h22 => ?_
   refine NG ?_; refine QW (T := [_]) (L0 := _) (O') O O O Jnw hMn1 oR fun _ => ?_; rw [if_neg (by intro h; simp [h] at *)] at hR1
   obtain ⟨h1, hE5⟩ := Prod.mk.inj hR1
   obtain ⟨hhas, hnonce⟩ := Prod.mk.inj h1
   rw [hE5, hnonce]; change HL _ _ _ (Q2 q ys.tail.tail.tail.tail.length (KX ys.tail.tail.tail (KX ys.tail.tail (KX ys.tail (KX ys p)))) E5 :: Q2 q8 ([] : List ItL).length pz E4 :: (r7, .cells #[.int .i64 k, .bool ok, uV gas, Km xs.length (Ke row), .bool false, uV 0, uV 0] 36 (0, 0)) :: (r4, _) :: (J9 179 (Yz xs) row ++ F)) _ _ _ _
   refine MP ?_; refine Jm (k := 2) (cs' := #[.int .i64 k, .bool ok, uV gas, Km xs.length (Ke row), .bool true, uV 0, uV 0]) O O O O O O O O O O ?_
   refine MP ?_; refine Jm (k := 2) (cs' := #[.int .i64 k, .bool ok, uV gas, Km xs.length (Ke row), .bool true, uV nonce, uV 0]) O O O O O O O O O O (JD 1 O ?_)
   (subst hhas
    exact hJ _ _ () trivial (lK O) (T'))
   ·refine KF 1 O ?_
    (have h0 : ys.tail.tail.tail = [] := List.eq_nil_of_length_eq_zero m3
     rw [if_pos h0] at hR1
     obtain ⟨h1, hE5⟩ := Prod.mk.inj hR1
     obtain ⟨hhas, hnonce⟩ := Prod.mk.inj h1
     subst hhas hnonce hE5
     have hx : Q2 q ys.tail.tail.tail.length (KX ys.tail.tail (KX ys.tail (KX ys p))) E4 = Q2 q ys.tail.tail.tail.tail.length (KX ys.tail.tail.tail (KX ys.tail.tail (KX ys.tail (KX ys p)))) E4 := by unfold Q2 KX; rw [if_pos h0, h0]; rfl
     change HQ _ _ _ (Q2 q ys.tail.tail.tail.length (KX ys.tail.tail (KX ys.tail (KX ys p))) E4 :: _ :: _ :: _ :: _) _ _; rw [hx]
     exact hJ _ _ () trivial (lK O) (T'))
open Go.RowKit Go.Extern.Stop Go.Stop Go.Extern
theorem yP (t : Addr) (w : World) : (ReflectliteValue.unpack (.iface 344 (.pointer (some t)))).run prog w
  = .ok (.agg #[.pointer (some ⟨4, 344, none⟩), .pointer (some ⟨w.heap.size, 0, none⟩), .int .u64 150]) (w.alloc (.cells #[.pointer (some t)] 344)) := by kernel_rfl
theorem Jg0 (a : Addr) (w : World) : (ReflectliteValue.methodAny (ReflectliteValue.valueError "reflectlite.Value.Type" 0) (fun t _ _ _ => ReflectliteType.toType t) #[.agg #[.pointer (some ⟨4, 344, none⟩), .pointer (some a), .int .u64 150]]).run prog w
  = .ok (.iface 417 (.agg #[.pointer (some ⟨4, 344, none⟩)])) w := by kernel_rfl
theorem yQ (h : Value) (w : World) : (Go.method 588 417 (.agg #[h]) "Kind").run prog w = .ok (367, h) w := by kernel_rfl
theorem Jg1 (w : World) : ((ReflectliteType.abiMethod fun t => (fun a : Nat => Value.int IntKind.u8 (a : Int)) <$> Rtype.kind t) #[.pointer (some ⟨4, 344, none⟩)]).run prog w = .ok (.int .u8 22) w := by kernel_rfl
theorem Jlq (w : World) : ((ReflectliteType.abiMethod fun t => (fun a : Nat => Value.int IntKind.u8 (a : Int)) <$> Rtype.kind t) #[.pointer (some ⟨4, 43, none⟩)]).run prog w = .ok (.int .u8 2) w := by kernel_rfl
theorem Jrs (z : Sem Value) (f : TypeId → Addr → Nat → Nat → Sem Value) (v : Value) :
  ReflectliteValue.method z f #[v] = (do match ← ReflectliteValue.parts v with | none => z | some (t, a, fl) => f t a fl (fl % 32)) := rfl
theorem qX (a : Addr) (w : World) : (ReflectliteValue.parts (.agg #[.pointer (some ⟨4, 344, none⟩), .pointer (some a), .int .u64 150])).run prog w = .ok (some (344, a, 150)) w := by kernel_rfl
theorem Jeq (a p : Addr) (W : World) (ha : W.cell? a = some (.pointer (some p))) :
  (ReflectliteValue.method (ReflectliteValue.valueError "reflectlite.Value.IsNil" 0) ReflectliteValue.isNil #[.agg #[.pointer (some ⟨4, 344, none⟩), .pointer (some a), .int .u64 150]]).run prog W = .ok (.bool false) W := by
 rw [Jrs]; simp only [Sem.run_bind, qX, Result.andThen]
 simp [ReflectliteValue.isNil, loadVar, isAgg, underlying, Tryz.underlying344, ha, Result.andThen]
theorem yR (h : Value) (w : World) : (Go.method 588 417 (.agg #[h]) "Elem").run prog w = .ok (380, .agg #[h]) w := by kernel_rfl
theorem ZM (h : Value) (w : World) : (Go.method 588 417 (.agg #[h]) "Implements").run prog w = .ok (381, .agg #[h]) w := by kernel_rfl
theorem Za (h : Value) (w : World) : (Go.method 588 417 (.agg #[h]) "AssignableTo").run prog w = .ok (378, .agg #[h]) w := by kernel_rfl
theorem Jg2 (w : World) : (ReflectliteType.method ReflectliteType.elem #[.agg #[.pointer (some ⟨4, 344, none⟩)]]).run prog w = .ok (.iface 417 (.agg #[.pointer (some ⟨4, 43, none⟩)])) w := by kernel_rfl
theorem vm (w : World) : (ReflectliteType.relation "Implements" ReflectliteType.implements_ #[.agg #[.pointer (some ⟨4, 43, none⟩)], .iface 417 (.agg #[.pointer (some ⟨4, 156, none⟩)])]).run prog w = .ok (.bool true) w := by kernel_rfl
theorem Jer (v : Value) (w : World) : (ReflectliteType.typeOf #[.iface 43 v]).run prog w = .ok (.iface 417 (.agg #[.pointer (some ⟨4, 43, none⟩)])) w := by kernel_rfl
theorem Jbl (v : Value) (w : World) : (ReflectliteType.typeOf #[.iface 415 v]).run prog w = .ok (.iface 417 (.agg #[.pointer (some ⟨4, 415, none⟩)])) w := by kernel_rfl
theorem vn (w : World) : (ReflectliteType.relation "AssignableTo" ReflectliteType.assignableTo #[.agg #[.pointer (some ⟨4, 43, none⟩)], .iface 417 (.agg #[.pointer (some ⟨4, 43, none⟩)])]).run prog w = .ok (.bool true) w := by kernel_rfl
theorem qE (w : World) : (ReflectliteType.relation "AssignableTo" ReflectliteType.assignableTo #[.agg #[.pointer (some ⟨4, 415, none⟩)], .iface 417 (.agg #[.pointer (some ⟨4, 43, none⟩)])]).run prog w = .ok (.bool false) w := by kernel_rfl
theorem Jbm (e : Int) (w : World) : (ReflectliteValue.unpack (.iface 43 (.int .i64 e))).run prog w
  = .ok (.agg #[.pointer (some ⟨4, 43, none⟩), .pointer (some ⟨w.heap.size, 0, none⟩), .int .u64 130]) (w.alloc (.cells #[.int .i64 e] 43)) := by kernel_rfl
theorem Jbn (w : World) : (Rtype.elem? 344).run prog w = .ok (some 43) w := by kernel_rfl
theorem Jv4 (p : Addr) (w : World) : (ReflectliteValue.mk 43 p ReflectliteValue.flagAddr).run prog w = .ok (.agg #[.pointer (some ⟨4, 43, none⟩), .pointer (some p), .int .u64 386]) w := by kernel_rfl
theorem Jes (a p : Addr) (W : World) (ha : W.cell? a = some (.pointer (some p))) :
  (ReflectliteValue.method (ReflectliteValue.valueError "reflectlite.Value.Elem" 0) ReflectliteValue.elem #[.agg #[.pointer (some ⟨4, 344, none⟩), .pointer (some a), .int .u64 150]]).run prog W
   = .ok (.agg #[.pointer (some ⟨4, 43, none⟩), .pointer (some p), .int .u64 386]) W := by
 rw [Jrs]; simp only [Sem.run_bind, qX, Result.andThen]
 simp [ReflectliteValue.elem, loadVar, isAgg, underlying, Tryz.underlying344, ha, Result.andThen, Jbn, Jv4]
theorem Jzn (v x : Value) : ReflectliteValue.set #[v, x] = (do
  let (some (dst, a, fl), some (src, b, _)) := (← ReflectliteValue.parts v, ← ReflectliteValue.parts x)
   | unsupported (.noEntry "extern/(internal/reflectlite.Value).Set.zeroValue")
  if fl / ReflectliteValue.flagAddr % 2 == 0 then unsupported (.noEntry "extern/(internal/reflectlite.Value).Set.unaddressable")
  let val ← loadVar src b
  if ← Rtype.directlyAssignable dst src then storeVar dst a val
  else if ← Rtype.implements dst src then
   if (← Rtype.kind src) == 20 then
    match val with
    | .nilIface => unsupported (.noEntry "extern/reflectlite: a nil value of one interface type handed on as a value of another")
    | _ => storeVar dst a val
   else storeVar dst a (.iface src val)
  else panicString ("reflectlite.Set: value of type " ++ (← Rtype.spelt src) ++ " is not assignable to type " ++ (← Rtype.spelt dst))
  pure (.tuple #[])) := rfl
theorem Jet (a : Addr) (w : World) : (ReflectliteValue.parts (.agg #[.pointer (some ⟨4, 43, none⟩), .pointer (some a), .int .u64 386])).run prog w = .ok (some (43, a, 386)) w := by kernel_rfl
theorem Jg3 (a : Addr) (w : World) : (ReflectliteValue.parts (.agg #[.pointer (some ⟨4, 43, none⟩), .pointer (some a), .int .u64 130])).run prog w = .ok (some (43, a, 130)) w := by kernel_rfl
theorem Jeu (w : World) : (Rtype.directlyAssignable 43 43).run prog w = .ok true w := by kernel_rfl
theorem Jrt (ta b : Addr) (e : Int) (old : Value) (W : World) (hb : W.cell? b = some (.int .i64 e)) (ht : W.cell? ta = some old) (hf : W.frozen? ta = false) :
  (ReflectliteValue.set #[.agg #[.pointer (some ⟨4, 43, none⟩), .pointer (some ta), .int .u64 386], .agg #[.pointer (some ⟨4, 43, none⟩), .pointer (some b), .int .u64 130]]).run prog W
   = .ok (.tuple #[]) (W.setCell ta (.int .i64 e)) := by
 rw [Jzn]; simp only [Sem.run_bind, Jet, Jg3, Result.andThen]
 simp [ReflectliteValue.flagAddr, loadVar, isAgg, underlying, Tryz.underlying43, hb, Result.andThen, Jeu, storeVar, Value.cells, storeCells, Addr.add]
 rw [run_store prog W ta _ _ (by rfl)]
 simp [ht, hf]
theorem vo (v : Value) (w : World) : (Go.method 588 415 v "Unwrap").run prog w = .ok (376, v) w := by kernel_rfl
theorem Jbo (v : Value) (w : World) : (Instr.typeAssert (.iface 415 v) 156 422 true).run prog w = .ok (.tuple #[.nilIface, .bool false]) w := run_typeAssert_lacksB Tryz.underlying422 m4 m4 v 156 w
theorem Jbp (v : Value) (w : World) : (Instr.typeAssert (.iface 415 v) 156 425 true).run prog w = .ok (.tuple #[.iface 415 v, .bool true]) w := run_typeAssert_hasB Tryz.underlying425 m4 v 156 w
theorem Jlr (s v : Value) (w : World) : Calls prog 376 #[.agg #[s, v]] w fun e w' => e = .returned v ∧ w' = w.alloc (.cells #[s, v] 415) := by
 go_enter Tryz.func376, Tryz.ntmps376
 go_wp2
 go_ret
 simp
set_option maxHeartbeats 4000000 in
theorem Jzo (s : Value) (e : Int) (t : Addr) (old : Value) (w : World) (hg : w.cell? ⟨0, 0, none⟩ = some (.iface 417 (.agg #[.pointer (some ⟨4, 156, none⟩)]))) (ht0 : w.cell? t = some old) (hf0 : w.frozen? t = false) :
  Calls prog 255 #[.iface 415 (.agg #[s, .iface 43 (.int .i64 e)]), .iface 344 (.pointer (some t))] w fun ev w' => ev = .returned (.bool true) ∧ w' = (((((w.alloc (.cells #[.pointer (some t)] 344)).alloc (.cells #[.pointer (some ⟨4, 344, none⟩), .pointer (some ⟨w.heap.size, 0, none⟩), .int .u64 150] 377)).alloc (.cells #[.pointer (some ⟨4, 344, none⟩), .pointer (some ⟨w.heap.size, 0, none⟩), .int .u64 150] 377)).alloc (.cells #[s, .iface 43 (.int .i64 e)] 415)).alloc (.cells #[.int .i64 e] 43)).setCell t (.int .i64 e) := by
 have h6 := @run_callFunc_extern prog 281 _ (fun args => ReflectliteValue.unpack (args.getD 0 (.tuple #[]))) Tryz.func281 m4 m4 m4 m4
 have h7 := @run_callFunc_extern prog 282 _ (ReflectliteValue.methodAny (ReflectliteValue.valueError "reflectlite.Value.Type" 0) (fun t _ _ _ => ReflectliteType.toType t)) Tryz.func282 m4 m4 m4 m4
 have h8 := @run_callFunc_extern prog 283 _ (ReflectliteValue.method (ReflectliteValue.valueError "reflectlite.Value.IsNil" 0) ReflectliteValue.isNil) Tryz.func283 m4 m4 m4 m4
 have h27 := @run_callFunc_extern prog 367 _ (ReflectliteType.abiMethod fun t => do pure (.int .u8 (← Rtype.kind t))) Tryz.func367 m4 m4 m4 m4
 have h37 := @run_callFunc_extern prog 380 _ (ReflectliteType.method ReflectliteType.elem) Tryz.func380 m4 m4 m4 m4
 have h38 := @run_callFunc_extern prog 381 _ (ReflectliteType.relation "Implements" ReflectliteType.implements_) Tryz.func381 m4 m4 m4 m4
 have h10 := @run_callFunc_extern prog 323 _ ReflectliteType.typeOf Tryz.func323 m4 m4 m4 m4
 have h35 := @run_callFunc_extern prog 378 _ (ReflectliteType.relation "AssignableTo" ReflectliteType.assignableTo) Tryz.func378 m4 m4 m4 m4
 have h11 := @run_callFunc_extern prog 324 _ (ReflectliteValue.method (ReflectliteValue.valueError "reflectlite.Value.Elem" 0) ReflectliteValue.elem) Tryz.func324 m4 m4 m4 m4
 have h12 := @run_callFunc_extern prog 325 _ ReflectliteValue.set Tryz.func325 m4 m4 m4 m4
 have tO := Jer
 have tA := Jbo
 have tB := Jbp
 have tO4 := Jbl
 have mA := Za
 have mU := vo
 have a43 := vn
 have a415 := qE
 have v43 := Jbm
 have f6 := yP
 have f7 := Jg0
 have mK := yQ
 have mE := yR
 have mI := ZM
 have k344 := Jg1
 have k43 := Jlq
 have e344 := Jg2
 have i43 := vm
 obtain ⟨W1, hW1⟩ : ∃ W, W = w.alloc (.cells #[.pointer (some t)] 344) := ⟨_, rfl⟩
 have n8 := Jeq ⟨w.heap.size, 0, none⟩ t ((w.alloc (.cells #[.pointer (some t)] 344)).alloc (.cells #[.pointer (some ⟨4, 344, none⟩), .pointer (some ⟨w.heap.size, 0, none⟩), .int .u64 150] 377)) mf
 have hlt : 0 < w.heap.size := by
  rcases Nat.eq_zero_or_pos w.heap.size with h0 | h
  ·simp [World.cell?, h0] at hg
  ·exact h
 have hg2 : ((w.alloc (.cells #[.pointer (some t)] 344)).alloc (.cells #[.pointer (some ⟨4, 344, none⟩), .pointer (some ⟨w.heap.size, 0, none⟩), .int .u64 150] 377)).cell? ⟨0, 0, none⟩ = some (.iface 417 (.agg #[.pointer (some ⟨4, 156, none⟩)])) := by
  rw [World.cell?_alloc_lt _ _ ⟨0, 0, none⟩ mf, World.cell?_alloc_lt _ _ ⟨0, 0, none⟩ hlt]; exact hg
 have htl : t.block < w.heap.size := by
  rcases Nat.lt_or_ge t.block w.heap.size with h | h
  ·exact h
  ·simp [World.cell?, Array.getElem?_eq_none h] at ht0
 have el := Jes ⟨w.heap.size, 0, none⟩ t ((((w.alloc (.cells #[.pointer (some t)] 344)).alloc (.cells #[.pointer (some ⟨4, 344, none⟩), .pointer (some ⟨w.heap.size, 0, none⟩), .int .u64 150] 377)).alloc (.cells #[.pointer (some ⟨4, 344, none⟩), .pointer (some ⟨w.heap.size, 0, none⟩), .int .u64 150] 377)).alloc (.cells #[s, .iface 43 (.int .i64 e)] 415))
  (by rw [World.cell?_alloc_lt _ _ ⟨w.heap.size, 0, none⟩ mL, World.cell?_alloc_lt _ _ ⟨w.heap.size, 0, none⟩ mL, World.cell?_alloc_lt _ _ ⟨w.heap.size, 0, none⟩ mf]; simp)
 have st := Jrt t ⟨w.heap.size + 1 + 1 + 1 + 1, 0, none⟩ e old (((((w.alloc (.cells #[.pointer (some t)] 344)).alloc (.cells #[.pointer (some ⟨4, 344, none⟩), .pointer (some ⟨w.heap.size, 0, none⟩), .int .u64 150] 377)).alloc (.cells #[.pointer (some ⟨4, 344, none⟩), .pointer (some ⟨w.heap.size, 0, none⟩), .int .u64 150] 377)).alloc (.cells #[s, .iface 43 (.int .i64 e)] 415)).alloc (.cells #[.int .i64 e] 43))
  (by rw [World.cell?_alloc_at _ _ _ _ mf]; rfl)
  (by rw [World.cell?_alloc_lt _ _ t mL, World.cell?_alloc_lt _ _ t mL, World.cell?_alloc_lt _ _ t mL, World.cell?_alloc_lt _ _ t mL, World.cell?_alloc_lt _ _ t htl]; exact ht0)
  (by rw [World.frozen?_alloc_old _ _ t mL, World.frozen?_alloc_old _ _ t mL, World.frozen?_alloc_old _ _ t mL, World.frozen?_alloc_old _ _ t mL, World.frozen?_alloc_old _ _ t (Nat.ne_of_lt htl)]; exact hf0)
 clear hW1 W1
 go_enter Tryz.func255, Tryz.ntmps255
 go_wp2
 refine wp_loop_rounds 2 ?_; rw [rounds_succ]
 go_wp2_with (first | (go_at_call 376; refine (Jlr _ _ _).mono ?_; rintro e1 w1 ⟨rfl, rfl⟩))
 rw [rounds_succ]
 go_wp2
 go_ret
 exact ⟨rfl, rfl⟩
def hV : Value := .iface 417 (.agg #[.pointer (some ⟨4, 156, none⟩)])
def VH (go : Obj) : Prop := ∀ w : World, w.heap[0]? = some go → w.cell? ⟨0, 0, none⟩ = some hV
def enB (r : Nat) (e : Int) : Nat × Obj := (r, .cells #[.int .i64 e] 43 (0, 0))
theorem Jjx (hgo : VH go) (s : BS) (e e0 : Int) (r : Nat) : PureT (α := Unit) prog 255 [jY (some (s, e)), .iface 344 (Kj r)].toArray (fun _ => .bool true) [enB r e0] (fun _ => [enB r e]) [(0, go)] := ⟨fun w hT hR hd hne => by
 have h0 := hgo w (hR _ N')
 have h1 : w.heap[r]? = some (.cells #[.int .i64 e0] 43 (0, 0)) := hT (enB r e0) N'
 have h2 : w.cell? ⟨r, 0, none⟩ = some (.int .i64 e0) := by simp [World.cell?, h1]
 have h3 : w.frozen? ⟨r, 0, none⟩ = false := by simp [World.frozen?, h1]
 have hlt : r < w.heap.size := by
  rcases Nat.lt_or_ge r w.heap.size with h | h
  ·exact h
  ·rw [Array.getElem?_eq_none h] at h1; cases h1
 refine (Jzo (Jk s) e ⟨r, 0, none⟩ (.int .i64 e0) w h0 h2 h3).mono ?_; rintro ev w' ⟨rfl, rfl⟩; refine ⟨(), rfl, ?_, ?_, List.pairwise_singleton _ _⟩
 ·exact (((((Keep.alloc _).trans (Keep.alloc _)).trans (Keep.alloc _)).trans (Keep.alloc _)).trans (Keep.alloc _)).nil.glue (Keep.setCell r 0 _) (fun i hi => .inl hi)
 ·intro p hp
  rw [U'.1 hp]; refine ⟨.inl N', ?_⟩; refine Go.one_setCell (v := .int .i64 e0) ?_
  have hk := (((((Keep.alloc (w := w) (.cells #[.pointer (some ⟨r, 0, none⟩)] 344)).trans (Keep.alloc (.cells #[.pointer (some ⟨4, 344, none⟩), .pointer (some ⟨w.heap.size, 0, none⟩), .int .u64 150] 377))).trans (Keep.alloc (.cells #[.pointer (some ⟨4, 344, none⟩), .pointer (some ⟨w.heap.size, 0, none⟩), .int .u64 150] 377))).trans (Keep.alloc (.cells #[Jk s, .iface 43 (.int .i64 e)] 415))).trans (Keep.alloc (.cells #[.int .i64 e] 43))).block r hlt mf
  exact hk.trans h1⟩
def W8 (k : Nat) : Bool := decide (X0 ({ tx0L with kind := (k : Int) } : TxL).er ≠ 9)
def rc0L : RcL := ⟨0, false, 0, none, [], false, 0, 0⟩
def rc0 : RcE := ⟨0, false, 0, [], false, 0, 0⟩
theorem ZF : rc0L.In R := ⟨Z', rfl, fun _ h => nomatch h⟩
def J1o : Er → Int
 | none => 0
 | some z => z.2
def xo (k : Nat) : Int := if k = 126 then 5 else 3
def rE1 (s : BS) : Er := kE none [108, 105, 115, 116] (Ka (WM (qg s)).1 3 (xo (tkE s)))
def rOf (s : BS) : RcE × Er := rof (tkE s) (vk (WM (qg s)).1 3 (xo (tkE s))) none
def Xx (s : BS) : RcE × Int :=
 if s = [] then (rc0, 3) else if (s.getD 0 0).toNat < 192 ∧ ((s.getD 0 0).toNat = 0 ∨ W8 (s.getD 0 0).toNat = false) then (rc0, 9)
 else if (WM (qg s)).2 ≠ 0 then (rc0, (WM (qg s)).2) else if rE1 s ≠ none then (rc0, J1o (rE1 s)) else if (rOf s).2 ≠ none then (rc0, J1o (rOf s).2) else ((rOf s).1, 0)
theorem Jv6 (k : Int) : ({ tx0L with kind := k } : TxL).In R := by
 have h := Jar (R := R)
 have h0 := h.ok
 exact { h with ok := { h0 with } }
theorem qd (k : Nat) : Pure prog 250 [.int .i64 (k : Int)].toArray (.bool (W8 k)) := by
 have hC := YE (R := []) (Jv6 (k : Int))
 refine JA Tryz.func250 O O fun w => G7 ?_; refine LR O (Jo (r := ({ tx0L with kind := (k : Int) } : TxL).cells) rfl m4) (Ju rfl rfl rfl Jnh hC oN (G4 ?_)); refine NZ fun w1 hs1 => ?_
 unfold W8
 generalize X0 _ = c
 by_cases h : c = 9 <;> simp [h]
structure RcD (s : BS) where
  x : RcL
  L : J3
  inn : x.In L
  er : x.er = (Xx s).1
theorem Jzp (hgo : VH go) (hs : s.length ≤ 1000000) (hne : s ≠ []) (hkb : ¬ ((s.getD 0 0).toNat < 192 ∧ ((s.getD 0 0).toNat = 0 ∨ W8 (s.getD 0 0).toNat = false))) (hun : (WM (qg s)).2 ≠ 0) :
  PureT (α := RcD s) prog 221 [Jk s].toArray (fun z => .tuple #[z.x.val, .int .i64 (Xx s).2]) [] (fun z => z.L) [(0, go)] := by
 have hpos : 0 < s.length := List.length_pos_iff.2 hne
 have hb8 := V6 (s.getD 0 0)
 have hk0 : (s.getD 0 0).toNat < 192 → (s.getD 0 0).toNat ≠ 0 := fun h h0 => hkb ⟨h, .inl h0⟩
 have hKP : (s.getD 0 0).toNat < 192 → Pure prog 250 [.int .i64 (((s.getD 0 0).toNat : Nat) : Int)].toArray (.bool true) := fun h => by
  have h1 := qd (s.getD 0 0).toNat
  have h2 : W8 (s.getD 0 0).toNat = true := by
   cases hb : W8 (s.getD 0 0).toNat with
   | true => rfl
   | false => exact absurd ⟨h, .inr hb⟩ hkb
  rw [h2] at h1; exact h1
 have htl : (qg s).length ≤ 1000000 := by unfold qg; split; rw [List.length_drop]; omega; exact hs
 obtain ⟨t, ht⟩ : ∃ t, qg s = t := ⟨_, rfl⟩
 obtain ⟨k, hk⟩ : ∃ k, tkE s = k := ⟨_, rfl⟩
 obtain ⟨nn, hn⟩ : ∃ nn : Int, xo k = nn := ⟨_, rfl⟩
 rw [ht] at htl hun
 have hU := Vr (s := t) m3
 refine kG fun w r2 => ?_; refine Jl O (fun h4 => ?_) (fun h4 => ?_)
 exact absurd h4 (mJ)
 ·try simp only [ZZ] at h4
  refine Jv 12 O (Nv ?_); refine NQ ?_; refine QR (α := Unit) (fun _ => True) (fun _ => [(0, Jk t), (2, Kj r2), (4, .int .i64 (k : Int)), (5, .int .i64 3)]) (fun _ => [(r2, .cells (List.toArray rc0L.cells) 36 (0, 0))]) ?_ ?_
  rintro _ _
  refine V0 8 O (QR (α := Unit) (fun _ => True) (fun _ => [(0, Jk t), (2, Kj r2), (4, .int .i64 (k : Int)), (5, .int .i64 nn)]) (fun _ => [(r2, .cells (List.toArray rc0L.cells) 36 (0, 0))]) ?_ ?_)
  rintro _ _
  refine wh 4 O (KA O O O Jac hU oN fun y => ?_)
  obtain ⟨yx, yL, yin, yer⟩ := y
  refine gc ?_; change HL _ _ _ ((r2, .cells (List.toArray rc0L.cells) 36 (0, 0)) :: yL) _ _ _ _; refine MR ?_; refine LN O fun r6 => LN O fun r7 => Je (k := 1) (n := 3) (ys := yx.cells) O O O O O (ItL.len _) O (ItL.one _) O (Jm (k := 0) (cs' := #[.int .i64 (WM t).2]) O O O O O O O O O O (kB ?_)); refine MS ?_; refine NQ ?_; refine Jl O (fun h13 => ?_) (fun h13 => ?_)
  try simp only [ZZ] at h13
  refine Dz ?_; refine Kk [(r7, .cells #[.int .i64 ((WM t).2)] 43 (0, 0))] [(0, .pure), (1, .pure), (2, .turn), (3, .pure)] 4 [0, 1, 2, 3] m4 m4 (fun p hp => by rw [U'.1 hp]; exact N') (Jr (k := 0) O O O O O (fun _ _ => Jo (r := rc0L.cells) O m4) (NP ?_)); refine KV (k := 2) (q := 2) (n := 7) (ys := rc0L.cells) O O O O O O O O O O O (fun p hp => by rw [U'.1 hp]; exact N') (Jr (k := 3) O O O O O (fun _ hS => (J7 O)) (KJ ?_)); refine gA ?_
  (refine Jh O O (.cons (Jj (vs := rc0L.cells) O (kn 2 O) O O) (.cons (Jg O) .nil)) (fun w1 hs1 => ?_)
   have hU : Xx s = (rc0, (WM t).2) := by unfold Xx; rw [if_neg hne, if_neg hkb, ht, if_pos hun]
   rw [hU]
   exact ⟨⟨rc0L, [], ZF, by rw [hU]; rfl⟩, rfl, hs1.weakL (S')⟩)
  exact absurd h13 (MA)
  intro hJ
  refine cD (fun g => ?_) fun g => ?_
  refine gz ?_; refine J4 M8 (JD 2 O ?_)
  (have h1 : nn = 5 := by rw [← hn]; exact if_pos m3
   subst h1
   exact hJ _ _ () trivial (lK O) (T'))
  refine KF 1 O ?_
  (have h1 : nn = 3 := by rw [← hn]; exact if_neg m3
   subst h1
   exact hJ _ _ () trivial (lK O) (T'))
  ·intro hJ
   refine cD (fun g => ?_) fun g => ?_
   refine HE ?_; refine F8 ?_; refine gp ?_; refine J4 mh (gu ?_); refine JC O O O Jc8 (hKP m3) (KC O (LR O (Jy O O) (JP 2 O ?_))); refine Jl O (fun h22 => ?_) (fun h22 => ?_)
   exact absurd h22 (m7)
   try simp only [ZZ] at h22
   refine KF 1 O ?_
   (have h1 : t = s.drop 1 := by rw [← ht]; exact if_pos m3
    have h2 : k = (s.getD 0 0).toNat := by rw [← hk]; exact if_pos m3
    subst h1 h2
    exact hJ _ _ () trivial (lK O) (T'))
   ·refine KF 1 O ?_
    (have h1 : t = s := by rw [← ht]; exact if_neg m3
     have h2 : k = 0 := by rw [← hk]; exact if_neg m3
     subst h1 h2
     exact hJ _ _ () trivial (lK O) (T'))
theorem Jzq (hgo : VH go) (hs : s.length ≤ 1000000) (hne : s ≠ []) (hkb : ¬ ((s.getD 0 0).toNat < 192 ∧ ((s.getD 0 0).toNat = 0 ∨ W8 (s.getD 0 0).toNat = false))) (hun : (WM (qg s)).2 = 0) (hr1 : rE1 s = some (zw, ze)) :
  PureT (α := RcD s) prog 221 [Jk s].toArray (fun z => .tuple #[z.x.val, .int .i64 (Xx s).2]) [] (fun z => z.L) [(0, go)] := by
 have hpos : 0 < s.length := List.length_pos_iff.2 hne
 have hb8 := V6 (s.getD 0 0)
 have hk0 : (s.getD 0 0).toNat < 192 → (s.getD 0 0).toNat ≠ 0 := fun h h0 => hkb ⟨h, .inl h0⟩
 have hKP : (s.getD 0 0).toNat < 192 → Pure prog 250 [.int .i64 (((s.getD 0 0).toNat : Nat) : Int)].toArray (.bool true) := fun h => by
  have h1 := qd (s.getD 0 0).toNat
  have h2 : W8 (s.getD 0 0).toNat = true := by
   cases hb : W8 (s.getD 0 0).toNat with
   | true => rfl
   | false => exact absurd ⟨h, .inr hb⟩ hkb
  rw [h2] at h1; exact h1
 have htl : (qg s).length ≤ 1000000 := by unfold qg; split; rw [List.length_drop]; omega; exact hs
 obtain ⟨t, ht⟩ : ∃ t, qg s = t := ⟨_, rfl⟩
 obtain ⟨k, hk⟩ : ∃ k, tkE s = k := ⟨_, rfl⟩
 obtain ⟨nn, hn⟩ : ∃ nn : Int, xo k = nn := ⟨_, rfl⟩
 rw [ht] at htl hun
 have hE1 := hr1
 unfold rE1 at hE1
 rw [hk, hn, ht] at hE1
 have hU := Vr (s := t) m3
 refine Jq Tryz.func221 O O fun w => Kl (Jv 2 O (LN O fun r2 => J5 7 O (LR O (Qa O O) (JP 2 O (Jl O (fun h4 => ?_) (fun h4 => ?_))))))
 exact absurd h4 (mJ)
 ·try simp only [ZZ] at h4
  refine Jv 12 O (LR O (JW (j := 0) (n := ((s.getD 0 0).toNat : Int)) O O O O hpos O) (JP 3 O (QR (α := Unit) (fun _ => True) (fun _ => [(0, Jk t), (2, Kj r2), (4, .int .i64 (k : Int)), (5, .int .i64 3)]) (fun _ => [(r2, .cells (List.toArray rc0L.cells) 36 (0, 0))]) ?_ ?_)))
  rintro _ _
  refine V0 8 O (QR (α := Unit) (fun _ => True) (fun _ => [(0, Jk t), (2, Kj r2), (4, .int .i64 (k : Int)), (5, .int .i64 nn)]) (fun _ => [(r2, .cells (List.toArray rc0L.cells) 36 (0, 0))]) ?_ ?_)
  rintro _ _
  refine wh 4 O (KA O O O Jac hU oN fun y => ?_)
  obtain ⟨yx, yL, yin, yer⟩ := y
  refine JY B' ?_; change HL _ _ _ ((r2, .cells (List.toArray rc0L.cells) 36 (0, 0)) :: yL) _ _ _ _; refine JI O (LR O (Jb O O) (LR O (Jb O O) ?_)); refine LN O fun r6 => LN O fun r7 => Je (k := 1) (n := 3) (ys := yx.cells) O O O O O (ItL.len _) O (ItL.one _) O (Jm (k := 0) (cs' := #[.int .i64 (WM t).2]) O O O O O O O O O O (J5 5 O (LR O (Jc O (kn 0 O) O O) (JP 3 O (Jl O (fun h13 => ?_) (fun h13 => ?_))))))
  exact absurd h13 (MA)
  try simp only [ZZ] at h13
  refine Jv 4 O (LR O (Ji (xs := yx.cells) (n := 3) O (kn 1 O) O O (ItL.len _)) (JO (n := 1) (sz := 3) (vs := [_]) (zs := [_, _, _]) (r := yx.cells) O O O O O O O O O n5 (by cases yx; rfl) fun rb => LR rfl (Jo (r := [Km 1 (some (⟨rb, 0, none⟩, 1)), .nilIface]) rfl rfl) (LN rfl fun rr => J5 7 rfl ?_)))
  have hseg : Seg ((rb, .cells (List.toArray yx.cells) 91 (0, 0)) :: yL) [yx].length (Kq [yx]) (some (⟨rb, 0, none⟩, 1)) := ⟨Lc', fun _ => ⟨rfl, _, _, _, N', by simp [Kq, ItL.len]; exact List.take_of_length_le Mn⟩⟩
  have hin1 : ∀ y ∈ [yx], y.In ((rb, .cells (List.toArray yx.cells) 91 (0, 0)) :: yL) := fun y hy => by rw [U'.1 hy]; exact yin.mono fun q hq => M' hq
  have hM := qC (q := rr) (E := none) hseg Mz hin1 3 nn
  change PureT _ _ _ _ [Q2 rr 1 (some (⟨rb, 0, none⟩, 1)) none] (fun r => [Q2 r (W3 yx 3 nn).length (qb yx 3 nn) (kE none [108, 105, 115, 116] (Ka yx.er 3 nn)), Q2 rr 0 (KX [yx] (some (⟨rb, 0, none⟩, 1))) (kE none [108, 105, 115, 116] (Ka yx.er 3 nn))]) _ at hM; rw [yer, hE1] at hM
  refine Jx (T := [_]) (L0 := (rb, _) :: (r7, _) :: (r6, _) :: (r2, _) :: yL) (O') O O O zJ hM (fun q hq => Or.inl mw) fun q9 => ?_; change HL _ _ _ (Q2 q9 (W3 yx 3 nn).length (qb yx 3 nn) (some (zw, ze)) :: Q2 rr 0 (KX [yx] (some (⟨rb, 0, none⟩, 1))) (some (zw, ze)) :: (rb, _) :: (r7, _) :: (r6, _) :: (r2, .cells (List.toArray rc0L.cells) 36 (0, 0)) :: yL) _ _ _ _; refine J5 8 O ?_
  refine LR O (Ja O O m0) (LR O (Jc O (kn 0 O) O O) (JP 3 O (Jl O (fun h18 => ?_) (fun h18 => ?_))))
  exact absurd h18 (m7)
  try simp only [ZZ] at h18
  refine Jv 6 O ?_
  refine LR O (Ja O O m0) (LR O (Jc (v := jY (some (zw, ze))) O (kn 0 O) O O) (KC O (Jbc (A := [_, _, _, _, _, _]) (A' := [_, _, _, _, _, _]) [3, 0, 1, 2, 4, 5] m7 O (Jx (T := [_]) (L0 := _) (O') O O O (enters_of Tryz.func255 m4 O) (Jjx hgo zw ze (WM t).2 r7) oR fun _ => ?_)))); change HL _ _ _ ((r7, .cells #[.int .i64 ze] 43 (0, 0)) :: _) _ _ _ _; refine JP 3 O (Kk [(r7, .cells #[.int .i64 (ze)] 43 (0, 0))] [(0, .pure), (1, .pure), (2, .turn), (3, .pure)] 4 [0, 1, 2, 3] m4 m4 (fun p hp => by rw [U'.1 hp]; exact N') (Jr (k := 0) O O O O O (fun _ _ => Jo (r := rc0L.cells) O m4) (Jr (k := 1) O O O O O (fun _ hS => (Jc O (.inl (hS _ (J0 (n := 0) O))) O O)) (KV (k := 2) (q := 5) (n := 7) (ys := rc0L.cells) O O O O O O O O O O O (fun p hp => by rw [U'.1 hp]; exact N') (Jr (k := 3) O O O O O (fun _ hS => (J7 O)) (KJ (JD 3 O ?_)))))))
  (refine Jh O O (.cons (Jj (vs := rc0L.cells) O (kn 5 O) O O) (.cons (Jg O) .nil)) (fun w1 hs1 => ?_)
   have hU : Xx s = (rc0, ze) := by unfold Xx; rw [if_neg hne, if_neg hkb, ht, if_neg (not_not_intro hun)]; rw [if_pos (by rw [hr1]; simp), hr1]; rfl
   rw [hU]
   exact ⟨⟨rc0L, [], ZF, by rw [hU]; rfl⟩, rfl, hs1.weakL (S')⟩)
  intro hJ
  refine cD (fun g => ?_) fun g => ?_
  refine Jv 3 O (J4 M8 (JD 2 O ?_))
  (have h1 : nn = 5 := by rw [← hn]; exact if_pos m3
   subst h1
   exact hJ _ _ () trivial (lK O) (T'))
  refine KF 1 O ?_
  (have h1 : nn = 3 := by rw [← hn]; exact if_neg m3
   subst h1
   exact hJ _ _ () trivial (lK O) (T'))
  ·intro hJ
   refine cD (fun g => ?_) fun g => ?_
   refine Ku 1 O (KB 7 m4 m4 (Jt O O O (Jw O) (Jt O O O (JW (j := 0) (n := ((s.getD 0 0).toNat : Int)) O O O O hpos O) (Jt O O O (JH O O O) (QA m3 m3 (Jt O O O (Jw O) (Jt O O O (Kt (kl := some (.i64, 1)) (kh := none) (m := 1) (n := s.length) O O O O O O hpos (Lc') (r := s.drop 1) n9) (Jt O O O (J7 O) (Jt O O O (J7 O) (KR (J5 6 O (J4 mh (J5 2 O (JC O O O Jc8 (hKP m3) (KC O (LR O (Jy O O) (JP 2 O ?_))))))))))))))))); refine Jl O (fun h28 => ?_) (fun h28 => ?_)
   exact absurd h28 (m7)
   try simp only [ZZ] at h28
   refine KF 1 O ?_
   (have h1 : t = s.drop 1 := by rw [← ht]; exact if_pos m3
    have h2 : k = (s.getD 0 0).toNat := by rw [← hk]; exact if_pos m3
    subst h1 h2
    exact hJ _ _ () trivial (lK O) (T'))
   ·refine KF 1 O ?_
    (have h1 : t = s := by rw [← ht]; exact if_neg m3
     have h2 : k = 0 := by rw [← hk]; exact if_neg m3
     subst h1 h2
     exact hJ _ _ () trivial (lK O) (T'))
theorem Jzr (hgo : VH go) (hs : s.length ≤ 1000000) (hne : s ≠ []) (hkb : ¬ ((s.getD 0 0).toNat < 192 ∧ ((s.getD 0 0).toNat = 0 ∨ W8 (s.getD 0 0).toNat = false))) (hun : (WM (qg s)).2 = 0) (hr1 : rE1 s = none) {g : RcE} (hr2 : rOf s = (g, some (zw, ze))) :
  PureT (α := RcD s) prog 221 [Jk s].toArray (fun z => .tuple #[z.x.val, .int .i64 (Xx s).2]) [] (fun z => z.L) [(0, go)] := by
 have hpos : 0 < s.length := List.length_pos_iff.2 hne
 have hb8 := V6 (s.getD 0 0)
 have hk0 : (s.getD 0 0).toNat < 192 → (s.getD 0 0).toNat ≠ 0 := fun h h0 => hkb ⟨h, .inl h0⟩
 have hKP : (s.getD 0 0).toNat < 192 → Pure prog 250 [.int .i64 (((s.getD 0 0).toNat : Nat) : Int)].toArray (.bool true) := fun h => by
  have h1 := qd (s.getD 0 0).toNat
  have h2 : W8 (s.getD 0 0).toNat = true := by
   cases hb : W8 (s.getD 0 0).toNat with
   | true => rfl
   | false => exact absurd ⟨h, .inr hb⟩ hkb
  rw [h2] at h1; exact h1
 have htl : (qg s).length ≤ 1000000 := by unfold qg; split; rw [List.length_drop]; omega; exact hs
 obtain ⟨t, ht⟩ : ∃ t, qg s = t := ⟨_, rfl⟩
 obtain ⟨k, hk⟩ : ∃ k, tkE s = k := ⟨_, rfl⟩
 obtain ⟨nn, hn⟩ : ∃ nn : Int, xo k = nn := ⟨_, rfl⟩
 rw [ht] at htl hun
 have hE1 := hr1
 unfold rE1 at hE1
 rw [hk, hn, ht] at hE1
 have hrof := hr2
 unfold rOf at hrof
 rw [hk, hn, ht] at hrof
 have hU := Vr (s := t) m3
 refine Jq Tryz.func221 O O fun w => Kl (Jv 2 O (LN O fun r2 => J5 7 O (LR O (Qa O O) (JP 2 O (Jl O (fun h4 => ?_) (fun h4 => ?_))))))
 exact absurd h4 (mJ)
 ·try simp only [ZZ] at h4
  refine Jv 12 O (LR O (JW (j := 0) (n := ((s.getD 0 0).toNat : Int)) O O O O hpos O) (JP 3 O (QR (α := Unit) (fun _ => True) (fun _ => [(0, Jk t), (2, Kj r2), (4, .int .i64 (k : Int)), (5, .int .i64 3)]) (fun _ => [(r2, .cells (List.toArray rc0L.cells) 36 (0, 0))]) ?_ ?_)))
  rintro _ _
  refine V0 8 O (QR (α := Unit) (fun _ => True) (fun _ => [(0, Jk t), (2, Kj r2), (4, .int .i64 (k : Int)), (5, .int .i64 nn)]) (fun _ => [(r2, .cells (List.toArray rc0L.cells) 36 (0, 0))]) ?_ ?_)
  rintro _ _
  refine wh 4 O (KA O O O Jac hU oN fun y => ?_)
  obtain ⟨yx, yL, yin, yer⟩ := y
  refine JY B' ?_; change HL _ _ _ ((r2, .cells (List.toArray rc0L.cells) 36 (0, 0)) :: yL) _ _ _ _; refine JI O (LR O (Jb O O) (LR O (Jb O O) ?_)); refine LN O fun r6 => LN O fun r7 => Je (k := 1) (n := 3) (ys := yx.cells) O O O O O (ItL.len _) O (ItL.one _) O (Jm (k := 0) (cs' := #[.int .i64 (WM t).2]) O O O O O O O O O O (J5 5 O (LR O (Jc O (kn 0 O) O O) (JP 3 O (Jl O (fun h13 => ?_) (fun h13 => ?_))))))
  exact absurd h13 (MA)
  try simp only [ZZ] at h13
  refine Jv 4 O (LR O (Ji (xs := yx.cells) (n := 3) O (kn 1 O) O O (ItL.len _)) (JO (n := 1) (sz := 3) (vs := [_]) (zs := [_, _, _]) (r := yx.cells) O O O O O O O O O n5 (by cases yx; rfl) fun rb => LR rfl (Jo (r := [Km 1 (some (⟨rb, 0, none⟩, 1)), .nilIface]) rfl rfl) (LN rfl fun rr => J5 7 rfl ?_)))
  have hseg : Seg ((rb, .cells (List.toArray yx.cells) 91 (0, 0)) :: yL) [yx].length (Kq [yx]) (some (⟨rb, 0, none⟩, 1)) := ⟨Lc', fun _ => ⟨rfl, _, _, _, N', by simp [Kq, ItL.len]; exact List.take_of_length_le Mn⟩⟩
  have hin1 : ∀ y ∈ [yx], y.In ((rb, .cells (List.toArray yx.cells) 91 (0, 0)) :: yL) := fun y hy => by rw [U'.1 hy]; exact yin.mono fun q hq => M' hq
  have hM := qC (q := rr) (E := none) hseg Mz hin1 3 nn
  change PureT _ _ _ _ [Q2 rr 1 (some (⟨rb, 0, none⟩, 1)) none] (fun r => [Q2 r (W3 yx 3 nn).length (qb yx 3 nn) (kE none [108, 105, 115, 116] (Ka yx.er 3 nn)), Q2 rr 0 (KX [yx] (some (⟨rb, 0, none⟩, 1))) (kE none [108, 105, 115, 116] (Ka yx.er 3 nn))]) _ at hM; rw [yer, hE1] at hM
  refine Jx (T := [_]) (L0 := (rb, _) :: (r7, _) :: (r6, _) :: (r2, _) :: yL) (O') O O O zJ hM (fun q hq => Or.inl mw) fun q9 => ?_; change HL _ _ _ (Q2 q9 (W3 yx 3 nn).length (qb yx 3 nn) (none) :: Q2 rr 0 (KX [yx] (some (⟨rb, 0, none⟩, 1))) none :: (rb, _) :: (r7, _) :: (r6, _) :: (r2, .cells (List.toArray rc0L.cells) 36 (0, 0)) :: yL) _ _ _ _; refine J5 8 O ?_
  refine LR O (Ja O O m0) (LR O (Jc O (kn 0 O) O O) (JP 3 O (Jl O (fun h18 => ?_) (fun h18 => ?_))))
  try simp only [ZZ] at h18
  refine Jv 4 O ?_
  obtain ⟨hSi, hSs, hSl⟩ := qc yin 3 nn
  have hO := Jwz (R := yL) (q := q9) (E := none) (k : Int) hSs hSl hSi
  rw [← vR, yer, hrof] at hO; refine Jx (T := [_]) (L0 := (Q2 rr 0 _ none) :: (rb, _) :: (r7, _) :: (r6, _) :: (r2, .cells (List.toArray rc0L.cells) 36 (0, 0)) :: yL) (O') O O O (enters_of Tryz.func254 m4 O) hO (fun q hq => Or.inl ((M' (M' (M' (M' (M' hq))))))) fun x => JY (List.perm_append_comm.cons _) ?_; change HL _ _ _ ((q9, _) :: (rr, _) :: (rb, _) :: (r7, _) :: (r6, _) :: (r2, .cells (List.toArray rc0L.cells) 36 (0, 0)) :: (yL ++ x.L)) _ _ _ _; refine LN O fun r10 => Je (k := 0) (n := 7) (ys := x.x.cells) O O O O O O O O O (J5 6 O ?_)
  refine LR O (Ja O O m0) (LR O (Jc (v := jY (some (zw, ze))) O (kn 1 O) O O) (JP 3 O (Jl O (fun h21 => ?_) (fun h21 => ?_))))
  exact absurd h21 (m7)
  try simp only [ZZ] at h21
  refine Jv 6 O ?_
  refine LR O (Ja O O m0) (LR O (Jc (v := jY (some (zw, ze))) O (kn 1 O) O O) (KC O (Jbc (A := [_, _, _, _, _, _, _]) (A' := [_, _, _, _, _, _, _]) [4, 0, 1, 2, 3, 5, 6] m7 O (Jx (T := [_]) (L0 := _) (O') O O O (enters_of Tryz.func255 m4 O) (Jjx hgo zw ze (WM t).2 r7) oR fun _ => ?_)))); change HL _ _ _ ((r7, .cells #[.int .i64 ze] 43 (0, 0)) :: _) _ _ _ _; refine JP 3 O (Kk [(r7, .cells #[.int .i64 (ze)] 43 (0, 0))] [(0, .pure), (1, .pure), (2, .turn), (3, .pure)] 4 [0, 1, 2, 3] m4 m4 (fun p hp => by rw [U'.1 hp]; exact N') (Jr (k := 0) O O O O O (fun _ _ => Jo (r := rc0L.cells) O m4) (Jr (k := 1) O O O O O (fun _ hS => (Jc O (.inl (hS _ (J0 (n := 0) O))) O O)) (KV (k := 2) (q := 6) (n := 7) (ys := rc0L.cells) O O O O O O O O O O O (fun p hp => by rw [U'.1 hp]; exact N') (Jr (k := 3) O O O O O (fun _ hS => (J7 O)) (KJ (JD 3 O ?_)))))))
  (refine Jh O O (.cons (Jj (vs := rc0L.cells) O (kn 6 O) O O) (.cons (Jg O) .nil)) (fun w1 hs1 => ?_)
   have hU : Xx s = (rc0, ze) := by unfold Xx; rw [if_neg hne, if_neg hkb, ht, if_neg (not_not_intro hun)]; rw [if_neg (by rw [hr1]; simp), if_pos (by rw [hr2]; simp), hr2]; rfl
   rw [hU]
   exact ⟨⟨rc0L, [], ZF, by rw [hU]; rfl⟩, rfl, hs1.weakL (S')⟩)
  exact absurd h18 (m7)
  intro hJ
  refine cD (fun h24 => ?_) fun h24 => ?_
  refine Jv 3 O (J4 M8 (JD 2 O ?_))
  (have h1 : nn = 5 := by rw [← hn]; exact if_pos m3
   subst h1
   exact hJ _ _ () trivial (lK O) (T'))
  refine KF 1 O ?_
  (have h1 : nn = 3 := by rw [← hn]; exact if_neg m3
   subst h1
   exact hJ _ _ () trivial (lK O) (T'))
  ·intro hJ
   refine cD (fun h25 => ?_) fun h25 => ?_
   refine Ku 1 O (KB 7 m4 m4 (Jt O O O (Jw O) (Jt O O O (JW (j := 0) (n := ((s.getD 0 0).toNat : Int)) O O O O hpos O) (Jt O O O (JH O O O) (QA m3 m3 (Jt O O O (Jw O) (Jt O O O (Kt (kl := some (.i64, 1)) (kh := none) (m := 1) (n := s.length) O O O O O O hpos (Lc') (r := s.drop 1) n9) (Jt O O O (J7 O) (Jt O O O (J7 O) (KR (J5 6 O (J4 mh (J5 2 O (JC O O O Jc8 (hKP m3) (KC O (LR O (Jy O O) (JP 2 O ?_))))))))))))))))); refine Jl O (fun h31 => ?_) (fun h31 => ?_)
   exact absurd h31 (m7)
   try simp only [ZZ] at h31
   refine KF 1 O ?_
   (have h1 : t = s.drop 1 := by rw [← ht]; exact if_pos m3
    have h2 : k = (s.getD 0 0).toNat := by rw [← hk]; exact if_pos m3
    subst h1 h2
    exact hJ _ _ () trivial (lK O) (T'))
   ·refine KF 1 O ?_
    (have h1 : t = s := by rw [← ht]; exact if_neg m3
     have h2 : k = 0 := by rw [← hk]; exact if_neg m3
     subst h1 h2
     exact hJ _ _ () trivial (lK O) (T'))
theorem Jzs (hgo : VH go) (hs : s.length ≤ 1000000) (hne : s ≠ []) (hkb : ¬ ((s.getD 0 0).toNat < 192 ∧ ((s.getD 0 0).toNat = 0 ∨ W8 (s.getD 0 0).toNat = false))) (hun : (WM (qg s)).2 = 0) (hr1 : rE1 s = none) {g : RcE} (hr2 : rOf s = (g, none)) :
  PureT (α := RcD s) prog 221 [Jk s].toArray (fun z => .tuple #[z.x.val, .int .i64 (Xx s).2]) [] (fun z => z.L) [(0, go)] := by
 have hpos : 0 < s.length := List.length_pos_iff.2 hne
 have hb8 := V6 (s.getD 0 0)
 have hk0 : (s.getD 0 0).toNat < 192 → (s.getD 0 0).toNat ≠ 0 := fun h h0 => hkb ⟨h, .inl h0⟩
 have hKP : (s.getD 0 0).toNat < 192 → Pure prog 250 [.int .i64 (((s.getD 0 0).toNat : Nat) : Int)].toArray (.bool true) := fun h => by
  have h1 := qd (s.getD 0 0).toNat
  have h2 : W8 (s.getD 0 0).toNat = true := by
   cases hb : W8 (s.getD 0 0).toNat with
   | true => rfl
   | false => exact absurd ⟨h, .inr hb⟩ hkb
  rw [h2] at h1; exact h1
 have htl : (qg s).length ≤ 1000000 := by unfold qg; split; rw [List.length_drop]; omega; exact hs
 obtain ⟨t, ht⟩ : ∃ t, qg s = t := ⟨_, rfl⟩
 obtain ⟨k, hk⟩ : ∃ k, tkE s = k := ⟨_, rfl⟩
 obtain ⟨nn, hn⟩ : ∃ nn : Int, xo k = nn := ⟨_, rfl⟩
 rw [ht] at htl hun
 have hE1 := hr1
 unfold rE1 at hE1
 rw [hk, hn, ht] at hE1
 have hrof := hr2
 unfold rOf at hrof
 rw [hk, hn, ht] at hrof
 have hU := Vr (s := t) m3
 refine Jq Tryz.func221 O O fun w => Kl (Jv 2 O (LN O fun r2 => J5 7 O (LR O (Qa O O) (JP 2 O (Jl O (fun h4 => ?_) (fun h4 => ?_))))))
 exact absurd h4 (mJ)
 ·try simp only [ZZ] at h4
  refine Jv 12 O (LR O (JW (j := 0) (n := ((s.getD 0 0).toNat : Int)) O O O O hpos O) (JP 3 O (QR (α := Unit) (fun _ => True) (fun _ => [(0, Jk t), (2, Kj r2), (4, .int .i64 (k : Int)), (5, .int .i64 3)]) (fun _ => [(r2, .cells (List.toArray rc0L.cells) 36 (0, 0))]) ?_ ?_)))
  rintro _ _
  refine V0 8 O (QR (α := Unit) (fun _ => True) (fun _ => [(0, Jk t), (2, Kj r2), (4, .int .i64 (k : Int)), (5, .int .i64 nn)]) (fun _ => [(r2, .cells (List.toArray rc0L.cells) 36 (0, 0))]) ?_ ?_)
  rintro _ _
  refine wh 4 O (KA O O O Jac hU oN fun y => ?_)
  obtain ⟨yx, yL, yin, yer⟩ := y
  refine JY B' ?_; change HL _ _ _ ((r2, .cells (List.toArray rc0L.cells) 36 (0, 0)) :: yL) _ _ _ _; refine JI O (LR O (Jb O O) (LR O (Jb O O) ?_)); refine LN O fun r6 => LN O fun r7 => Je (k := 1) (n := 3) (ys := yx.cells) O O O O O (ItL.len _) O (ItL.one _) O (Jm (k := 0) (cs' := #[.int .i64 (WM t).2]) O O O O O O O O O O (J5 5 O (LR O (Jc O (kn 0 O) O O) (JP 3 O (Jl O (fun h13 => ?_) (fun h13 => ?_))))))
  exact absurd h13 (MA)
  try simp only [ZZ] at h13
  refine Jv 4 O (LR O (Ji (xs := yx.cells) (n := 3) O (kn 1 O) O O (ItL.len _)) (JO (n := 1) (sz := 3) (vs := [_]) (zs := [_, _, _]) (r := yx.cells) O O O O O O O O O n5 (by cases yx; rfl) fun rb => LR rfl (Jo (r := [Km 1 (some (⟨rb, 0, none⟩, 1)), .nilIface]) rfl rfl) (LN rfl fun rr => J5 7 rfl ?_)))
  have hseg : Seg ((rb, .cells (List.toArray yx.cells) 91 (0, 0)) :: yL) [yx].length (Kq [yx]) (some (⟨rb, 0, none⟩, 1)) := ⟨Lc', fun _ => ⟨rfl, _, _, _, N', by simp [Kq, ItL.len]; exact List.take_of_length_le Mn⟩⟩
  have hin1 : ∀ y ∈ [yx], y.In ((rb, .cells (List.toArray yx.cells) 91 (0, 0)) :: yL) := fun y hy => by rw [U'.1 hy]; exact yin.mono fun q hq => M' hq
  have hM := qC (q := rr) (E := none) hseg Mz hin1 3 nn
  change PureT _ _ _ _ [Q2 rr 1 (some (⟨rb, 0, none⟩, 1)) none] (fun r => [Q2 r (W3 yx 3 nn).length (qb yx 3 nn) (kE none [108, 105, 115, 116] (Ka yx.er 3 nn)), Q2 rr 0 (KX [yx] (some (⟨rb, 0, none⟩, 1))) (kE none [108, 105, 115, 116] (Ka yx.er 3 nn))]) _ at hM; rw [yer, hE1] at hM
  refine Jx (T := [_]) (L0 := (rb, _) :: (r7, _) :: (r6, _) :: (r2, _) :: yL) (O') O O O zJ hM (fun q hq => Or.inl mw) fun q9 => ?_; change HL _ _ _ (Q2 q9 (W3 yx 3 nn).length (qb yx 3 nn) (none) :: Q2 rr 0 (KX [yx] (some (⟨rb, 0, none⟩, 1))) none :: (rb, _) :: (r7, _) :: (r6, _) :: (r2, .cells (List.toArray rc0L.cells) 36 (0, 0)) :: yL) _ _ _ _; refine J5 8 O ?_
  refine LR O (Ja O O m0) (LR O (Jc O (kn 0 O) O O) (JP 3 O (Jl O (fun h18 => ?_) (fun h18 => ?_))))
  try simp only [ZZ] at h18
  refine Jv 4 O ?_
  obtain ⟨hSi, hSs, hSl⟩ := qc yin 3 nn
  have hO := Jwz (R := yL) (q := q9) (E := none) (k : Int) hSs hSl hSi
  rw [← vR, yer, hrof] at hO; refine Jx (T := [_]) (L0 := (Q2 rr 0 _ none) :: (rb, _) :: (r7, _) :: (r6, _) :: (r2, .cells (List.toArray rc0L.cells) 36 (0, 0)) :: yL) (O') O O O (enters_of Tryz.func254 m4 O) hO (fun q hq => Or.inl ((M' (M' (M' (M' (M' hq))))))) fun x => JY (List.perm_append_comm.cons _) ?_; change HL _ _ _ ((q9, _) :: (rr, _) :: (rb, _) :: (r7, _) :: (r6, _) :: (r2, .cells (List.toArray rc0L.cells) 36 (0, 0)) :: (yL ++ x.L)) _ _ _ _; refine LN O fun r10 => Je (k := 0) (n := 7) (ys := x.x.cells) O O O O O O O O O (J5 6 O ?_)
  refine LR O (Ja O O m0) (LR O (Jc (v := jY (none)) O (kn 1 O) O O) (JP 3 O (Jl O (fun h21 => ?_) (fun h21 => ?_))))
  try simp only [ZZ] at h21
  refine Jv 2 O (LR O (Ji (xs := x.x.cells) (n := 7) O (kn 0 O) O O O) (Je (k := 6) (n := 7) (ys := x.x.cells) O O O O O O O O O (JD 5 O ?_)))
  (refine Jh O O (.cons (Jj (vs := x.x.cells) O (kn 6 O) O O) (.cons (Jg O) .nil)) (fun w1 hs1 => ?_)
   have hU : Xx s = (g, 0) := by unfold Xx; rw [if_neg hne, if_neg hkb, ht, if_neg (not_not_intro hun), if_neg (by rw [hr1]; simp), if_neg (by rw [hr2]; simp), hr2]
   rw [hU]
   exact ⟨⟨x.x, x.L, x.inn, by rw [hU]; exact x.er⟩, rfl, hs1.weakL (.cons _ (.cons _ (.cons _ (.cons _ (.cons _ (.cons _ (.cons _ (List.sublist_append_right _ _))))))))⟩)
  exact absurd h21 (m7)
  exact absurd h18 (m7)
  intro hJ
  refine cD (fun h23 => ?_) fun h23 => ?_
  refine Jv 3 O (J4 M8 (JD 2 O ?_))
  (have h1 : nn = 5 := by rw [← hn]; exact if_pos m3
   subst h1
   exact hJ _ _ () trivial (lK O) (T'))
  refine KF 1 O ?_
  (have h1 : nn = 3 := by rw [← hn]; exact if_neg m3
   subst h1
   exact hJ _ _ () trivial (lK O) (T'))
  ·intro hJ
   refine cD (fun h24 => ?_) fun h24 => ?_
   refine Ku 1 O (KB 7 m4 m4 (Jt O O O (Jw O) (Jt O O O (JW (j := 0) (n := ((s.getD 0 0).toNat : Int)) O O O O hpos O) (Jt O O O (JH O O O) (QA m3 m3 (Jt O O O (Jw O) (Jt O O O (Kt (kl := some (.i64, 1)) (kh := none) (m := 1) (n := s.length) O O O O O O hpos (Lc') (r := s.drop 1) n9) (Jt O O O (J7 O) (Jt O O O (J7 O) (KR (J5 6 O (J4 mh (J5 2 O (JC O O O Jc8 (hKP m3) (KC O (LR O (Jy O O) (JP 2 O ?_))))))))))))))))); refine Jl O (fun h30 => ?_) (fun h30 => ?_)
   exact absurd h30 (m7)
   try simp only [ZZ] at h30
   refine KF 1 O ?_
   (have h1 : t = s.drop 1 := by rw [← ht]; exact if_pos m3
    have h2 : k = (s.getD 0 0).toNat := by rw [← hk]; exact if_pos m3
    subst h1 h2
    exact hJ _ _ () trivial (lK O) (T'))
   ·refine KF 1 O ?_
    (have h1 : t = s := by rw [← ht]; exact if_neg m3
     have h2 : k = 0 := by rw [← hk]; exact if_neg m3
     subst h1 h2
     exact hJ _ _ () trivial (lK O) (T'))
theorem Jv7 : PureT (α := RcD []) prog 221 [Jk []].toArray (fun z => .tuple #[z.x.val, .int .i64 (Xx []).2]) [] (fun z => z.L) [(0, go)] := by
 obtain ⟨s, hs⟩ : ∃ s : BS, s = [] := ⟨_, rfl⟩
 rw [← hs]; refine kG fun w r2 => ?_; refine Jl O (fun h4 => ?_) (fun h4 => ?_)
 try simp only [ZZ] at h4
 refine Fi ?_
 (refine Jh O O (.cons (Jj (vs := rc0L.cells) O (kn 0 O) O O) (.cons (Jg O) .nil)) (fun w1 hs1 => ?_)
  have hU : Xx s = (rc0, 3) := by unfold Xx; rw [if_pos hs]
  rw [hU]
  exact ⟨⟨rc0L, [], ZF, by rw [hU]; rfl⟩, rfl, hs1.weakL (S')⟩)
 ·exact absurd h4 ((by intro h; exact of_decide_eq_false h hs))
theorem Jv8 (hne : s ≠ []) (h192 : (s.getD 0 0).toNat < 192) (hb : (s.getD 0 0).toNat = 0 ∨ W8 (s.getD 0 0).toNat = false) :
    PureT (α := RcD s) prog 221 [Jk s].toArray (fun z => .tuple #[z.x.val, .int .i64 (Xx s).2]) [] (fun z => z.L) [(0, go)] := by
  have hpos : 0 < s.length := List.length_pos_iff.2 hne
  have hb8 := V6 (s.getD 0 0)
  have hKP := qd (s.getD 0 0).toNat
  obtain ⟨kb, hkb⟩ : ∃ kb, W8 (s.getD 0 0).toNat = kb := ⟨_, rfl⟩
  rw [hkb] at hKP
  have hb2 : (s.getD 0 0).toNat = 0 ∨ kb = false := by rw [← hkb]; exact hb
  refine kG fun w r2 => ?_; refine Jl O (fun h4 => ?_) (fun h4 => ?_)
  exact absurd h4 (mJ)
  · try simp only [ZZ] at h4
    refine Jv 12 O (Nv ?_); refine NQ ?_; refine Jl O (fun h8 => ?_) (fun h8 => ?_)
    · try simp only [ZZ] at h8
      refine HE ?_; refine F8 ?_; refine g8 ?_
      refine J8 24 O (fun gb => ?_) (fun gb => ?_) <;> (try simp only [ZZ] at gb) <;> first | (refine JI O ?_) | (refine LK O ?_)
      all_goals first | (refine JC O O O Jc8 hKP ?_) | refine LK O ?_
      all_goals refine MQ ?_
      all_goals (
       refine kN ?_; refine Jl O (fun h14 => ?_) (fun h14 => ?_)
       try simp only [ZZ] at h14
       refine Fi ?_
       (refine Jh O O (.cons (Jj (vs := rc0L.cells) O (kn 0 O) O O) (.cons (Jg O) .nil)) (fun w1 hs1 => ?_)
        have hU : Xx s = (rc0, 9) := by unfold Xx; rw [if_neg hne, if_pos ⟨h192, hb⟩]
        rw [hU]
        exact ⟨⟨rc0L, [], ZF, by rw [hU]; rfl⟩, rfl, hs1.weakL (S')⟩)
       exact absurd h14 ((by intro h; first | exact absurd h m7 | (rcases hb2 with h0 | h0; omega; rw [h0] at h; exact absurd h m7)))
       skip)
    · exact absurd h8 (nG)
theorem Jev (hgo : VH go) (hs : s.length ≤ 1000000) : PureT (α := RcD s) prog 221 [Jk s].toArray (fun z => .tuple #[z.x.val, .int .i64 (Xx s).2]) [] (fun z => z.L) [(0, go)] := by
 by_cases hne : s = []
 ·subst hne; exact Jv7
 by_cases hkb : (s.getD 0 0).toNat < 192 ∧ ((s.getD 0 0).toNat = 0 ∨ W8 (s.getD 0 0).toNat = false)
 ·exact Jv8 hne hkb.1 hkb.2
 by_cases hun : (WM (qg s)).2 = 0
 ·cases hr1 : rE1 s with
  | some z => obtain ⟨zw, ze⟩ := z; exact Jzq hgo hs hne hkb hun hr1
  | none =>
   obtain ⟨⟨g, E⟩, hr2⟩ : ∃ r, rOf s = r := ⟨_, rfl⟩
   cases E with
   | none => exact Jzs hgo hs hne hkb hun hr1 hr2
   | some z => obtain ⟨zw, ze⟩ := z; exact Jzr hgo hs hne hkb hun hr1 hr2
 ·exact Jzp hgo hs hne hkb hun
deriving instance DecidableEq for LgE
deriving instance DecidableEq for RcE
deriving instance DecidableEq for SpE
theorem Jru {a b : LgL} (ha : a.In R) (hb : b.In R) : PureR prog 161 [a.val, b.val].toArray (.bool (decide (a.er = b.er))) R := by
  have h1_ := ha.len
  have h2_ := hb.len
  refine J1 Tryz.func161 O O fun w => Hn fun r1 r2 => ?_; refine kB ?_
  refine DD ?_; refine Hs ?_; refine gl ?_
  refine J8 10 O (fun gb => ?_) (fun gb => ?_) <;> (try simp only [ZZ] at gb) <;> first | (refine LR O (Ja O O m0) ?_) | (refine LK O ?_)
  all_goals refine MV ?_
  all_goals refine Hz ?_
  all_goals refine N4 ?_
  all_goals refine gl ?_
  all_goals first | refine LK O ?_ | (refine J8 17 O (fun gb => ?_) (fun gb => ?_) <;> (try simp only [ZZ] at gb) <;> first | (refine LR O (Ja O O m0) ?_) | (refine LK O ?_))
  all_goals refine MV ?_
  all_goals first | (refine Ju O O O Js7 (Jim m3 m3 ha.seg hb.seg) oR ?_) | refine LK O ?_
  all_goals refine N4 ?_
  all_goals (
   refine Ha ?_; refine NA fun w1 hs1 => ?_
   unfold LgL.er
   first
     | (have h1 : a.addr = b.addr := by assumption
        have h2 : a.data = b.data := by assumption
        rw [decide_eq_decide, h1, h2]; simp; done)
     | (have h1 : ¬ a.addr = b.addr := by assumption
        rw [decide_eq_false (by simp [h1])])
     | (have h1 : ¬ a.data = b.data := by assumption
        rw [decide_eq_false (by simp [h1])])
   skip)
theorem Jrv {xs ys : List LgL} {p q : Pl} (hl : xs.length ≤ 9223372036854775807) (hl2 : ys.length ≤ 9223372036854775807) (hs : Seg R xs.length (xs.flatMap LgL.cells) p) (hs' : Seg R ys.length (ys.flatMap LgL.cells) q) (hx' : ∀ x ∈ xs, x.In R) (hy' : ∀ y ∈ ys, y.In R) :
  PureR prog 162 [Km xs.length p, Km ys.length q, fV 161].toArray (.bool (decide (xs.map LgL.er = ys.map LgL.er))) R := by
 refine J1 Tryz.func162 O O fun w => gi ?_; refine cD (fun g => ?_) fun g => ?_
 refine KF 7 O (MW fun w1 hs1 => ?_); rw [decide_eq_false (show ¬ xs.map LgL.er = ys.map LgL.er from fun e => by have := congrArg List.length e; rw [D', D'] at this; omega)]; rfl
 ·refine Hq ?_; refine No ?_
  have hll : xs.length = ys.length := by omega
  refine JQ (σ := Nat) (fun i => i ≤ xs.length ∧ ∀ j, j < i → (xs.map LgL.er)[j]? = (ys.map LgL.er)[j]?) (fun i => [(0, Km xs.length p), (1, Km ys.length q), (2, fV 161), (15, Km xs.length p), (16, .int .i64 (xs.length : Int)), (17, .int .i64 (i : Int))]) (fun _ => []) (fun _ _ _ => True) (fun i => xs.length - i) 0 ⟨by omega, fun j hj => absurd hj m3⟩ (lK rfl) (S') (fun _ _ h => h) ?_; rintro i ⟨hi1, hinv⟩; refine gv ?_; refine cD (fun g => ?_) fun g => ?_
  refine Hu ?_
  obtain ⟨x, hx, hmx⟩ := Vh mz
  obtain ⟨y, hy, hmy⟩ := Vh M7
  refine NG ?_
  refine Nq ?_; refine LR O (Ky LgL.len oR O hs hx O O) (LN O fun r1 => JI O (Je (k := 0) (n := 3) (ys := x.cells) O O O O O O O O O (J5 6 O ?_)))
  refine LR O (JG (j := i) O hs' O O O mg m3) (LR O (Ky LgL.len oR O hs' hy O O) (LN O fun r2 => Je (k := 0) (n := 3) (ys := y.cells) O O O O O O O O O (kB ?_))); refine LR O (Ji (xs := x.cells) (n := 3) O (kn 1 O) O O O) (LR O (Ji (xs := y.cells) (n := 3) O (kn 0 O) O O O) (Ju O O O (enters_of Tryz.func161 m4 O) (Jru (hx' x hmx) (hy' y hmy)) oR (NQ ?_))); refine cD (fun g => ?_) fun g => ?_
  exact kH
  refine GC ?_
  exact JL (i + 1) ⟨by omega, fun j hj => by
   rcases Nat.lt_succ_iff_lt_or_eq.1 hj with hj | rfl
   exact hinv j hj
   rw [List.getElem?_map, List.getElem?_map, hx, hy]; simp_all⟩ m3 (lK rfl) (S') (fun _ _ h => h)
  ·exact Gj
theorem Jrw {xs ys : List TxL} {p q : Pl} (hl : xs.length ≤ 9223372036854775807) (hl2 : ys.length ≤ 9223372036854775807) (hs : Seg R xs.length (xs.flatMap TxL.cells) p) (hs' : Seg R ys.length (ys.flatMap TxL.cells) q) (hx' : ∀ x ∈ xs, x.In R) (hy' : ∀ y ∈ ys, y.In R) :
  PureR prog 165 [Km xs.length p, Km ys.length q, fV 64].toArray (.bool (decide (xs.map TxL.er = ys.map TxL.er))) R := by
 refine J1 Tryz.func165 O O fun w => gi ?_; refine cD (fun g => ?_) fun g => ?_
 refine KF 7 O (MW fun w1 hs1 => ?_); rw [decide_eq_false (show ¬ xs.map TxL.er = ys.map TxL.er from fun e => by have := congrArg List.length e; rw [D', D'] at this; omega)]; rfl
 ·refine Hq ?_; refine No ?_
  have hll : xs.length = ys.length := by omega
  refine JQ (σ := Nat) (fun i => i ≤ xs.length ∧ ∀ j, j < i → (xs.map TxL.er)[j]? = (ys.map TxL.er)[j]?) (fun i => [(0, Km xs.length p), (1, Km ys.length q), (2, fV 64), (15, Km xs.length p), (16, .int .i64 (xs.length : Int)), (17, .int .i64 (i : Int))]) (fun _ => []) (fun _ _ _ => True) (fun i => xs.length - i) 0 ⟨by omega, fun j hj => absurd hj m3⟩ (lK rfl) (S') (fun _ _ h => h) ?_; rintro i ⟨hi1, hinv⟩; refine gv ?_; refine cD (fun g => ?_) fun g => ?_
  refine Hu ?_
  obtain ⟨x, hx, hmx⟩ := Vh mz
  obtain ⟨y, hy, hmy⟩ := Vh M7
  refine NG ?_
  refine Nq ?_; refine LR O (Ky TxL.len oR O hs hx O O) (LN O fun r1 => JI O (Je (k := 0) (n := 36) (ys := x.cells) O O O O O O O O O (J5 6 O ?_)))
  refine LR O (JG (j := i) O hs' O O O mg m3) (LR O (Ky TxL.len oR O hs' hy O O) (LN O fun r2 => Je (k := 0) (n := 36) (ys := y.cells) O O O O O O O O O (kB ?_))); refine LR O (Ji (xs := x.cells) (n := 36) O (kn 1 O) O O O) (LR O (Ji (xs := y.cells) (n := 36) O (kn 0 O) O O O) (Ju O O O Js8 (vD (hx' x hmx) (hy' y hmy)) oR (NQ ?_))); refine cD (fun g => ?_) fun g => ?_
  exact kH
  refine GC ?_
  exact JL (i + 1) ⟨by omega, fun j hj => by
   rcases Nat.lt_succ_iff_lt_or_eq.1 hj with hj | rfl
   exact hinv j hj
   rw [List.getElem?_map, List.getElem?_map, hx, hy]; simp_all⟩ m3 (lK rfl) (S') (fun _ _ h => h)
  ·exact Gj
theorem Jrx {a b : BlL} (ha : a.In R) (hb : b.In R) : PureR prog 164 [.agg a.cells.toArray, .agg b.cells.toArray].toArray (.bool (decide (a.er = b.er))) R := by
  refine J1 Tryz.func164 O O fun w => Hn fun r1 r2 => ?_; refine kB ?_
  refine DD ?_; refine gu ?_
  refine J8 10 O (fun gb => ?_) (fun gb => ?_) <;> (try simp only [ZZ] at gb) <;> first | (refine LR O (Ja O O m0) ?_) | (refine LK O ?_)
  all_goals refine MV ?_
  all_goals first | (refine Ju O O O (enters_of Tryz.func165 m4 O) (Jrw ha.len hb.len ha.seg hb.seg ha.txs hb.txs) oR ?_) | refine LK O ?_
  all_goals refine N4 ?_
  all_goals (
   refine Ha ?_; refine NA fun w1 hs1 => ?_
   unfold BlL.er
   first
     | (have h1 : a.origin = b.origin := by simp_all
        rw [decide_eq_decide, h1]; simp; done)
     | (have h1 : ¬ a.origin = b.origin := by simp_all
        rw [decide_eq_false (by simp [h1])])
   skip)
theorem Jry {xs ys : List BlL} {p q : Pl} (hl : xs.length ≤ 9223372036854775807) (hl2 : ys.length ≤ 9223372036854775807) (hs : Seg R xs.length (xs.flatMap BlL.cells) p) (hs' : Seg R ys.length (ys.flatMap BlL.cells) q) (hx' : ∀ x ∈ xs, x.In R) (hy' : ∀ y ∈ ys, y.In R) :
  PureR prog 166 [Km xs.length p, Km ys.length q, fV 164].toArray (.bool (decide (xs.map BlL.er = ys.map BlL.er))) R := by
 refine J1 Tryz.func166 O O fun w => gi ?_; refine cD (fun g => ?_) fun g => ?_
 refine KF 7 O (MW fun w1 hs1 => ?_); rw [decide_eq_false (show ¬ xs.map BlL.er = ys.map BlL.er from fun e => by have := congrArg List.length e; rw [D', D'] at this; omega)]; rfl
 ·refine Hq ?_; refine No ?_
  have hll : xs.length = ys.length := by omega
  refine JQ (σ := Nat) (fun i => i ≤ xs.length ∧ ∀ j, j < i → (xs.map BlL.er)[j]? = (ys.map BlL.er)[j]?) (fun i => [(0, Km xs.length p), (1, Km ys.length q), (2, fV 164), (15, Km xs.length p), (16, .int .i64 (xs.length : Int)), (17, .int .i64 (i : Int))]) (fun _ => []) (fun _ _ _ => True) (fun i => xs.length - i) 0 ⟨by omega, fun j hj => absurd hj m3⟩ (lK rfl) (S') (fun _ _ h => h) ?_; rintro i ⟨hi1, hinv⟩; refine gv ?_; refine cD (fun g => ?_) fun g => ?_
  refine Hu ?_
  obtain ⟨x, hx, hmx⟩ := Vh mz
  obtain ⟨y, hy, hmy⟩ := Vh M7
  refine NG ?_
  refine Nq ?_; refine LR O (Ky BlL.len oR O hs hx O O) (LN O fun r1 => Db ?_); refine LR O (Ky BlL.len oR O hs' hy O O) (LN O fun r2 => GK ?_); refine Ju O O O (enters_of Tryz.func164 m4 O) (Jrx (hx' x hmx) (hy' y hmy)) oR (NQ ?_); refine cD (fun g => ?_) fun g => ?_
  exact kH
  refine GC ?_
  exact JL (i + 1) ⟨by omega, fun j hj => by
   rcases Nat.lt_succ_iff_lt_or_eq.1 hj with hj | rfl
   exact hinv j hj
   rw [List.getElem?_map, List.getElem?_map, hx, hy]; simp_all⟩ m3 (lK rfl) (S') (fun _ _ h => h)
  ·exact Gj
theorem Jrz {R : J3} {a b : RcL} (ha : a.In R) (hb : b.In R) : PureR prog 65 [a.val, b.val].toArray (.bool (decide (a.er = b.er))) R := by
 have h1_ := ha.len
 have h2_ := hb.len
 refine J1 Tryz.func65 O O fun w => ?_; refine Hn fun r1 r2 => ?_; refine J5 10 O ?_
 refine DD ?_; refine gu ?_
 refine J8 11 O (fun gb => ?_) (fun gb => ?_) <;> (try simp only [ZZ] at gb) <;> first | (refine LR O (Ja O O m0) ?_) | (refine LK O ?_)
 all_goals refine MV ?_
 all_goals refine GZ ?_
 all_goals first | refine LK O ?_ | (refine J8 18 O (fun gb => ?_) (fun gb => ?_) <;> (try simp only [ZZ] at gb) <;> first | (refine LR O (Ja O O m0) ?_) | (refine LK O ?_))
 all_goals refine MV ?_
 all_goals refine GZ ?_
 all_goals first | refine LK O ?_ | (refine J8 25 O (fun gb => ?_) (fun gb => ?_) <;> (try simp only [ZZ] at gb) <;> first | (refine LR O (Ja O O m0) ?_) | (refine LK O ?_))
 all_goals refine MV ?_
 all_goals refine GZ ?_
 all_goals first | refine LK O ?_ | (refine J8 32 O (fun gb => ?_) (fun gb => ?_) <;> (try simp only [ZZ] at gb) <;> first | (refine LR O (Ja O O m0) ?_) | (refine LK O ?_))
 all_goals refine MV ?_
 all_goals refine GZ ?_
 all_goals first | refine LK O ?_ | (refine J8 39 O (fun gb => ?_) (fun gb => ?_) <;> (try simp only [ZZ] at gb) <;> first | (refine LR O (Ja O O m0) ?_) | (refine LK O ?_))
 all_goals refine MV ?_
 all_goals refine GZ ?_
 all_goals first | refine LK O ?_ | (refine J8 46 O (fun gb => ?_) (fun gb => ?_) <;> (try simp only [ZZ] at gb) <;> first | (refine LR O (Ja O O m0) ?_) | (refine LK O ?_))
 all_goals refine MV ?_
 all_goals refine Ns ?_
 all_goals first | (refine Ju O O O (enters_of Tryz.func162 m4 O) (Jrv m3 m3 ha.seg hb.seg ha.inn hb.inn) oR ?_) | refine LK O ?_
 all_goals refine N4 ?_
 all_goals (
  refine Ha ?_; refine NA fun w1 hs1 => ?_
  unfold RcL.er
  simp only [RcE.mk.injEq]
  first | (rw [decide_eq_decide]; simp_all [Int.ofNat_inj]; done) | (rw [decide_eq_false (by simp_all [Int.ofNat_inj])])
  skip)
theorem Jr0 {R : J3} {a b : SpL} (ha : a.In R) (hb : b.In R) : PureR prog 67 [a.val, b.val].toArray (.bool (decide (a.er = b.er))) R := by
 refine J1 Tryz.func67 O O fun w => ?_; refine Hn fun r1 r2 => ?_; refine J5 10 O ?_
 refine DD ?_; refine gu ?_
 refine J8 11 O (fun gb => ?_) (fun gb => ?_) <;> (try simp only [ZZ] at gb) <;> first | (refine LR O (Ja O O m0) ?_) | (refine LK O ?_)
 all_goals refine MV ?_
 all_goals refine GZ ?_
 all_goals first | refine LK O ?_ | (refine J8 18 O (fun gb => ?_) (fun gb => ?_) <;> (try simp only [ZZ] at gb) <;> first | (refine LR O (Ja O O m0) ?_) | (refine LK O ?_))
 all_goals refine MV ?_
 all_goals refine Hz ?_
 all_goals refine N4 ?_
 all_goals refine gl ?_
 all_goals first | refine LK O ?_ | (refine J8 25 O (fun gb => ?_) (fun gb => ?_) <;> (try simp only [ZZ] at gb) <;> first | (refine LR O (Ja O O m0) ?_) | (refine LK O ?_))
 all_goals refine MV ?_
 all_goals refine Hz ?_
 all_goals refine N4 ?_
 all_goals refine gl ?_
 all_goals first | refine LK O ?_ | (refine J8 32 O (fun gb => ?_) (fun gb => ?_) <;> (try simp only [ZZ] at gb) <;> first | (refine LR O (Ja O O m0) ?_) | (refine LK O ?_))
 all_goals refine MV ?_
 all_goals refine Ns ?_
 all_goals first | (refine Ju O O O (enters_of Tryz.func166 m4 O) (Jry ha.len hb.len ha.seg hb.seg ha.blocks hb.blocks) oR ?_) | refine LK O ?_
 all_goals refine N4 ?_
 all_goals (
  refine Ha ?_; refine NA fun w1 hs1 => ?_
  unfold SpL.er
  simp only [SpE.mk.injEq]
  first | (rw [decide_eq_decide]; simp_all [Int.ofNat_inj]; done) | (rw [decide_eq_false (by simp_all [Int.ofNat_inj])])
  skip)
def xp (b : BaL) : List Value := [Jk b.parent, Jk b.hash, uV b.epoch, uV b.time]
theorem Jw1 (b : BaL) : Pure prog 163 [b.val].toArray (.agg (xp b).toArray) := by
 refine JA Tryz.func163 O O fun w => EO fun r0 => ?_; refine LN O fun r2 => kV ?_
 refine NH ?_; refine MY ?_
 refine Gb ?_; refine LR O (Jo (r := xp b) O m4) (Je (k := 0) (n := 4) (ys := xp b) O O O O O O O O O (GN ?_)); refine KP O O (.cons (Jj (vs := xp b) O (kn 0 O) O O) .nil) (fun w1 hs1 => ⟨rfl, hs1.keep⟩)
def yv (a b : BaL) : Prop := a.parent = b.parent ∧ a.hash = b.hash ∧ a.epoch = b.epoch ∧ a.time = b.time
instance (t u : BaL) : Decidable (yv t u) := inferInstanceAs (Decidable (_ ∧ _))
theorem Jv9 (a b : BaL) : (ZG (Jk a.parent) (Jk b.parent) && (ZG (Jk a.hash) (Jk b.hash) && (ZG (uV a.epoch) (uV b.epoch) && (ZG (uV a.time) (uV b.time) && true)))) = decide (yv a b) := by
 rw [Bool.eq_iff_iff, decide_eq_true_iff]
 unfold yv
 simp only [eqU, vA, Bool.and_eq_true, decide_eq_true_eq, Bool.and_true]
theorem Jw2 (a b : BaL) : a.er = b.er ↔ (yv a b ∧ a.txs = b.txs) := by
 unfold BaL.er yv
 simp only [BaE.mk.injEq]
 constructor
 ·rintro ⟨a, b, c, d, e⟩; exact ⟨⟨a, c, b, d⟩, e⟩
 ·rintro ⟨⟨a, c, b, d⟩, e⟩; exact ⟨a, b, c, d, e⟩
deriving instance DecidableEq for BaE
theorem Jwa {a b : BaL} (ha : a.In R) (hb : b.In R) : PureR prog 66 [a.val, b.val].toArray (.bool (decide (a.er = b.er))) R := by
 refine J1 Tryz.func66 O O fun w => MZ ?_; refine JR (cs := List.toArray (a.cells)) O O O O fun r0 => JR (cs := List.toArray (b.cells)) O O O O fun r1 => G5 ?_; refine KB 13 m4 m4 (Jt O O O (Ji (xs := a.cells) (n := 5) O (kn 1 O) O O O) (Vu O O O (enters_of Tryz.func163 m4 O) (Jw1 a) (Jt O O O (Ji (xs := b.cells) (n := 5) O (kn 0 O) O O O) (Vu O O O (enters_of Tryz.func163 m4 O) (Jw1 b) (Jt O O O (Jh0 (xs := xp a) (ys := xp b) O O O m4 m4 (.scal m7 O O O O O (.scal m7 O O O O O (.scal m7 O O O O O (.scal m7 O O O O O .nil))))) (WK (congrArg Value.bool (Jv9 a b)) (kr ?_)))))))
 refine vr 10 O (fun gb => ?_) (fun gb => ?_) <;> (try simp only [ZZ] at gb) <;> first | (refine Jt O O O (Ja O O m0) ?_) | (refine Kp O O O ?_)
 all_goals first | refine Jt O O O (Jc O (kn 1 O) O O) ?_ | refine Kp O O O ?_
 all_goals refine D7 ?_
 all_goals first | (refine wl O O O Js7 (Jim ha.len hb.len ha.seg hb.seg) oR ?_) | refine Kp O O O ?_
 all_goals refine GQ ?_
 all_goals (
  refine Jt O O O (J7 O) (KR (JD 1 O (vf 2 O ?_))); refine NA fun w1 hs1 => ?_
  first | exact (decide_eq_decide.2 ((Jw2 a b).trans ⟨fun h => h.2, fun h => ⟨by simp_all, h⟩⟩)).symm | exact (decide_eq_false fun h => by have h2 := (Jw2 a b).1 h; simp_all).symm
  skip)
structure MsgE where
  kind : Int
  ver : Int
  tx : TxE
  rc : RcE
  ba : BaE
  sp : SpE
  txs : List BS
  o0 : BS
  o1 : BS
  o2 : BS
  n : Nat
structure MsgL where
  kind : Int
  ver : Int
  tx : TxL
  rc : RcL
  ba : BaL
  sp : SpL
  p : Pl
  txs : List BS
  o0 : BS
  o1 : BS
  o2 : BS
  n : Nat
variable {m : MsgL}
def MsgL.cells (m : MsgL) : List Value := [.int .i64 m.kind, .int .i64 m.ver, .int .i64 m.tx.kind, uV m.tx.chain, uV m.tx.nonce, uV m.tx.tip.a, uV m.tx.tip.b, uV m.tx.tip.c, uV m.tx.tip.d, uV m.tx.price.a, uV m.tx.price.b, uV m.tx.price.c, uV m.tx.price.d, uV m.tx.gas, Jk m.tx.dest, uV m.tx.value.a, uV m.tx.value.b, uV m.tx.value.c, uV m.tx.value.d, Jk m.tx.data, Km m.tx.acc.length m.tx.accP, Km m.tx.auths.length m.tx.auP, uV m.tx.y, uV m.tx.r.a, uV m.tx.r.b, uV m.tx.r.c, uV m.tx.r.d, uV m.tx.s.a, uV m.tx.s.b, uV m.tx.s.c, uV m.tx.s.d, Jk m.tx.source, Jk m.tx.from_, uV m.tx.mint.a, uV m.tx.mint.b, uV m.tx.mint.c, uV m.tx.mint.d, .bool m.tx.system, .int .i64 m.rc.kind, .bool m.rc.ok, uV m.rc.gas, Km m.rc.logs.length m.rc.p, .bool m.rc.has, uV m.rc.nonce, uV m.rc.ver, Jk m.ba.parent, uV m.ba.epoch, Jk m.ba.hash, uV m.ba.time, Km m.ba.txs.length m.ba.p, uV m.sp.time, uV m.sp.epoch, Jk m.sp.parent, Jk m.sp.hash, Km m.sp.blocks.length m.sp.p, Km m.txs.length m.p, Jk m.o0, Jk m.o1, Jk m.o2, uV m.n]
def MsgL.val (m : MsgL) : Value := .agg m.cells.toArray
def MsgL.er (m : MsgL) : MsgE := ⟨m.kind, m.ver, m.tx.er, m.rc.er, m.ba.er, m.sp.er, m.txs, m.o0, m.o1, m.o2, m.n⟩
structure MsgL.In (R : J3) (m : MsgL) : Prop where
  tx : m.tx.In R
  rc : m.rc.In R
  ba : m.ba.In R
  sp : m.sp.In R
  len : m.txs.length ≤ 1000000
  seg : Seg R m.txs.length (Qu m.txs) m.p
theorem MsgL.In.mono (hs : ∀ q ∈ R, q ∈ R') (h : m.In R) : m.In R' := ⟨h.tx.mono hs, h.rc.mono hs, ⟨h.ba.len, h.ba.seg.mono hs⟩, h.sp.mono hs, h.len, h.seg.mono hs⟩
def ba0L : BaL := ⟨[], 0, [], 0, none, []⟩
theorem Jzt : ba0L.In R := ⟨Z', rfl⟩
def QY (k : Int) : MsgL := ⟨k, 0, tx0L, rc0L, ba0L, sp0L, none, [], [], [], [], 0⟩
theorem VI (k : Int) : (QY k).In R := ⟨Jar, ZF, Jzt, Jrc, Z', rfl⟩
def qe (s : BS) (ch : Nat) : MsgE × Int := if s = [] then ((QY 3).er, 3) else if (s.getD 0 0).toNat = 0 then ({ (QY 3).er with ba := (X1 s).1 }, (X1 s).2) else if (s.getD 0 0).toNat = 1 then ({ (QY 3).er with ver := 1, sp := (XL s ch).1 }, (XL s ch).2) else ((QY 3).er, 9)
def Jg4 (n : Int) (s : BS) (ch : Nat) : Prop := if n = 1 then TxOk s else if n = 2 then (Xx s).2 = 0 else if n = 3 then (qe s ch).2 = 0 else if n = 4 then (VS s).2.2 = 0 else if n = 5 then (Qe s).2.2.2 = 0 else False
def yw (n : Int) (s : BS) (ch : Nat) : MsgE := if n = 1 then { (QY 1).er with tx := txF s } else if n = 2 then { (QY 2).er with rc := (Xx s).1 } else if n = 3 then (qe s ch).1 else if n = 4 then { (QY 4).er with ver := (VS s).1, txs := (VS s).2.1 }
 else { (QY 5).er with ver := ((Qe s).1 : Int), o0 := (Qe s).2.1.getD 0 [], o1 := (Qe s).2.1.getD 1 [], o2 := (Qe s).2.1.getD 2 [], n := (Qe s).2.2.1 }
structure OpR (n : Int) (s : BS) (ch : Nat) where
  x : MsgL
  L : J3
  e : Int
  inn : x.In L
  good : e = 0 → Jg4 n s ch ∧ x.er = yw n s ch
  bad : e ≠ 0 → ¬ Jg4 n s ch
theorem J1p (hs : s.length ≤ 1000000) : PureT (α := OpR 1 s ch) prog 137 [XY ch, Jk s].toArray (fun z => .tuple #[z.x.val, .int .i64 z.e]) [] (fun z => z.L) [] := by
 have hD := Jed (s := s) m3
 refine Jq Tryz.func137 O O fun w => G1 fun r2 r4 => ?_; refine gp ?_; refine KA O O O (enters_of Tryz.func12 m4 O) hD oN fun y => gc ?_; change HL _ _ _ ((r4, _) :: (r2, _) :: y.L) _ _ _ _; refine MR ?_; refine LN O fun r6 => Je (k := 0) (n := 36) (ys := y.x.cells) O O O O O O O O O (kB ?_); refine LR O (Ji (xs := y.x.cells) (n := 36) O (kn 0 O) O O O) (LR O (Jo (r := ({ QY 1 with tx := y.x } : MsgL).cells) rfl m4) (JI rfl (Je (k := 1) (n := 60) (ys := ({ QY 1 with tx := y.x } : MsgL).cells) rfl rfl rfl rfl rfl rfl rfl rfl rfl (JD 4 rfl ?_)))); refine Jh O O (.cons (Jj (vs := ({ QY 1 with tx := y.x } : MsgL).cells) rfl (kn 1 rfl) rfl rfl) (.cons (Jg rfl) .nil)) (fun w1 hs1 => ?_); exact ⟨⟨({ QY 1 with tx := y.x } : MsgL), y.L, y.e, { VI 1 with tx := y.inn }, fun h => ⟨(y.good h).1, by unfold yw MsgL.er; rw [if_pos rfl, ← (y.good h).2]⟩, fun h => (y.bad h).1⟩, rfl, hs1.weakL (.cons _ (.cons _ (.cons _ (T'))))⟩
theorem J1q (hgo : VH go) (hs : s.length ≤ 1000000) : PureT (α := OpR 2 s ch) prog 143 [XY ch, Jk s].toArray (fun z => .tuple #[z.x.val, .int .i64 z.e]) [] (fun z => z.L) [(0, go)] := by
 have hD := Jev hgo (s := s) m3
 refine Jq Tryz.func143 O O fun w => G1 fun r2 r4 => ?_; refine gp ?_; refine KA O O O (enters_of Tryz.func221 m4 O) hD oR fun y => gc ?_; change HL _ _ _ ((r4, _) :: (r2, _) :: y.L) _ _ _ _; refine MR ?_; refine LN O fun r6 => Je (k := 0) (n := 7) (ys := y.x.cells) O O O O O O O O O (kB ?_); refine LR O (Ji (xs := y.x.cells) (n := 7) O (kn 0 O) O O O) (LR O (Jo (r := ({ QY 2 with rc := y.x } : MsgL).cells) rfl m4) (JI rfl (Je (k := 1) (n := 60) (ys := ({ QY 2 with rc := y.x } : MsgL).cells) rfl rfl rfl rfl rfl rfl rfl rfl rfl (JD 4 rfl ?_)))); refine Jh O O (.cons (Jj (vs := ({ QY 2 with rc := y.x } : MsgL).cells) rfl (kn 1 rfl) rfl rfl) (.cons (Jg rfl) .nil)) (fun w1 hs1 => ?_); exact ⟨⟨({ QY 2 with rc := y.x } : MsgL), y.L, (Xx s).2, { VI 2 with rc := y.inn }, fun h => ⟨h, by unfold yw MsgL.er; rw [if_neg m7, if_pos rfl, ← y.er]⟩, fun h => h⟩, rfl, hs1.weakL (.cons _ (.cons _ (.cons _ (T'))))⟩
theorem J1r (hs : s.length ≤ 1000000) : PureT (α := OpR 4 s ch) prog 152 [XY ch, Jk s].toArray (fun z => .tuple #[z.x.val, .int .i64 z.e]) [] (fun z => z.L) [] := by
 have hD := Jjv (s := s) hs
 have hrl := xl s
 have hwl : (VS s).2.1.length ≤ 64 := by
  unfold VS
  split
  exact Gw
  split
  exact Gw
  split
  exact hrl.1
  exact Gw
 refine Jq Tryz.func152 O O fun w => G1 fun r2 r4 => ?_; refine gp ?_; refine KA O O O (enters_of Tryz.func25 m4 O) hD oN fun y => gc ?_
 obtain ⟨row, hrow⟩ := y
 change rowOk 1 (VS s).2.1.length ((VS s).2.1.map Jk) row at hrow
 have hrv : JV (VS s).2.1.length row = Km (VS s).2.1.length (Ke row) := KK hrow
 simp only [hrv]; change HL _ _ _ ((r4, _) :: (r2, _) :: J9 9 ((VS s).2.1.map Jk) row) _ _ _ _; refine MR ?_; refine Fh ?_; refine J5 9 O (LR O (Jo (r := ({ QY 4 with ver := (VS s).1, p := Ke row, txs := (VS s).2.1 } : MsgL).cells) rfl m4) (JI rfl (Je (k := 0) (n := 60) (ys := ({ QY 4 with ver := (VS s).1, p := Ke row, txs := (VS s).2.1 } : MsgL).cells) rfl rfl rfl rfl rfl rfl rfl rfl rfl (JD 4 rfl ?_)))); refine Jh O O (.cons (Jj (vs := ({ QY 4 with ver := (VS s).1, p := Ke row, txs := (VS s).2.1 } : MsgL).cells) rfl (kn 0 rfl) rfl rfl) (.cons (Jg rfl) .nil)) (fun w1 hs1 => ?_); exact ⟨⟨({ QY 4 with ver := (VS s).1, p := Ke row, txs := (VS s).2.1 } : MsgL), J9 9 ((VS s).2.1.map Jk) row, (VS s).2.2, { VI 4 with len := by show (VS s).2.1.length ≤ _; omega, seg := Ks (e := 9) hrow m7 }, fun h => ⟨h, by unfold yw MsgL.er; rw [if_neg m7, if_neg m7, if_neg m7, if_pos rfl]; all_goals rfl⟩, fun h => h⟩, rfl, hs1.weakL (.cons _ (.cons _ (T')))⟩
theorem pV3 {p : List BS} (h : p.length = 3) : pV p = .agg #[Jk (p.getD 0 []), Jk (p.getD 1 []), Jk (p.getD 2 [])] := by
 obtain ⟨a, b, c, rfl⟩ := J1j h
 rfl
theorem Jr1 (s : BS) : (Qe s).2.1.length = 3 := by
 unfold Qe
 split
 ·exact Ko s 0
 ·split
  ·exact Ko s 0
  ·split
   ·exact Ko s 0
   ·split
    ·exact Ko s 0
    ·exact Ko s 3
theorem Jzu (hs : s.length ≤ 1000000) : PureT (α := OpR 5 s ch) prog 156 [XY ch, Jk s].toArray (fun z => .tuple #[z.x.val, .int .i64 z.e]) [] (fun z => z.L) [] := by
 have hD : Pure prog 226 [Jk s].toArray (Jzf (Qe s)) := Jlp (s := s) m3
 unfold Jzf at hD
 rw [pV3 (Jr1 s)] at hD; refine Jq Tryz.func156 O O fun w => G1 fun r2 r4 => ?_; refine gp ?_; refine JC O O O (enters_of Tryz.func226 m4 O) hD (MR ?_); refine kg ?_; refine LN O fun r7 => JI O (Je (k := 0) (n := 3) (ys := [Jk ((Qe s).2.1.getD 0 []), Jk ((Qe s).2.1.getD 1 []), Jk ((Qe s).2.1.getD 2 [])]) O O O O O O O O O (J5 7 O ?_)); refine LR O (Ji (xs := [Jk ((Qe s).2.1.getD 0 []), Jk ((Qe s).2.1.getD 1 []), Jk ((Qe s).2.1.getD 2 [])]) (n := 3) O (kn 0 O) O O O) (JI O (LR O (Jo (r := ({ QY 5 with ver := ((Qe s).1 : Int), o0 := (Qe s).2.1.getD 0 [], o1 := (Qe s).2.1.getD 1 [], o2 := (Qe s).2.1.getD 2 [], n := (Qe s).2.2.1 } : MsgL).cells) rfl m4) ?_)); refine JI O (Je (k := 1) (n := 60) (ys := ({ QY 5 with ver := ((Qe s).1 : Int), o0 := (Qe s).2.1.getD 0 [], o1 := (Qe s).2.1.getD 1 [], o2 := (Qe s).2.1.getD 2 [], n := (Qe s).2.2.1 } : MsgL).cells) rfl rfl rfl rfl rfl rfl rfl rfl rfl (JD 4 rfl ?_)); refine Jh O O (.cons (Jj (vs := ({ QY 5 with ver := ((Qe s).1 : Int), o0 := (Qe s).2.1.getD 0 [], o1 := (Qe s).2.1.getD 1 [], o2 := (Qe s).2.1.getD 2 [], n := (Qe s).2.2.1 } : MsgL).cells) rfl (kn 1 rfl) rfl rfl) (.cons (Jg rfl) .nil)) (fun w1 hs1 => ?_); exact ⟨⟨({ QY 5 with ver := ((Qe s).1 : Int), o0 := (Qe s).2.1.getD 0 [], o1 := (Qe s).2.1.getD 1 [], o2 := (Qe s).2.1.getD 2 [], n := (Qe s).2.2.1 } : MsgL), [], (Qe s).2.2.2, { VI 5 with }, fun h => ⟨h, by unfold yw MsgL.er; rw [if_neg m7, if_neg m7, if_neg m7, if_neg m7]; all_goals rfl⟩, fun h => h⟩, rfl, hs1.weakL (S')⟩
theorem J1s (hs : s.length ≤ 1000000) (hch : VL ch) : PureT (α := OpR 3 s ch) prog 148 [XY ch, Jk s].toArray (fun z => .tuple #[z.x.val, .int .i64 z.e]) [] (fun z => z.L) [] := by
 have hG := Jyl (s := s) m3
 have hP := Jvv (ch := ch) hs hch
 have hb8 := V6 (s.getD 0 0)
 refine Jq Tryz.func148 O O fun w => G1 fun r2 r4 => ?_; refine kB ?_; refine LR O (Jo (r := (QY 3).cells) O m4) (LN O fun r6 => Je (k := 0) (n := 60) (ys := (QY 3).cells) O O O O O O O O O (J5 8 O (Hs ?_))); refine NQ ?_; refine cD (fun h5 => ?_) fun h5 => ?_
 refine DE ?_; refine Hy ?_
 (refine Jh O O (.cons (Jj (vs := (QY 3).cells) O (kn 1 O) O O) (.cons (Jg O) .nil)) (fun w1 hs1 => ?_)
  have hU : qe s ch = ((QY 3).er, 3) := by unfold qe; exact if_pos ma
  exact ⟨⟨QY 3, [], 3, VI 3, fun h => ⟨by show (qe s ch).2 = 0; rw [hU]; exact h, by show _ = (qe s ch).1; rw [hU]⟩, fun h => by show ¬ (qe s ch).2 = 0; rw [hU]; exact h⟩, rfl, hs1.weakL (.cons _ (.cons _ (.cons _ nf)))⟩)
 ·refine Dz ?_
  have hne : s ≠ [] := by assumption
  have hpos : 0 < s.length := List.length_pos_iff.2 hne
  refine NG ?_; refine Nv ?_; refine G5 ?_; refine cD (fun h8 => ?_) fun h8 => ?_
  refine NG ?_; refine KA O O O (enters_of Tryz.func11 m4 O) hG oN fun y => gc ?_; change HL _ _ _ ((r6, _) :: (r4, _) :: (r2, _) :: y.L) _ _ _ _; refine MR ?_
  refine MP ?_; refine J2 (k := 0) (n := 5) (cs' := List.toArray (({ QY 3 with ba := y.b } : MsgL).cells)) (vs := #[_, _, _, _, _]) rfl rfl rfl rfl rfl rfl rfl m8 m4 rfl (gp ?_); refine LR O (Ji (xs := ({ QY 3 with ba := y.b } : MsgL).cells) (n := 60) rfl (kn 0 rfl) rfl rfl rfl) (JI rfl (Je (k := 1) (n := 60) (ys := ({ QY 3 with ba := y.b } : MsgL).cells) rfl rfl rfl rfl rfl rfl rfl rfl rfl (JD 4 rfl ?_)))
  (refine Jh O O (.cons (Jj (vs := ({ QY 3 with ba := y.b } : MsgL).cells) rfl (kn 1 rfl) rfl rfl) (.cons (Jg rfl) .nil)) (fun w1 hs1 => ?_)
   have hU : qe s ch = ({ (QY 3).er with ba := (X1 s).1 }, (X1 s).2) := by unfold qe; rw [if_neg hne, if_pos m3]
   exact ⟨⟨({ QY 3 with ba := y.b } : MsgL), y.L, (X1 s).2, { VI 3 with ba := y.inn }, fun h => ⟨by show (qe s ch).2 = 0; rw [hU]; exact h, by show _ = (qe s ch).1; rw [hU]; exact congrArg (fun g => ({ (QY 3).er with ba := g } : MsgE)) y.er⟩, fun h => by show ¬ (qe s ch).2 = 0; rw [hU]; exact h⟩, rfl, hs1.weakL (.cons _ (.cons _ (.cons _ nf)))⟩)
  ·refine gz ?_; refine Nv ?_; refine G5 ?_; refine cD (fun h11 => ?_) fun h11 => ?_
   refine NG ?_
   refine MP ?_; refine Jm (k := 0) (cs' := List.toArray (({ QY 3 with ver := 1 } : MsgL).cells)) rfl rfl rfl rfl rfl rfl rfl rfl m4 rfl (kV ?_)
   refine MP ?_; refine LR O (Jc (v := uV ch) O (kn 2 O) O O) (KA O O O (enters_of Tryz.func223 m4 O) hP oN fun y => gc ?_); change HL _ _ _ ((r6, _) :: (r4, _) :: (r2, _) :: y.L) _ _ _ _; refine MR ?_
   refine MP ?_; refine J2 (k := 0) (n := 5) (cs' := List.toArray (({ QY 3 with ver := 1, sp := y.x } : MsgL).cells)) (vs := #[_, _, _, _, _]) rfl rfl rfl rfl rfl rfl rfl m8 m4 rfl (gp ?_); refine LR O (Ji (xs := ({ QY 3 with ver := 1, sp := y.x } : MsgL).cells) (n := 60) rfl (kn 0 rfl) rfl rfl rfl) (JI rfl (Je (k := 1) (n := 60) (ys := ({ QY 3 with ver := 1, sp := y.x } : MsgL).cells) rfl rfl rfl rfl rfl rfl rfl rfl rfl (JD 4 rfl ?_)))
   (refine Jh O O (.cons (Jj (vs := ({ QY 3 with ver := 1, sp := y.x } : MsgL).cells) rfl (kn 1 rfl) rfl rfl) (.cons (Jg rfl) .nil)) (fun w1 hs1 => ?_)
    have hU : qe s ch = ({ (QY 3).er with ver := 1, sp := (XL s ch).1 }, (XL s ch).2) := by unfold qe; rw [if_neg hne, if_neg m3, if_pos m3]
    exact ⟨⟨({ QY 3 with ver := 1, sp := y.x } : MsgL), y.L, (XL s ch).2, { VI 3 with sp := y.inn }, fun h => ⟨by show (qe s ch).2 = 0; rw [hU]; exact h, by show _ = (qe s ch).1; rw [hU]; exact congrArg (fun g => ({ (QY 3).er with ver := 1, sp := g } : MsgE)) y.er⟩, fun h => by show ¬ (qe s ch).2 = 0; rw [hU]; exact h⟩, rfl, hs1.weakL (.cons _ (.cons _ (.cons _ nf)))⟩)
   ·refine gx ?_; refine Hy ?_
    (refine Jh O O (.cons (Jj (vs := (QY 3).cells) O (kn 1 O) O O) (.cons (Jg O) .nil)) (fun w1 hs1 => ?_)
     have hU : qe s ch = ((QY 3).er, 9) := by unfold qe; rw [if_neg hne, if_neg m3, if_neg m3]
     exact ⟨⟨QY 3, [], 9, VI 3, fun h => ⟨by show (qe s ch).2 = 0; rw [hU]; exact h, by show _ = (qe s ch).1; rw [hU]⟩, fun h => by show ¬ (qe s ch).2 = 0; rw [hU]; exact h⟩, rfl, hs1.weakL (.cons _ (.cons _ (.cons _ nf)))⟩)
theorem Jr2 (hgo : VH go) (hs : s.length ≤ 1000000) (hch : VL ch) : PureT (α := OpR 1 s ch) prog 58 [.int .i64 1, Jk s, uV ch].toArray (fun z => .tuple #[z.x.val, .int .i64 z.e]) [] (fun z => z.L) [(0, go)] := by
 refine NB fun w r6 rm => ?_
 refine LR O (Qk (v := .tuple #[.agg (List.toArray [.func (.func 135) #[] #[], .func (.func 136) #[] #[], .func (.func 137) #[XY ch] #[], .func (.func 138) #[] #[]]), .bool true]) (VP (t := 3) m4) O O (kn 0 O) O O ⟨_, rfl⟩ mc O) (Eu fun r8 => ?_); refine Je (k := 0) (n := 4) (ys := [.func (.func 135) #[] #[], .func (.func 136) #[] #[], .func (.func 137) #[XY ch] #[], .func (.func 138) #[] #[]]) O O O O O O O O O (E8 ?_); refine Jl O (fun h5 => ?_) (fun h5 => ?_)
 exact HK
 ·try simp only [ZZ] at h5
  refine DK ?_; refine JI O (QW (T := []) (L0 := [_, _, _]) (Rl := []) (O') O O O (enters_of Tryz.func137 m4 O) (J1p (ch := ch) hs) oN fun y => (JY B' ?_)); refine NO fun r10 => ?_; refine cD (fun g => ?_) fun g => ?_
  refine NG ?_; refine F9 ?_
  (have he : y.e ≠ 0 := by omega
   refine gT fun w1 hs1 => ?_
   exact ⟨⟨QY 0, [], y.e, VI 0, fun h => absurd h he, y.bad⟩, rfl, hs1.weakL (S')⟩)
  ·refine NK ?_
   (have he : y.e = 0 := by omega
    refine G2 fun w1 hs1 => ?_
    exact ⟨⟨y.x, y.L, 0, y.inn, fun _ => y.good he, fun h => absurd O h⟩, rfl, hs1.weakL (.cons _ (.cons _ (.cons _ (.cons _ (T')))))⟩)
theorem Jr3 (hgo : VH go) (hs : s.length ≤ 1000000) (hch : VL ch) : PureT (α := OpR 2 s ch) prog 58 [.int .i64 2, Jk s, uV ch].toArray (fun z => .tuple #[z.x.val, .int .i64 z.e]) [] (fun z => z.L) [(0, go)] := by
 refine NB fun w r6 rm => ?_
 refine LR O (Qk (v := .tuple #[.agg (List.toArray [.func (.func 140) #[] #[], .func (.func 141) #[] #[], .func (.func 143) #[XY ch] #[], .func (.func 144) #[] #[]]), .bool true]) (VP (t := 3) m4) O O (kn 0 O) O O ⟨_, rfl⟩ mc O) (Eu fun r8 => ?_); refine Je (k := 0) (n := 4) (ys := [.func (.func 140) #[] #[], .func (.func 141) #[] #[], .func (.func 143) #[XY ch] #[], .func (.func 144) #[] #[]]) O O O O O O O O O (E8 ?_); refine Jl O (fun h5 => ?_) (fun h5 => ?_)
 exact HK
 ·try simp only [ZZ] at h5
  refine DK ?_; refine JI O (QW (T := []) (L0 := [_, _, _]) (Rl := [(0, go)]) (O') O O O (enters_of Tryz.func143 m4 O) (J1q (ch := ch) hgo hs) oR fun y => (JY B' ?_)); refine NO fun r10 => ?_; refine cD (fun g => ?_) fun g => ?_
  refine NG ?_; refine F9 ?_
  (have he : y.e ≠ 0 := by omega
   refine gT fun w1 hs1 => ?_
   exact ⟨⟨QY 0, [], y.e, VI 0, fun h => absurd h he, y.bad⟩, rfl, hs1.weakL (S')⟩)
  ·refine NK ?_
   (have he : y.e = 0 := by omega
    refine G2 fun w1 hs1 => ?_
    exact ⟨⟨y.x, y.L, 0, y.inn, fun _ => y.good he, fun h => absurd O h⟩, rfl, hs1.weakL (.cons _ (.cons _ (.cons _ (.cons _ (T')))))⟩)
theorem Jr4 (hgo : VH go) (hs : s.length ≤ 1000000) (hch : VL ch) : PureT (α := OpR 3 s ch) prog 58 [.int .i64 3, Jk s, uV ch].toArray (fun z => .tuple #[z.x.val, .int .i64 z.e]) [] (fun z => z.L) [(0, go)] := by
 refine NB fun w r6 rm => ?_
 refine LR O (Qk (v := .tuple #[.agg (List.toArray [.func (.func 146) #[] #[], .func (.func 147) #[XY ch] #[], .func (.func 148) #[XY ch] #[], .func (.func 149) #[] #[]]), .bool true]) (VP (t := 3) m4) O O (kn 0 O) O O ⟨_, rfl⟩ mc O) (Eu fun r8 => ?_); refine Je (k := 0) (n := 4) (ys := [.func (.func 146) #[] #[], .func (.func 147) #[XY ch] #[], .func (.func 148) #[XY ch] #[], .func (.func 149) #[] #[]]) O O O O O O O O O (E8 ?_); refine Jl O (fun h5 => ?_) (fun h5 => ?_)
 exact HK
 ·try simp only [ZZ] at h5
  refine DK ?_; refine JI O (QW (T := []) (L0 := [_, _, _]) (Rl := []) (O') O O O (enters_of Tryz.func148 m4 O) (J1s hs hch) oN fun y => (JY B' ?_)); refine NO fun r10 => ?_; refine cD (fun g => ?_) fun g => ?_
  refine NG ?_; refine F9 ?_
  (have he : y.e ≠ 0 := by omega
   refine gT fun w1 hs1 => ?_
   exact ⟨⟨QY 0, [], y.e, VI 0, fun h => absurd h he, y.bad⟩, rfl, hs1.weakL (S')⟩)
  ·refine NK ?_
   (have he : y.e = 0 := by omega
    refine G2 fun w1 hs1 => ?_
    exact ⟨⟨y.x, y.L, 0, y.inn, fun _ => y.good he, fun h => absurd O h⟩, rfl, hs1.weakL (.cons _ (.cons _ (.cons _ (.cons _ (T')))))⟩)
theorem Jr5 (hgo : VH go) (hs : s.length ≤ 1000000) (hch : VL ch) : PureT (α := OpR 4 s ch) prog 58 [.int .i64 4, Jk s, uV ch].toArray (fun z => .tuple #[z.x.val, .int .i64 z.e]) [] (fun z => z.L) [(0, go)] := by
 refine NB fun w r6 rm => ?_
 refine LR O (Qk (v := .tuple #[.agg (List.toArray [.func (.func 150) #[] #[], .func (.func 151) #[] #[], .func (.func 152) #[XY ch] #[], .func (.func 149) #[] #[]]), .bool true]) (VP (t := 3) m4) O O (kn 0 O) O O ⟨_, rfl⟩ mc O) (Eu fun r8 => ?_); refine Je (k := 0) (n := 4) (ys := [.func (.func 150) #[] #[], .func (.func 151) #[] #[], .func (.func 152) #[XY ch] #[], .func (.func 149) #[] #[]]) O O O O O O O O O (E8 ?_); refine Jl O (fun h5 => ?_) (fun h5 => ?_)
 exact HK
 ·try simp only [ZZ] at h5
  refine DK ?_; refine JI O (QW (T := []) (L0 := [_, _, _]) (Rl := []) (O') O O O (enters_of Tryz.func152 m4 O) (J1r (ch := ch) hs) oN fun y => (JY B' ?_)); refine NO fun r10 => ?_; refine cD (fun g => ?_) fun g => ?_
  refine NG ?_; refine F9 ?_
  (have he : y.e ≠ 0 := by omega
   refine gT fun w1 hs1 => ?_
   exact ⟨⟨QY 0, [], y.e, VI 0, fun h => absurd h he, y.bad⟩, rfl, hs1.weakL (S')⟩)
  ·refine NK ?_
   (have he : y.e = 0 := by omega
    refine G2 fun w1 hs1 => ?_
    exact ⟨⟨y.x, y.L, 0, y.inn, fun _ => y.good he, fun h => absurd O h⟩, rfl, hs1.weakL (.cons _ (.cons _ (.cons _ (.cons _ (T')))))⟩)
theorem Jr6 (hgo : VH go) (hs : s.length ≤ 1000000) (hch : VL ch) : PureT (α := OpR 5 s ch) prog 58 [.int .i64 5, Jk s, uV ch].toArray (fun z => .tuple #[z.x.val, .int .i64 z.e]) [] (fun z => z.L) [(0, go)] := by
 refine NB fun w r6 rm => ?_
 refine LR O (Qk (v := .tuple #[.agg (List.toArray [.func (.func 153) #[] #[], .func (.func 154) #[] #[], .func (.func 156) #[XY ch] #[], .func (.func 149) #[] #[]]), .bool true]) (VP (t := 3) m4) O O (kn 0 O) O O ⟨_, rfl⟩ mc O) (Eu fun r8 => ?_); refine Je (k := 0) (n := 4) (ys := [.func (.func 153) #[] #[], .func (.func 154) #[] #[], .func (.func 156) #[XY ch] #[], .func (.func 149) #[] #[]]) O O O O O O O O O (E8 ?_); refine Jl O (fun h5 => ?_) (fun h5 => ?_)
 exact HK
 ·try simp only [ZZ] at h5
  refine DK ?_; refine JI O (QW (T := []) (L0 := [_, _, _]) (Rl := []) (O') O O O (enters_of Tryz.func156 m4 O) (Jzu (ch := ch) hs) oN fun y => (JY B' ?_)); refine NO fun r10 => ?_; refine cD (fun g => ?_) fun g => ?_
  refine NG ?_; refine F9 ?_
  (have he : y.e ≠ 0 := by omega
   refine gT fun w1 hs1 => ?_
   exact ⟨⟨QY 0, [], y.e, VI 0, fun h => absurd h he, y.bad⟩, rfl, hs1.weakL (S')⟩)
  ·refine NK ?_
   (have he : y.e = 0 := by omega
    refine G2 fun w1 hs1 => ?_
    exact ⟨⟨y.x, y.L, 0, y.inn, fun _ => y.good he, fun h => absurd O h⟩, rfl, hs1.weakL (.cons _ (.cons _ (.cons _ (.cons _ (T')))))⟩)
def lgI (f k v : Int) : Bool := Jax k v && decide (f ≥ loI k v) && decide (f ≤ hiI k v)
def Jbr (r : RcE) : Int := if r.has = true then (if r.ver = 0 then 1 else 2) else 0
theorem J1t (f : Int) (m : MsgL) : Pure prog 138 [.int .i64 f, m.val].toArray (.bool (lgI f 1 m.tx.kind)) := by
  have hP := WG f 1 m.tx.kind
  refine JA Tryz.func138 O O fun w => MZ ?_
  all_goals (
   refine DW fun r3 => ?_
   all_goals refine gl ?_
   all_goals refine F2 ?_
   all_goals refine LR O (Jc (v := .int .i64 m.tx.kind) O (kn 0 O) O O) (JC O O O Jc5 hP ?_)
   all_goals (
    refine Ha ?_
    exact Ng
    skip)
   skip)
theorem Jr7 (f : Int) (m : MsgL) : Pure prog 149 [.int .i64 f, m.val].toArray (.bool (lgI f m.kind m.ver)) := by
  have hP := WG f m.kind m.ver
  refine JA Tryz.func149 O O fun w => MZ ?_
  all_goals (
   refine DW fun r3 => ?_
   all_goals refine gl ?_
   all_goals refine N5 ?_
   all_goals refine MP ?_
   all_goals refine LR O (Jc O (kn 0 O) O O) (JC O O O Jc5 hP ?_)
   all_goals (
    refine Ha ?_
    exact Ng
    skip)
   skip)
theorem Jjy (r : RcL) : Pure Tryz.prog 145 [r.val].toArray (.int .i64 (Jbr r.er)) := by
  refine JA Tryz.func145 rfl rfl fun w => ?_; refine Kl ?_
  refine Jv 2 rfl ?_
  all_goals (
   refine JR (cs := List.toArray (r.cells)) rfl rfl rfl rfl fun r1 => (JD 2 rfl (wh 5 rfl ?_))
   all_goals refine LR rfl (Ja rfl rfl (by first | (simp only [Nat.zero_add, Nat.reduceAdd, Nat.reduceMul, Nat.zero_mul, Nat.mul_one, Nat.add_zero]; exact rfl) | exact rfl)) ?_
   all_goals (
    refine LR rfl (Jc rfl (kn 0 rfl) rfl rfl) (JD 3 rfl (V0 1 rfl ?_))
    refine Jl rfl (fun g => ?_) (fun g => ?_)
    · try exact Bool.noConfusion g
      all_goals try simp only [ZZ] at g
      all_goals (
       refine Jv 2 rfl ?_
       all_goals (
        refine JD 2 rfl (vf 4 rfl ?_)
        refine pT rfl rfl rfl fun w1 hs1 => ?_
        refine ⟨congrArg (fun z => Ending.returned (Value.int .i64 z)) ?_, hs1.keep⟩
        unfold Jbr RcL.er
        first | (rw [if_neg (by simp_all)]; done) | (rw [if_pos (by simp_all), if_pos (by simp only; omega)]; done) | (rw [if_pos (by simp_all), if_neg (by simp only; omega)]; done)
        skip)
       skip)
    · try exact Bool.noConfusion g
      all_goals try simp only [ZZ] at g
      all_goals (
       refine Jv 2 rfl ?_
       all_goals refine LR rfl (Ja rfl rfl (by first | (simp only [Nat.zero_add, Nat.reduceAdd, Nat.reduceMul, Nat.zero_mul, Nat.mul_one, Nat.add_zero]; exact rfl) | exact rfl)) ?_
       all_goals (
        refine LR rfl (Jc rfl (kn 0 rfl) rfl rfl) (JD 3 rfl (V0 1 rfl ?_))
        refine Jl rfl (fun g => ?_) (fun g => ?_)
        · try exact Bool.noConfusion g
          all_goals try simp only [ZZ] at g
          all_goals (
           refine Jv 2 rfl ?_
           all_goals (
            refine JD 2 rfl (vf 4 rfl ?_)
            refine pT rfl rfl rfl fun w1 hs1 => ?_
            refine ⟨congrArg (fun z => Ending.returned (Value.int .i64 z)) ?_, hs1.keep⟩
            unfold Jbr RcL.er
            first | (rw [if_neg (by simp_all)]; done) | (rw [if_pos (by simp_all), if_pos (by simp only; omega)]; done) | (rw [if_pos (by simp_all), if_neg (by simp only; omega)]; done)
            skip)
           skip)
        · try exact Bool.noConfusion g
          all_goals try simp only [ZZ] at g
          all_goals (
           refine Jv 5 rfl ?_
           all_goals (
            refine JD 2 rfl (vf 2 rfl ?_)
            refine pT rfl rfl rfl fun w1 hs1 => ?_
            refine ⟨congrArg (fun z => Ending.returned (Value.int .i64 z)) ?_, hs1.keep⟩
            unfold Jbr RcL.er
            first | (rw [if_neg (by simp_all)]; done) | (rw [if_pos (by simp_all), if_pos (by simp only; omega)]; done) | (rw [if_pos (by simp_all), if_neg (by simp only; omega)]; done)
            skip)
           skip)
        skip)
       skip)
    skip)
   skip)
def lgR (f : Int) (r : RcE) : Bool := lgI f 1 r.kind && (decide (r.kind ≠ 126) || lgI f 2 (Jbr r))
theorem J1v (f : Int) (m : MsgL) : Pure prog 144 [.int .i64 f, m.val].toArray (.bool (lgR f m.rc.er)) := by
  have hP : Pure prog 139 [.int .i64 f, .int .i64 1, .int .i64 m.rc.kind].toArray (.bool (lgI f 1 m.rc.kind)) := WG f 1 m.rc.kind
  have hP2 : Pure prog 139 [.int .i64 f, .int .i64 2, .int .i64 (Jbr m.rc.er)].toArray (.bool (lgI f 2 (Jbr m.rc.er))) := WG f 2 (Jbr m.rc.er)
  obtain ⟨b1, h1⟩ : ∃ b, lgI f 1 m.rc.kind = b := ⟨_, rfl⟩
  obtain ⟨b2, h2⟩ : ∃ b, lgI f 2 (Jbr m.rc.er) = b := ⟨_, rfl⟩
  have hR : lgR f m.rc.er = (b1 && (decide (m.rc.kind ≠ 126) || b2)) := by unfold lgR; rw [h2]; show (lgI f 1 m.rc.kind && _) = _; rw [h1]; rfl
  rw [h1] at hP
  rw [h2] at hP2
  rw [hR]
  refine JA Tryz.func144 O O fun w => Kl ?_
  cases b1 <;> cases b2
  all_goals (
    refine NG ?_
    all_goals (
     refine DW fun r3 => ?_
     all_goals refine MP ?_
     all_goals (
      refine LR O (Ki (vs := m.rc.cells) O (kn 0 O) O O O O) (LN O fun r5 => (Je (k := 0) (n := 7) (ys := m.rc.cells) O O O O O O O O O (JD 1 O (wh 3 O ?_))))
      all_goals refine gl ?_
      all_goals refine MP ?_
      all_goals refine LR O (Jc (v := .int .i64 m.rc.kind) O (kn 0 O) O O) (JC O O O Jc5 hP ?_)
      all_goals refine gl ?_
      all_goals first | (refine LR O (Ja O O m0) ?_) | refine LK O ?_ | (refine J8 12 O (fun gb => ?_) (fun gb => ?_) <;> (try simp only [ZZ] at gb) <;> first | (refine LR O (Ja O O m0) ?_) | (refine LK O ?_))
      all_goals first | refine LR O (Jc (v := .int .i64 m.rc.kind) O (kn 0 O) O O) ?_ | refine LK O ?_ | (refine J8 12 O (fun gb => ?_) (fun gb => ?_) <;> (try simp only [ZZ] at gb) <;> first | (refine LR O (Jc (v := .int .i64 m.rc.kind) O (kn 0 O) O O) ?_) | (refine LK O ?_))
      all_goals first | refine KC O ?_ | refine LK O ?_ | (refine J8 12 O (fun gb => ?_) (fun gb => ?_) <;> (try simp only [ZZ] at gb) <;> first | (refine KC O ?_) | (refine LK O ?_))
      all_goals first | refine JI O ?_ | refine LK O ?_ | (refine J8 12 O (fun gb => ?_) (fun gb => ?_) <;> (try simp only [ZZ] at gb) <;> first | (refine JI O ?_) | (refine LK O ?_))
      all_goals first | refine JI O ?_ | refine LK O ?_ | (refine J8 16 O (fun gb => ?_) (fun gb => ?_) <;> (try simp only [ZZ] at gb) <;> first | (refine JI O ?_) | (refine LK O ?_))
      all_goals first | refine LR O (Ji (xs := m.rc.cells) (n := 7) O (kn 0 O) O O O) ?_ | refine LK O ?_ | (refine J8 16 O (fun gb => ?_) (fun gb => ?_) <;> (try simp only [ZZ] at gb) <;> first | (refine LR O (Ji (xs := m.rc.cells) (n := 7) O (kn 0 O) O O O) ?_) | (refine LK O ?_))
      all_goals first | (refine JC O O O (enters_of Tryz.func145 m4 O) (Jjy m.rc) ?_) | refine LK O ?_ | (refine J8 16 O (fun gb => ?_) (fun gb => ?_) <;> (try simp only [ZZ] at gb) <;> first | (refine JC O O O (enters_of Tryz.func145 m4 O) (Jjy m.rc) ?_) | (refine LK O ?_))
      all_goals first | (refine JC O O O Jc5 hP2 ?_) | refine LK O ?_ | (refine J8 16 O (fun gb => ?_) (fun gb => ?_) <;> (try simp only [ZZ] at gb) <;> first | (refine JC O O O Jc5 hP2 ?_) | (refine LK O ?_))
      all_goals first | refine LR O (Jp O O) ?_ | refine LR O (Jy O O) ?_ | refine LK O ?_ | (refine J8 12 O (fun gb => ?_) (fun gb => ?_) <;> (try simp only [ZZ] at gb) <;> first | (refine LR O (Jp O O) ?_) | (refine LR O (Jy O O) ?_) | (refine LK O ?_))
      all_goals refine N4 ?_
      all_goals (
       refine Ha ?_
       refine NA fun w1 hs1 => ?_
       first | rfl | simp_all | (simp_all; done)
       skip)
      skip)
     skip)
    skip)
def Xa (f : Int) (m : MsgE) : Bool := if m.kind = 1 then lgI f 1 m.tx.kind else if m.kind = 2 then lgR f m.rc else lgI f m.kind m.ver
theorem J2z (f : Int) (hk : m.kind = 1) : Xa f m.er = lgI f 1 m.tx.kind := if_pos hk
theorem J20 (f : Int) (hk : m.kind = 2) : Xa f m.er = lgR f m.rc.er := by
 unfold Xa
 rw [if_neg (show ¬ m.er.kind = 1 from fun h => by have h : m.kind = 1 := h; omega)]; exact if_pos hk
theorem Jzv (f : Int) (h1 : m.kind ≠ 1) (h2 : m.kind ≠ 2) : Xa f m.er = lgI f m.kind m.ver := by
 unfold Xa
 rw [if_neg (show ¬ m.er.kind = 1 from h1)]; exact if_neg h2
theorem J21 (f : Int) (hk : m.kind = 3) : Xa f m.er = lgI f m.kind m.ver := Jzv f m3 m3
theorem J22 (f : Int) (hk : m.kind = 4) : Xa f m.er = lgI f m.kind m.ver := Jzv f m3 m3
theorem J23 (f : Int) (hk : m.kind = 5) : Xa f m.er = lgI f m.kind m.ver := Jzv f m3 m3
theorem Jls (f : Int) (m : MsgL) (hk : m.kind = 1) : Pure prog 16 [.int .i64 f, m.val].toArray (.bool (Xa f m.er)) := by
 refine Hh fun w r3 rm => ?_
 refine Xk (k := 4) O O O O O (Qk (v := .tuple #[.agg (List.toArray [.func (.func 135) #[] #[], .func (.func 136) #[] #[], .func (.func 137) #[XY 0] #[], .func (.func 138) #[] #[]]), .bool true]) (VP (t := 3) m4) O O (kn 0 O) O O ⟨_, rfl⟩ mc MC) (Nm fun r5 => ?_); refine KV (k := 9) (q := 0) (n := 4) (ys := [.func (.func 135) #[] #[], .func (.func 136) #[] #[], .func (.func 137) #[XY 0] #[], .func (.func 138) #[] #[]]) O O O O O O O O O O O (fun p hp => by rw [U'.1 hp]; exact M' (M' N')) (F3 ?_); refine JI O (LR O (Ji (xs := m.cells) (n := 60) O (kn 2 O) O O O) (JC O O O (enters_of Tryz.func138 m4 O) (J1t f m) ?_)); refine kZ ?_; refine gA ?_; refine NA fun w1 hs1 => ?_; exact (J2z f hk).symm
theorem Jlt (f : Int) (m : MsgL) (hk : m.kind = 2) : Pure prog 16 [.int .i64 f, m.val].toArray (.bool (Xa f m.er)) := by
 refine Hh fun w r3 rm => ?_
 refine Xk (k := 4) O O O O O (Qk (v := .tuple #[.agg (List.toArray [.func (.func 140) #[] #[], .func (.func 141) #[] #[], .func (.func 143) #[XY 0] #[], .func (.func 144) #[] #[]]), .bool true]) (VP (t := 3) m4) O O (kn 0 O) O O ⟨_, rfl⟩ mc MC) (Nm fun r5 => ?_); refine KV (k := 9) (q := 0) (n := 4) (ys := [.func (.func 140) #[] #[], .func (.func 141) #[] #[], .func (.func 143) #[XY 0] #[], .func (.func 144) #[] #[]]) O O O O O O O O O O O (fun p hp => by rw [U'.1 hp]; exact M' (M' N')) (F3 ?_); refine JI O (LR O (Ji (xs := m.cells) (n := 60) O (kn 2 O) O O O) (JC O O O (enters_of Tryz.func144 m4 O) (J1v f m) ?_)); refine kZ ?_; refine gA ?_; refine NA fun w1 hs1 => ?_; exact (J20 f hk).symm
theorem Jlu (f : Int) (m : MsgL) (hk : m.kind = 3) : Pure prog 16 [.int .i64 f, m.val].toArray (.bool (Xa f m.er)) := by
 refine Hh fun w r3 rm => ?_
 refine Xk (k := 4) O O O O O (Qk (v := .tuple #[.agg (List.toArray [.func (.func 146) #[] #[], .func (.func 147) #[XY 0] #[], .func (.func 148) #[XY 0] #[], .func (.func 149) #[] #[]]), .bool true]) (VP (t := 3) m4) O O (kn 0 O) O O ⟨_, rfl⟩ mc MC) (Nm fun r5 => ?_); refine KV (k := 9) (q := 0) (n := 4) (ys := [.func (.func 146) #[] #[], .func (.func 147) #[XY 0] #[], .func (.func 148) #[XY 0] #[], .func (.func 149) #[] #[]]) O O O O O O O O O O O (fun p hp => by rw [U'.1 hp]; exact M' (M' N')) (kP ?_); refine NA fun w1 hs1 => ?_; exact (J21 f hk).symm
theorem Jlv (f : Int) (m : MsgL) (hk : m.kind = 4) : Pure prog 16 [.int .i64 f, m.val].toArray (.bool (Xa f m.er)) := by
 refine Hh fun w r3 rm => ?_
 refine Xk (k := 4) O O O O O (Qk (v := .tuple #[.agg (List.toArray [.func (.func 150) #[] #[], .func (.func 151) #[] #[], .func (.func 152) #[XY 0] #[], .func (.func 149) #[] #[]]), .bool true]) (VP (t := 3) m4) O O (kn 0 O) O O ⟨_, rfl⟩ mc MC) (Nm fun r5 => ?_); refine KV (k := 9) (q := 0) (n := 4) (ys := [.func (.func 150) #[] #[], .func (.func 151) #[] #[], .func (.func 152) #[XY 0] #[], .func (.func 149) #[] #[]]) O O O O O O O O O O O (fun p hp => by rw [U'.1 hp]; exact M' (M' N')) (kP ?_); refine NA fun w1 hs1 => ?_; exact (J22 f hk).symm
theorem Jlw (f : Int) (m : MsgL) (hk : m.kind = 5) : Pure prog 16 [.int .i64 f, m.val].toArray (.bool (Xa f m.er)) := by
 refine Hh fun w r3 rm => ?_
 refine Xk (k := 4) O O O O O (Qk (v := .tuple #[.agg (List.toArray [.func (.func 153) #[] #[], .func (.func 154) #[] #[], .func (.func 156) #[XY 0] #[], .func (.func 149) #[] #[]]), .bool true]) (VP (t := 3) m4) O O (kn 0 O) O O ⟨_, rfl⟩ mc MC) (Nm fun r5 => ?_); refine KV (k := 9) (q := 0) (n := 4) (ys := [.func (.func 153) #[] #[], .func (.func 154) #[] #[], .func (.func 156) #[XY 0] #[], .func (.func 149) #[] #[]]) O O O O O O O O O O O (fun p hp => by rw [U'.1 hp]; exact M' (M' N')) (kP ?_); refine NA fun w1 hs1 => ?_; exact (J23 f hk).symm
theorem qF (f : Int) (m : MsgL) (h1 : 1 ≤ m.kind) (h5 : m.kind ≤ 5) : Pure prog 16 [.int .i64 f, m.val].toArray (.bool (Xa f m.er)) := by
 by_cases a1 : m.kind = 1
 ·exact Jls f m a1
 by_cases a2 : m.kind = 2
 ·exact Jlt f m a2
 by_cases a3 : m.kind = 3
 ·exact Jlu f m a3
 by_cases a4 : m.kind = 4
 ·exact Jlv f m a4
 exact Jlw f m m3
theorem Jr8 {n : Int} (h : ¬ (1 ≤ n ∧ n ≤ 5)) (a b c d e : Value) : Qx Jco (.int .i64 n) [(Value.int .i64 1, a), (.int .i64 2, b), (.int .i64 3, c), (.int .i64 4, d), (.int .i64 5, e)] = none := by
 have h1 : ¬ n = 1 := by omega
 have h2 : ¬ n = 2 := by omega
 have h3 : ¬ n = 3 := by omega
 have h4 : ¬ n = 4 := by omega
 have h5 : ¬ n = 5 := by omega
 simp [Qx, Jcp, h1, h2, h3, h4, h5]
theorem qf {n : Int} (h : 1 ≤ n ∧ n ≤ 5) : (yw n s ch).kind = n := by
 unfold yw
 by_cases h1 : n = 1
 ·rw [if_pos h1]; exact h1.symm
 rw [if_neg h1]
 by_cases h2 : n = 2
 ·rw [if_pos h2]; exact h2.symm
 rw [if_neg h2]
 by_cases h3 : n = 3
 ·rw [if_pos h3, h3]
  unfold qe
  split
  ·rfl
  ·split
   ·rfl
   ·split <;> rfl
 rw [if_neg h3]
 by_cases h4 : n = 4
 ·rw [if_pos h4]; exact h4.symm
 rw [if_neg h4]
 show (5 : Int) = n
 omega
theorem Jbs {n : Int} (h : Jg4 n s ch) : 1 ≤ n ∧ n ≤ 5 := by
 by_cases h0 : 1 ≤ n ∧ n ≤ 5
 ·exact h0
 ·unfold Jg4 at h
  rw [if_neg m3, if_neg m3, if_neg m3, if_neg m3, if_neg m3] at h; exact h.elim
theorem Jr9 {n : Int} (hn : ¬ (1 ≤ n ∧ n ≤ 5)) : PureT (α := OpR n s ch) prog 58 [.int .i64 n, Jk s, uV ch].toArray (fun z => .tuple #[z.x.val, .int .i64 z.e]) [] (fun z => z.L) [(0, go)] := by
 refine NB fun w r6 rm => ?_
 refine LR O (Qk (v := .tuple #[.agg #[.nilFunc, .nilFunc, .nilFunc, .nilFunc], .bool false]) (VP (t := 3) m4) O O (kn 0 O) O O ⟨_, rfl⟩ mc (by have h := Jr8 hn; simp only [List.map, Yc, h]; rfl)) (Eu fun r8 => ?_); refine Je (k := 0) (n := 4) (ys := [.nilFunc, .nilFunc, .nilFunc, .nilFunc]) O O O O O O O O O (E8 ?_); refine Jl O (fun h5 => ?_) (fun h5 => ?_)
 try simp only [ZZ] at h5
 refine Dk ?_; refine Je (k := 2) (n := 60) (ys := (QY 0).cells) O O O O O O O O O (G4 ?_); refine Jh O O (.cons (Jj (vs := (QY 0).cells) O (kn 2 O) O O) (.cons (Jg O) .nil)) (fun w1 hs1 => ?_); exact ⟨⟨QY 0, [], 9, VI 0, fun h => absurd h m7, fun _ h => hn (Jbs h)⟩, rfl, hs1.weakL (S')⟩
 ·exact HK
theorem Jsa (hgo : VH go) {n : Int} (hs : s.length ≤ 1000000) (hch : VL ch) : PureT (α := OpR n s ch) prog 58 [.int .i64 n, Jk s, uV ch].toArray (fun z => .tuple #[z.x.val, .int .i64 z.e]) [] (fun z => z.L) [(0, go)] := by
 by_cases h : 1 ≤ n ∧ n ≤ 5
 ·by_cases h1 : n = 1
  ·subst h1; exact Jr2 hgo hs hch
  by_cases h2 : n = 2
  ·subst h2; exact Jr3 hgo hs hch
  by_cases h3 : n = 3
  ·subst h3; exact Jr4 hgo hs hch
  by_cases h4 : n = 4
  ·subst h4; exact Jr5 hgo hs hch
  obtain rfl : n = 5 := by omega
  exact Jr6 hgo hs hch
 ·exact Jr9 h
def Jsb (ts : List Nat) (t : Nat) (n : Int) (s : BS) (ch : Nat) : Prop := (Ys ts t).2 = 0 ∧ Jg4 n s ch ∧ Xa (Ys ts t).1 (yw n s ch) = true
structure DcR (ts : List Nat) (t : Nat) (n : Int) (s : BS) (ch : Nat) where
  x : MsgL
  L : J3
  e : Int
  inn : x.In L
  good : e = 0 → Jsb ts t n s ch ∧ x.er = yw n s ch
  bad : e ≠ 0 → ¬ Jsb ts t n s ch
theorem Xy (hgo : VH go) (hgR : (0, go) ∈ R) {p : Pl} {t : Nat} {n : Int} (htl : ts.length ≤ 9223372036854775807) (hS : Seg R ts.length (unC ts) p) (hs : s.length ≤ 1000000) (hch : VL ch) :
  PureT (α := DcR ts t n s ch) prog 14 [Jgi ts.length p, uV t, .int .i64 n, Jk s, uV ch].toArray (fun z => .tuple #[z.x.val, .int .i64 z.e]) [] (fun z => z.L) R := by
 have hA := wZ htl hS t
 have hO := Jsa hgo (n := n) hs hch
 have hDc : ∀ a b, Ys ts t = (a, b) → Jsb ts t n s ch = (b = 0 ∧ Jg4 n s ch ∧ Xa a (yw n s ch) = true) := fun a b h => by unfold Jsb; rw [h]
 obtain ⟨⟨fa, fe⟩, hf⟩ : ∃ g, Ys ts t = g := ⟨_, rfl⟩
 have hDc := hDc fa fe hf
 rw [hf] at hA; refine Jq Tryz.func14 O O fun w => MZ ?_; refine JR (cs := List.toArray ([Km ts.length p])) O O O O fun r5 => LN O fun r10 => kB ?_; refine LR O (Ji (xs := [Km ts.length p]) (n := 1) O (kn 1 O) O O O) (JI O (Ju O O O Jx1 hA oR ?_)); refine H4 ?_; refine cD (fun h5 => ?_) fun h5 => ?_
 refine Dk ?_; refine JI O (Je (k := 0) (n := 60) (ys := (QY 0).cells) O O O O O O O O O (JD 5 O ?_))
 (refine Jh O O (.cons (Jj (vs := (QY 0).cells) O (kn 0 O) O O) (.cons (Jg O) .nil)) (fun w1 hs1 => ?_)
  exact ⟨⟨QY 0, [], fe, VI 0, fun h => absurd h m3, fun _ h => by rw [hDc] at h; omega⟩, rfl, hs1.weakL (S')⟩)
 refine DE ?_; refine KA O O O (enters_of Tryz.func58 m4 O) hO (fun q hq => Or.inr (by rw [U'.1 hq]; exact hgR)) fun y => gc ?_; change HL _ _ _ ((r10, _) :: (r5, _) :: y.L) _ _ _ _; refine MR ?_; refine LN O fun r14 => Je (k := 0) (n := 60) (ys := y.x.cells) O O O O O O O O O (JP 12 O (cD (fun h10 => ?_) fun h10 => ?_))
 refine Dk ?_; refine JI O (Je (k := 1) (n := 60) (ys := (QY 0).cells) O O O O O O O O O (JD 6 O ?_))
 (refine Jh O O (.cons (Jj (vs := (QY 0).cells) O (kn 1 O) O O) (.cons (Jg O) .nil)) (fun w1 hs1 => ?_)
  exact ⟨⟨QY 0, [], y.e, VI 0, fun h => absurd h m3, fun _ h => by rw [hDc] at h; exact y.bad m3 h.2.1⟩, rfl, hs1.weakL (S')⟩)
 refine gz ?_; refine LR O (Ji (xs := y.x.cells) (n := 60) O (kn 0 O) O O O) ?_
 have hyg := y.good m3
 have hyn := Jbs hyg.1
 have hyk : y.x.kind = n := by have h1 : y.x.er.kind = _ := congrArg MsgE.kind hyg.2; rw [qf hyn] at h1; exact h1
 have hL := qF fa y.x m3 m3
 rw [hyg.2] at hL; refine JC O O O Jx2 hL (G5 ?_); refine cD (fun h13 => ?_) fun h13 => ?_
 refine Dk ?_; refine Je (k := 1) (n := 60) (ys := (QY 0).cells) O O O O O O O O O (JD 6 O ?_)
 (refine Jh O O (.cons (Jj (vs := (QY 0).cells) O (kn 1 O) O O) (.cons (Jg O) .nil)) (fun w1 hs1 => ?_)
  exact ⟨⟨QY 0, [], 10, VI 0, fun h => absurd h m3, fun _ h => by rw [hDc] at h; have h2 := h.2.2; simp_all⟩, rfl, hs1.weakL (S')⟩)
 refine gx ?_; refine LR O (Ji (xs := y.x.cells) (n := 60) O (kn 0 O) O O O) (Je (k := 1) (n := 60) (ys := y.x.cells) O O O O O O O O O (gA ?_))
 (refine Jh O O (.cons (Jj (vs := y.x.cells) O (kn 1 O) O O) (.cons (Jg O) .nil)) (fun w1 hs1 => ?_)
  have hl1 : Xa fa (yw n s ch) = true := by simp_all
  exact ⟨⟨y.x, y.L, 0, y.inn, fun _ => ⟨by rw [hDc]; exact ⟨by omega, hyg.1, hl1⟩, hyg.2⟩, fun h => absurd rfl h⟩, rfl, hs1.weakL (.cons _ (.cons _ (.cons _ (T'))))⟩)
deriving instance DecidableEq for MsgE
theorem eqO (a b c a' b' c' : BS) : Qs [Jk a, Jk b, Jk c] [Jk a', Jk b', Jk c'] = decide (a = a' ∧ b = b' ∧ c = c') := by
 show (ZG (Jk a) (Jk a') && (ZG (Jk b) (Jk b') && (ZG (Jk c) (Jk c') && true))) = _
 rw [Bool.eq_iff_iff, decide_eq_true_iff]; simp only [vA, Bool.and_eq_true, decide_eq_true_eq, Bool.and_true]
theorem Jjz {a b : MsgL} (ha : a.In R) (hb : b.In R) (he : a.er = b.er) : PureR prog 17 [a.val, b.val].toArray (.bool true) R := by
 have k1 : a.kind = b.kind := congrArg MsgE.kind he
 have k2 : a.ver = b.ver := congrArg MsgE.ver he
 have k3 : a.o0 = b.o0 ∧ a.o1 = b.o1 ∧ a.o2 = b.o2 := ⟨congrArg MsgE.o0 he, congrArg MsgE.o1 he, congrArg MsgE.o2 he⟩
 have k4 : a.n = b.n := congrArg MsgE.n he
 have k5 : a.txs = b.txs := congrArg MsgE.txs he
 have k6 : a.tx.er = b.tx.er := congrArg MsgE.tx he
 have k7 : a.rc.er = b.rc.er := congrArg MsgE.rc he
 have k8 : a.ba.er = b.ba.er := congrArg MsgE.ba he
 have k9 : a.sp.er = b.sp.er := congrArg MsgE.sp he
 have hal := ha.len
 have hbl := hb.len
 have h1 := vD ha.tx hb.tx
 have h2 := Jrz ha.rc hb.rc
 have h3 := Jwa ha.ba hb.ba
 have h4 := Jr0 ha.sp hb.sp
 have h5 := Jim m3 m3 ha.seg hb.seg
 rw [decide_eq_true k6] at h1; rw [decide_eq_true k7] at h2; rw [decide_eq_true k8] at h3; rw [decide_eq_true k9] at h4; rw [decide_eq_true k5] at h5; refine J1 Tryz.func17 O O fun w => MZ ?_; refine JR (cs := List.toArray (a.cells)) O O O O fun r2 => JR (cs := List.toArray (b.cells)) O O O O fun r3 => kB ?_
 refine DD ?_; refine KC O (J4 (show _ = Value.bool true from congrArg Value.bool ((VZ _ _).trans (decide_eq_true k1))) (JI rfl ?_))
 refine DD ?_; refine KC O (J4 (show _ = Value.bool true from congrArg Value.bool ((VZ _ _).trans (decide_eq_true k2))) (LR rfl (Jp rfl rfl) ?_)); refine gl ?_
 refine MP ?_; refine LR O (Ki (vs := [Jk a.o0, Jk a.o1, Jk a.o2]) O (kn 1 O) O O O O) ?_
 refine MP ?_; refine LR O (Ki (vs := [Jk b.o0, Jk b.o1, Jk b.o2]) O (kn 0 O) O O O O) (LR O (Jsp (xs := [Jk a.o0, Jk a.o1, Jk a.o2]) (ys := [Jk b.o0, Jk b.o1, Jk b.o2]) O O O O O m4 O O O O) (J4 (show _ = Value.bool true from congrArg Value.bool ((eqO _ _ _ _ _ _).trans (decide_eq_true k3))) (kZ ?_))); refine gl ?_
 refine DD ?_; refine KC O (J4 (show _ = Value.bool true from congrArg Value.bool ((VZ _ _).trans (decide_eq_true (congrArg Int.ofNat k4)))) (LR rfl (Jp rfl rfl) ?_)); refine gl ?_
 refine DD ?_; refine Ju O O O Js7 h5 oR (kZ ?_); refine gl ?_
 refine MP ?_; refine LR O (Ki (vs := a.tx.cells) O (kn 1 O) O O O O) ?_
 refine MP ?_; refine LR O (Ki (vs := b.tx.cells) O (kn 0 O) O O O O) (Ju O O O Js8 h1 oR (kZ ?_)); refine gl ?_
 refine MP ?_; refine LR O (Ki (vs := a.rc.cells) O (kn 1 O) O O O O) ?_
 refine MP ?_; refine LR O (Ki (vs := b.rc.cells) O (kn 0 O) O O O O) (Ju O O O (enters_of Tryz.func65 m4 O) h2 oR (kZ ?_)); refine gl ?_
 refine MP ?_; refine LR O (Ki (vs := a.ba.cells) O (kn 1 O) O O O O) ?_
 refine MP ?_; refine LR O (Ki (vs := b.ba.cells) O (kn 0 O) O O O O) (Ju O O O (enters_of Tryz.func66 m4 O) h3 oR (kZ ?_)); refine gl ?_
 refine MP ?_; refine LR O (Ki (vs := a.sp.cells) O (kn 1 O) O O O O) ?_
 refine MP ?_; refine LR O (Ki (vs := b.sp.cells) O (kn 0 O) O O O O) (Ju O O O (enters_of Tryz.func67 m4 O) h4 oR (kZ ?_)); exact GP
theorem Jj0 {f g k v : Int} (hk : k = 1 ∨ k = 3 ∨ k = 4) (hfg : f ≤ g) (hg : g ≤ 5) (h : lgI f k v = true) : lgI g k v = true := by
 unfold lgI at h ⊢
 simp only [Bool.and_eq_true, decide_eq_true_eq] at h ⊢
 obtain ⟨⟨h1, h2⟩, h3⟩ := h
 refine ⟨⟨h1, by omega⟩, ?_⟩
 have h5 : hiI k v = 5 := by
  unfold hiI
  rw [if_pos h1]
  rcases hk with rfl | rfl | rfl
  ·unfold Jd9; rw [if_pos rfl]; split <;> rfl
  ·rfl
  ·rfl
 omega
theorem Jsc {n : Int} {f g : Int} (hk : n = 1 ∨ n = 3 ∨ n = 4) (hfg : f ≤ g) (hg : g ≤ 5) (h : Xa f (yw n s ch) = true) : Xa g (yw n s ch) = true := by
 have hkd : (yw n s ch).kind = n := qf m3
 unfold Xa at h ⊢
 rw [hkd] at h ⊢
 by_cases h1 : n = 1
 ·rw [if_pos h1] at h ⊢
  exact Jj0 (.inl O) hfg hg h
 ·rw [if_neg h1, if_neg m3] at h ⊢
  exact Jj0 hk hfg hg h
theorem xq {t u : Nat} (h : t ≤ u) : ∀ l, YX t l ≤ YX u l
 | [] => Lc'
 | x :: r => by
  have := xq h r
  unfold YX
  split <;> split <;> omega
theorem Jew  {t : Nat} (h : t ≤ u) (h0 : (Ys ts t).2 = 0) : (Ys ts u).2 = 0 ∧ (Ys ts t).1 ≤ (Ys ts u).1 ∧ (Ys ts u).1 ≤ 5 := by
 have hm := xq h ts
 unfold Ys at h0 ⊢
 by_cases hs : Ja0 ts ≠ 0
 ·rw [if_pos hs] at h0; exact absurd h0 hs
 rw [if_neg hs] at h0 ⊢; rw [if_neg hs]
 by_cases hc : YX t ts = 0
 ·rw [if_pos hc] at h0; cases h0
 rw [if_neg hc, if_neg m3]
 have hl := vJ u ts
 have h6 : ts.length ≤ 6 := by
  unfold Ja0 at hs
  split at hs
  ·exact absurd m7 hs
  ·omega
 exact ⟨rfl, by simp only; omega, by simp only; omega⟩
theorem Jg5 : VS (Jd1 [aS]) = (2, [aS], 0) := by decide +kernel
theorem J1w : (qe aS 1).2 = 0 := by
 unfold qe
 rw [if_neg (by simp [aS]), if_pos Jpw, Jpv]
theorem J1x : Xa 0 (yw 3 aS 1) = true := by
 have h : yw 3 aS 1 = (qe aS 1).1 := by unfold yw; rw [if_neg m7, if_neg m7, if_pos rfl]
 rw [h]
 unfold qe
 rw [if_neg (by simp [aS]), if_pos Jpw]
 rfl
theorem J24 : Jsb [0] 0 3 aS 1 := by
 refine ⟨by decide, ?_, J1x⟩
 unfold Jg4
 rw [if_neg m7, if_neg m7, if_pos rfl]; exact J1w
theorem Jzw : (yw 3 aS 1).ba = aB.er := by
 have h : yw 3 aS 1 = (qe aS 1).1 := by unfold yw; rw [if_neg m7, if_neg m7, if_pos rfl]
 rw [h]
 unfold qe
 rw [if_neg (by simp [aS]), if_pos Jpw, Jpv]
theorem Jj1 (hgo : VH go) (hgR : (0, go) ∈ R) : PureR prog 6 #[] (.bool true) R := by
 have hP := Jyk (R := []) (b := aB) J1b u0 u5
 rw [Jyu] at hP
 have hlen75 := Jgk
 have hpush : (Jd1 [aS]).length ≤ 1000000 := by have := Jgk; unfold aW at this; omega
 have hWG := Jjv (s := Jd1 [aS]) hpush
 rw [Jg5] at hWG
 have u1 : VL 1 := by show (1 : Nat) < 18446744073709551616; decide
 refine J1 (vs := []) Tryz.func6 O O fun w => Kl (DE ?_); refine Y1 (n := 32) (b := 1) O O O O O O O O O m7 m7 fun r19 => ?_; rw [show List.replicate 32 (Value.int .u8 0) = aH.map bV from rfl]; refine LR O (VB (row := some (r19, 32, [])) (b := aH) O ⟨rfl, rfl⟩ (fun q hq => by rw [U'.1 hq]; exact WF (k := 0) O) O O O) (g8 ?_); refine DT ?_; refine Ju O O O (enters_of Tryz.func10 m4 O) hP oN (HR ?_); refine JO (n := 1) (sz := 1) (vs := [_]) (zs := [_]) (r := [Jk aS]) O O O O O O O O O me O fun rb => ?_
 have hW := Jym (R := [(rb, .cells #[Jk aS] 9 (0, 0))]) (l := [aS]) (p := some (⟨rb, 0, none⟩, 1)) (Ks (row := some (rb, 1, [])) (e := 9) (cs := Qu [aS]) (n := 1) (sz := 1) ⟨rfl, rfl⟩ m7) (by simp [Ja2]) m7 hpush
 rw [Jyv, if_neg mf] at hW; refine Ju O O O (enters_of Tryz.func22 m4 O) hW (fun q hq => Or.inl mB) (HR ?_); refine KA O O O (enters_of Tryz.func23 m4 O) (Jui (id := aId) (s := aW) O m3 m3) oN fun y1 => ?_
 obtain ⟨row1, hrow1⟩ := y1
 have hv1 : JV 3 row1 = Km 3 (Ke row1) := KK hrow1
 simp only [hv1]
 have hseg1 := Ks (e := 72) hrow1 m7
 have hhf := Jk8 (id := aId) (s := aW) rfl
 refine HR ?_; refine Ju O O O (enters_of Tryz.func24 m4 O) (Jyn (R := J9 72 (WU (Yr aId aW)) row1) (l := Yr aId aW) (p := Ke row1) hseg1 hhf.ok m7 m7) (fun q hq => Or.inl (W' hq)) (HR ?_); refine KA O O O (enters_of Tryz.func18 m4 O) (Jyq (l := Yr aId aW) hhf.ok m7 m7) oN fun y2 => ?_
 obtain ⟨row2, hrow2⟩ := y2
 have hv2 : JV (Yr aId aW).length row2 = Km (Yr aId aW).length (Ke row2) := KK hrow2
 simp only [hv2]
 have hseg2 := Ks (e := 72) hrow2 m7
 refine HR ?_
 have hJ := Jpn (R := J9 72 (WU (Yr aId aW)) row2) (l := Yr aId aW) (p := Ke row2) m7 hseg2 hhf (Jk9 _ _) (by rw [Ji4]; omega)
 rw [Ji4] at hJ; refine Ju O O O (enters_of Tryz.func20 m4 O) hJ (fun q hq => Or.inl (W' hq)) (HR ?_); refine KA O O O (enters_of Tryz.func25 m4 O) hWG oN fun y3 => ?_
 obtain ⟨row3, hrow3⟩ := y3
 change rowOk 1 [aS].length ([aS].map Jk) row3 at hrow3
 have hv3 : JV [aS].length row3 = Km [aS].length (Ke row3) := KK hrow3
 simp only [hv3]
 have hseg3 := Ks (e := 9) hrow3 m7
 refine MR ?_; refine Fh ?_; refine J5 9 O (LR O (JZ O hseg3 O) (NQ ?_)); refine Jl O (fun h12 => ?_) (fun h12 => ?_)
 exact absurd h12 (m7)
 ·try simp only [ZZ] at h12
  refine gw ?_; refine JO (n := 1) (sz := 1) (vs := [_]) (zs := [_]) (r := [uV 0]) O O O O O O O O O me O fun rq => LR O (Jo (r := [_]) O O) (gl ?_)
  refine LR O (JG (j := 0) O hseg3 O O O mg m7) (LR O (Qr (fun q hq => Or.inl (M' (W' hq))) O hseg3 m3 O (show ([aS].map Jk)[0]? = some (Jk aS) from rfl)) ?_)
  refine KA O O O Jng (Xy (R := [(rq, .cells #[uV 0] 22 (0, 0)), (0, go)]) hgo (M' N') (ts := [0]) (t := 0) (n := 3) (s := aS) (p := some (⟨rq, 0, none⟩, 1)) (ch := 1) m7 ((Ks (row := some (rq, 1, [])) (e := 22) (cs := unC [0]) (n := 1) (sz := 1) ⟨rfl, rfl⟩ m7).mono fun q hq => by rw [U'.1 hq]; exact N') (by rw [Ja2]; decide) u1) (fun q hq => by rcases F'.1 hq with rfl | hq; exact Or.inl N'; rw [U'.1 hq]; exact Or.inr hgR) fun y => ?_
  have hy0 : y.e = 0 := Classical.byContradiction fun h => y.bad h J24
  have hyt : y.x.ba.time = 5 := congrArg BaE.time ((congrArg MsgE.ba (y.good hy0).2).trans Jzw)
  rw [hy0]; refine MR ?_; refine LN O fun r17 => Je (k := 0) (n := 60) (ys := y.x.cells) O O O O O O O O O (J5 10 O (HM ?_)); refine gu ?_; refine LR O (JZ O hseg1 O) (KC O (LR O (Jp O O) (J5 3 O ?_))); refine HM ?_; refine J5 3 O (HM ?_); refine J5 3 O (HM ?_); refine gl ?_
  refine MP ?_
  refine N5 ?_; refine GV ?_; refine J4 (show _ = Value.bool true from KT ((by rw [hyt]; rfl))) (kZ ?_); exact GP
def StA (R : J3) (go : Obj) (ts : List Nat) (p : Pl) (ch : Nat) : Prop := VH go ∧ (0, go) ∈ R ∧ ts.length ≤ 9223372036854775807 ∧ Seg R ts.length (unC ts) p ∧ VL ch
theorem Jbt {p : Pl} {t : Nat} {n : Int} (hA0 : StA R go ts p ch) (hlb : Xa (Ys ts u).1 (yw n s ch) = true) : PureR prog 4 [Jgi ts.length p, uV t, uV u, .int .i64 n, Jk s, uV ch].toArray (.bool true) R := by
  obtain ⟨hgo, hgR, htl, hS, hch⟩ := hA0
  have hA := wZ htl hS u
  refine Hp fun w r6 => ?_; refine Jl O (fun h5 => ?_) (fun h5 => ?_)
  exact HK
  · try simp only [ZZ] at h5
    refine Hq ?_; refine H1 ?_
    refine J8 27 O (fun gb => ?_) (fun gb => ?_) <;> (try simp only [ZZ] at gb) <;> first | (refine LR O (Ja O O m0) ?_) | (refine LK O ?_)
    all_goals refine Nh ?_
    all_goals first | refine LR O (Qh O O) ?_ | refine LK O ?_
    all_goals refine GZ ?_
    all_goals first | refine LK O ?_ | (refine J8 33 O (fun gb => ?_) (fun gb => ?_) <;> (try simp only [ZZ] at gb) <;> first | (refine JI O ?_) | (refine LK O ?_))
    all_goals refine Ns ?_
    all_goals refine MQ ?_
    all_goals (
     refine kN ?_; refine Jl O (fun g => ?_) (fun g => ?_)
     try simp only [ZZ] at g
     refine GL ?_; exact Ng
     · try exact Bool.noConfusion g
       all_goals try simp only [ZZ] at g
       all_goals (
        refine gw ?_; refine GA fun y r14 => ?_; refine kB ?_; refine gX fun y2 r16 => ?_; refine E8 ?_; refine cD (fun g => ?_) fun g => ?_
        refine GL ?_; exact Ng
        · refine D5 ?_
          have hyg := y.good m3
          have hyn := Jbs hyg.1.2.1
          have hyk : y.x.kind = n := by have h1 : y.x.er.kind = _ := congrArg MsgE.kind hyg.2; rw [qf hyn] at h1; exact h1
          have hAct := Jew (u := u) m3 hyg.1.1
          have hL := qF (Ys ts u).1 y.x m3 m3
          rw [hyg.2, hlb] at hL
          have hI1 : y.x.In (y.L ++ y2.L) := y.inn.mono fun q hq => W' hq
          have hI2 : y2.x.In (y.L ++ y2.L) := y2.inn.mono fun q hq => Y' hq
          have hy2 : y2.e = 0 := by
            rcases Classical.em (y2.e = 0) with h | h
            exact h
            exact absurd ⟨hAct.1, hyg.1.2.1, hlb⟩ (y2.bad h)
          have heq : y.x.er = y2.x.er := by rw [hyg.2, (y2.good hy2).2]
          refine HI ?_; refine FC ?_; refine Jl O (fun h26 => ?_) (fun h26 => ?_)
          exact absurd h26 (Mk)
          · try simp only [ZZ] at h26
            refine DA ?_
            refine J8 73 O (fun gb => ?_) (fun gb => ?_) <;> (try simp only [ZZ] at gb) <;> first | (refine JI O ?_) | (refine LK O ?_)
            all_goals refine GZ ?_
            all_goals first | refine LK O ?_ | (refine J8 77 O (fun gb => ?_) (fun gb => ?_) <;> (try simp only [ZZ] at gb) <;> first | (refine JI O ?_) | (refine LK O ?_))
            all_goals refine MQ ?_
            all_goals (
             refine kN ?_; refine Jl O (fun g => ?_) (fun g => ?_)
             try simp only [ZZ] at g
             refine gx ?_; refine kZ ?_; refine J5 3 O (J4 nN (kZ ?_)); refine JI O (LR O (Ji (xs := y.x.cells) (n := 60) O (kn 1 O) O O O) (LR O (Ji (xs := y2.x.cells) (n := 60) O (kn 0 O) O O O) ?_)); refine D2 ?_; refine kZ ?_; refine G4 ?_; exact Ng
             · try exact Bool.noConfusion g
               all_goals try simp only [ZZ] at g
               all_goals (
                refine Jv 8 O (J4 nN (gu ?_)); refine kZ ?_; refine kV ?_; refine LR O (Ji (xs := y.x.cells) (n := 60) O (kn 1 O) O O O) (LR O (Ji (xs := y2.x.cells) (n := 60) O (kn 0 O) O O O) (D2 ?_)); refine EB ?_; refine kZ ?_; exact GP
                skip)
             skip)
        skip)
     skip)
theorem Jbu {p : Pl} {t : Nat} {n : Int} (hA0 : StA R go ts p ch) (hlb : Xa (Ys ts u).1 (yw n s ch) = false) : PureR prog 4 [Jgi ts.length p, uV t, uV u, .int .i64 n, Jk s, uV ch].toArray (.bool true) R := by
  obtain ⟨hgo, hgR, htl, hS, hch⟩ := hA0
  have hA := wZ htl hS u
  refine Hp fun w r6 => ?_; refine Jl O (fun h5 => ?_) (fun h5 => ?_)
  exact HK
  · try simp only [ZZ] at h5
    refine Hq ?_; refine H1 ?_
    refine J8 27 O (fun gb => ?_) (fun gb => ?_) <;> (try simp only [ZZ] at gb) <;> first | (refine LR O (Ja O O m0) ?_) | (refine LK O ?_)
    all_goals refine Nh ?_
    all_goals first | refine LR O (Qh O O) ?_ | refine LK O ?_
    all_goals refine GZ ?_
    all_goals first | refine LK O ?_ | (refine J8 33 O (fun gb => ?_) (fun gb => ?_) <;> (try simp only [ZZ] at gb) <;> first | (refine JI O ?_) | (refine LK O ?_))
    all_goals refine Ns ?_
    all_goals refine MQ ?_
    all_goals (
     refine kN ?_; refine Jl O (fun g => ?_) (fun g => ?_)
     try simp only [ZZ] at g
     refine GL ?_; exact Ng
     · try exact Bool.noConfusion g
       all_goals try simp only [ZZ] at g
       all_goals (
        refine gw ?_; refine GA fun y r14 => ?_; refine kB ?_; refine gX fun y2 r16 => ?_; refine E8 ?_; refine cD (fun g => ?_) fun g => ?_
        refine GL ?_; exact Ng
        · refine D5 ?_
          have hyg := y.good m3
          have hyn := Jbs hyg.1.2.1
          have hyk : y.x.kind = n := by have h1 : y.x.er.kind = _ := congrArg MsgE.kind hyg.2; rw [qf hyn] at h1; exact h1
          have hAct := Jew (u := u) m3 hyg.1.1
          have hL := qF (Ys ts u).1 y.x m3 m3
          rw [hyg.2, hlb] at hL
          have hy2 : ¬ y2.e = 0 := fun h => by have h1 := (y2.good h).1.2.2; rw [hlb] at h1; cases h1
          have hn134 : ¬ (n = 1 ∨ n = 3 ∨ n = 4) := fun h => by have h1 := Jsc h hAct.2.1 hAct.2.2 hyg.1.2.2; rw [hlb] at h1; cases h1
          refine HI ?_; refine FC ?_; refine Jl O (fun h26 => ?_) (fun h26 => ?_)
          exact absurd h26 (Mk)
          · try simp only [ZZ] at h26
            refine DA ?_
            refine J8 73 O (fun gb => ?_) (fun gb => ?_) <;> (try simp only [ZZ] at gb) <;> first | (refine JI O ?_) | (refine LK O ?_)
            all_goals refine GZ ?_
            all_goals first | refine LK O ?_ | (refine J8 77 O (fun gb => ?_) (fun gb => ?_) <;> (try simp only [ZZ] at gb) <;> first | (refine JI O ?_) | (refine LK O ?_))
            all_goals refine MQ ?_
            all_goals (
             refine kN ?_; refine Jl O (fun h34 => ?_) (fun h34 => ?_)
             exact absurd h34 ((by intro h; apply hn134; first | (exact .inl m3) | (exact .inr (.inl m3)) | (exact .inr (.inr (by have := of_decide_eq_true h; omega))) | (exact .inr (.inr mF))))
             · try exact Bool.noConfusion h34
               all_goals try simp only [ZZ] at h34
               all_goals (
                refine Jv 8 O (J4 (show _ = Value.bool false from congrArg Value.bool ((VZ _ _).trans (decide_eq_false hy2))) (gu ?_)); refine kZ ?_; refine g8 ?_; refine kZ ?_; refine kZ ?_; exact GP
                skip)
             skip)
        skip)
     skip)
theorem S_TopStable {p : Pl} {t : Nat} {n : Int} (hA0 : StA R go ts p ch) : PureR prog 4 [Jgi ts.length p, uV t, uV u, .int .i64 n, Jk s, uV ch].toArray (.bool true) R := by
 cases hlb : Xa (Ys ts u).1 (yw n s ch) with
 | true => exact Jbt hA0 hlb
 | false => exact Jbu hA0 hlb
end Go.Proofs.YtckoepmdmhdepaaGreatDoor
