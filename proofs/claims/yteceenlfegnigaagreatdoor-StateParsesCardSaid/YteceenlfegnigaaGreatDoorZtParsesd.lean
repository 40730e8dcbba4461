import Derived.Test.YteceenlfegnigaaGreatDoorZtParsesc
set_option maxRecDepth 100000
namespace Go.Proofs.YteceenlfegnigaaGreatDoor
set_option linter.all false
open Go.SL Go.RowKit Go.Shelf
variable {a : AcL} {af : Array Edge} {at_ : Array TypeId} {cs : Array Value} {Y s : BS} {own rs : Bool} {Q : Exit → Act → World → Prop} {g : FuncId} {dp : Int} {L L' R Rl : Jj} {xs : List (BS × BS)} {pa : List (Nat × Operand)} {caps sp vs : List Value} {B M N b c cap d e i j m r rb rv sz : Nat} {fr : Nat × Nat} {f : Operand} {gd : Option (Nat × Bool)} {dst : Option Nat} {pb pi : Pl} {P : Program} {ps : String} {T t x : Ty} {q : Ty × Nat × Nat} {α : Type} {ty : TypeId} {row : Vg} {v y z : Vl} {w : World} {X : XP} {V : α → Value}
def kO (a : List Nat) : Obj := .cells (a.map uV).toArray 216 (0, 0)
def cO (c : List Nat) : Obj := .cells (c.map uV).toArray 235 (0, 0)
theorem Jkz {a : List Nat} (ha : SOk 25 a) (r : Nat) : PureM Tryz.prog 272 [.pointer (some ⟨r, 0, none⟩)].toArray (.tuple #[]) r (kO a) (kO (Jj7 a)) := by
 refine vd Tryz.func272 rfl rfl fun w => JS ?_
 have hal := ha.1
 obtain ⟨cc, hcc⟩ : ∃ c, c = cS a 25 := ⟨_, rfl⟩
 have hc : SOk 5 cc := by rw [hcc]; exact Jcq ha 25
 have hmx : Jj7 a = mS cc a 25 := by rw [hcc]; rfl
 refine Nw ?_; refine LN rfl fun r1 => GV ?_; refine Ql (cs := ((cS a 0).map uV).toArray) rfl rfl rfl rfl fun r2 => ND ?_; refine Dw ?_; refine Yr (τ := Unit) (fun i (s : List Nat) => s = cS a i ∧ i ≤ 25) (fun s => [(r2, cO s)]) (fun _ _ => False) (fun _ => []) [(r1, _), (r, kO a)] (cS a 0) rfl rfl Jiq Ja2 mA rfl mf rfl ⟨rfl, by decide⟩ ?_ ?_ ?_
 rintro q Xr Xb w3 i _ _ s ⟨hi, rfl, rfl⟩ ⟨hs, -⟩ Kr hKr; refine inR ?_
 have hsk : SOk 5 s := by rw [hs]; exact Jcq ha i
 have hsl := hsk.1
 refine gY ?_; refine LN rfl fun r2 => ?_
 refine Nm ?_; refine gF ?_; clear hKr; refine GL ?_; refine JX 11 m5 m5 ?_
 refine GF ?_; refine Jc rfl rfl rfl (JN (j := i % 5) (m := 1) (off' := i % 5) rfl rfl rfl rfl m0 m0 m0) (HR ?_); refine Gb ?_; refine kU ?_; refine NU ?_; refine Jc rfl rfl rfl (KJ rfl (JB (k := 1) rfl) rfl (KW (by rw [hal]; omega))) (Jc rfl rfl rfl (VC (op := .xor) (b := ((s.getD (i % 5) 0 ^^^ a.getD i 0 : Nat) : Int)) rfl rfl rfl (hsk.get _) (ha.get _) rfl) (Jc rfl rfl rfl (JN (j := i % 5) (m := 1) (off' := i % 5) rfl rfl rfl rfl m0 m0 m0) (Kv (KS (k := 1) (off := i % 5) (xs := s.map uV) (ys := (cS a (i + 1)).map uV) rfl rfl rfl rfl rfl rfl nF (Wr (by rw [hs]; rfl)) rfl (Gr ?_))))); exact QU (cS a (i + 1)) ⟨rfl, by omega⟩ rfl
 rintro D i s hfi ⟨hs, -⟩
 have hi25 : i = 25 := hfi
 subst hi25; rw [← hcc] at hs
 have hs := hs.symm
 subst hs; refine gqo 4 rfl (Dw ?_); refine YE [3, 0, 1, 2] m7 rfl (Yr (τ := Unit) (fun i (s : List Nat) => s = mS cc a i ∧ i ≤ 25) (fun s => [(r, kO s)]) (fun _ _ => False) (fun _ => []) [(D, _), (r2, cO cc), (r1, _)] (a) rfl rfl Jiq Ja2 mA rfl mf rfl ⟨rfl, by decide⟩ ?_ ?_ ?_)
 rintro q Xr Xb w3 i _ _ s ⟨hi, rfl, rfl⟩ ⟨hs, -⟩ Kr hKr; refine inR ?_
 have hsk : SOk 25 s := by rw [hs]; exact Jhp hc ha i
 have hsl := hsk.1
 refine gY ?_; refine HT fun r3 => ?_; refine gF ?_; clear hKr; refine GW ?_
 refine Hp ?_; refine Goc 4 [0] rfl rfl (JX 21 m5 m5 (Jc rfl rfl rfl (Je rfl (JB (k := 2) rfl) rfl rfl) (kU ?_))); refine NU ?_; refine HR ?_; refine kU ?_; refine Qc (show _ = Value.int .i64 ((i % 5 + 5 : Nat) : Int) from congrArg (Value.int .i64) ma) (N1 ?_); refine Qc (show _ = Value.int .i64 ((i % 5 + 5 - 1 : Nat) : Int) from congrArg (Value.int .i64) ma) (N1 ?_); refine Qc (show _ = Value.int .i64 (((i % 5 + 5 - 1) % 5 : Nat) : Int) from congrArg (Value.int .i64) mB) (Jc rfl rfl rfl (JN (j := (i % 5 + 5 - 1) % 5) (m := 1) (off' := (i % 5 + 5 - 1) % 5) rfl rfl rfl rfl m0 m0 m0) (Jc rfl rfl rfl (KJ rfl (JB (k := 1) rfl) rfl (KW (by rw [hc.1]; omega))) (kU ?_))); refine Qc mU (N1 ?_); refine Qc mL (Jc rfl rfl rfl (JN (j := (i % 5 + 1) % 5) (m := 1) (off' := (i % 5 + 1) % 5) rfl rfl rfl rfl m0 m0 m0) (Jc rfl rfl rfl (KJ rfl (JB (k := 1) rfl) rfl (KW (by rw [hc.1]; omega))) (Qt rfl rfl rfl (enters_of Tryz.func274 m5 rfl) (Jvn (k := 1) (hc.get _) m7) (Jc rfl rfl rfl (VC (op := .xor) (b := ((cc.getD ((i % 5 + 5 - 1) % 5) 0 ^^^ Jfs (cc.getD ((i % 5 + 1) % 5) 0) 1 : Nat) : Int)) rfl rfl rfl (hc.get _) (vT (hc.get _) 1) rfl) (Jc rfl rfl rfl (VC (op := .xor) (b := ((s.getD i 0 ^^^ (cc.getD ((i % 5 + 5 - 1) % 5) 0 ^^^ Jfs (cc.getD ((i % 5 + 1) % 5) 0) 1) : Nat) : Int)) rfl rfl rfl (hsk.get _) (WT (hc.get _) (vT (hc.get _) 1)) rfl) (N1 ?_)))))); refine NU ?_; refine Kv (KS (k := 1) (off := i) (xs := s.map uV) (ys := (mS cc a (i + 1)).map uV) rfl rfl rfl rfl rfl rfl nF (Wr (by rw [hs]; rfl)) rfl (Gr ?_)); exact QU (mS cc a (i + 1)) ⟨rfl, by omega⟩ rfl
 rintro D2 i s hfi ⟨hs, -⟩
 have hi25 : i = 25 := hfi
 subst hi25; refine Yh 1 rfl (D0 ?_); refine QQ (k := 2) rfl rfl (Jd rfl rfl .nil (fun w1 hs1 => ?_)); exact ⟨rfl, _, List.mem_cons_of_mem _ (by rw [hmx, ← hs]; exact List.mem_cons_self), hs1⟩
 exact gp
 ·exact gp
theorem Jto {a : List Nat} (ha : SOk 25 a) {n : Nat} (hn : n < 18446744073709551616) {by_ : List Nat} (hbl : by_.length = 25) (hby : ∀ i, by_.getD i 0 < 9223372036854775808) (r : Nat) :
  PureM Tryz.prog 260 [.pointer (some ⟨r, 0, none⟩), uV n, .agg (by_.map iV).toArray].toArray (.tuple #[]) r (kO a) (kO (wG by_ a n)) := by
 refine vd Tryz.func260 rfl rfl fun w => JS ?_
 obtain ⟨m, hm⟩ : ∃ m, m = Jj7 a := ⟨_, rfl⟩
 have hmk : SOk 25 m := by rw [hm]; exact xZ ha
 have hml := hmk.1
 have hbk := Jcr by_ hmk 25
 obtain ⟨b, hb⟩ : ∃ b, b = rS m by_ 25 := ⟨_, rfl⟩
 have hbk : SOk 25 b := by rw [hb]; exact Jcr by_ hmk 25
 have hbln := hbk.1
 have hra : wG by_ a n = Jhr (xS b m 25) n := by rw [hb, hm]; rfl
 refine Nw ?_; refine LN rfl fun r1 => QX (cs := (by_.map iV).toArray) rfl rfl rfl rfl fun r2 => GV ?_; refine LR rfl (Je rfl (kn 1 rfl) rfl rfl) (Jcj (k := 2) rfl rfl rfl (enters_of Tryz.func272 m5 rfl) rfl (Jkz ha r) rfl ?_); rw [← hm]; refine GV ?_; refine Ql (cs := (z25.map uV).toArray) rfl rfl rfl rfl fun r3 => ND ?_; refine Dw ?_; refine Yr (τ := Unit) (fun i (s : List Nat) => s = rS m by_ i ∧ i ≤ 25) (fun s => [(r3, kO s)]) (fun _ _ => False) (fun _ => []) [(r2, _), (r1, _), (r, kO m)] (z25) rfl rfl Jiq Ja2 mA rfl mf rfl ⟨rfl, by decide⟩ ?_ ?_ ?_
 rintro q Xr Xb w3 i _ _ s ⟨hi, rfl, rfl⟩ ⟨hs, -⟩ Kr hKr; refine inR ?_
 have hsk : SOk 25 s := by rw [hs]; exact Jcr by_ hmk i
 have hsl := hsk.1
 refine gY ?_; refine LN rfl fun r2 => ?_
 refine Nm ?_; refine gF ?_; clear hKr; refine JE 2 rfl (JX 6 m5 m5 ?_)
 refine GF ?_
 refine Jc rfl rfl rfl (JN (j := 1) rfl rfl rfl rfl rfl mG mc) (Jc rfl rfl rfl (Je rfl (kn 0 rfl) rfl rfl) (Jc rfl rfl rfl (JP rfl) (NW ?_))); refine Gj ?_; refine JX 19 m5 m5 (NK ?_); refine N1 ?_; refine Qc (show _ = Value.int .i64 ((2 * (i % 5) : Nat) : Int) from congrArg (Value.int .i64) ma) (kU ?_); refine Qc (show _ = Value.int .i64 ((3 * (i / 5) : Nat) : Int) from congrArg (Value.int .i64) ma) (N1 ?_); refine Qc (show _ = Value.int .i64 ((2 * (i % 5) + 3 * (i / 5) : Nat) : Int) from congrArg (Value.int .i64) ma) (N1 ?_); refine Qc (show _ = Value.int .i64 (((2 * (i % 5) + 3 * (i / 5)) % 5 : Nat) : Int) from congrArg (Value.int .i64) mB) (N1 ?_); refine Qc (show _ = Value.int .i64 ((5 * ((2 * (i % 5) + 3 * (i / 5)) % 5) : Nat) : Int) from congrArg (Value.int .i64) ma) (N1 ?_); refine Qc (show _ = Value.int .i64 ((i / 5 + 5 * ((2 * (i % 5) + 3 * (i / 5)) % 5) : Nat) : Int) from congrArg (Value.int .i64) ma) (Jc rfl rfl rfl (Je rfl (JB (k := 1) rfl) rfl rfl) (kU ?_)); refine NU ?_; refine Jc rfl rfl rfl (KJ rfl (JB (k := 2) rfl) rfl (KW (by rw [hml]; omega))) (MY ?_); refine NU ?_; refine Jc rfl rfl rfl (KJ rfl (JB (k := 0) rfl) rfl (Jcf (by rw [hbl]; omega))) (Qt rfl rfl rfl (enters_of Tryz.func274 m5 rfl) (Jvn (k := by_.getD i 0) (hmk.get _) (hby i)) (Jc rfl rfl rfl (JN (j := (i / 5 + 5 * ((2 * (i % 5) + 3 * (i / 5)) % 5))) (m := 1) (off' := (i / 5 + 5 * ((2 * (i % 5) + 3 * (i / 5)) % 5))) rfl rfl rfl rfl m0 m0 m0) (Kv (KS (k := 1) (off := i / 5 + 5 * ((2 * (i % 5) + 3 * (i / 5)) % 5)) (xs := s.map uV) (ys := (rS m by_ (i + 1)).map uV) rfl rfl rfl rfl rfl rfl nF (Wr (by rw [hs]; rfl)) rfl (Gr ?_))))); exact QU (rS m by_ (i + 1)) ⟨rfl, by omega⟩ rfl
 rintro D i s hfi ⟨hs, -⟩
 have hi25 : i = 25 := hfi
 subst hi25; rw [← hb] at hs
 have hs := hs.symm
 subst hs; refine gqo 5 rfl (Dw ?_); refine YE [4, 0, 1, 2, 3] m7 rfl (Yr (τ := Unit) (fun i (s : List Nat) => s = xS b m i ∧ i ≤ 25) (fun s => [(r, kO s)]) (fun _ _ => False) (fun _ => []) [(D, _), (r3, kO b), (r2, _), (r1, _)] (m) rfl rfl Jiq Ja2 mA rfl mf rfl ⟨rfl, by decide⟩ ?_ ?_ ?_)
 rintro q Xr Xb w3 i _ _ s ⟨hi, rfl, rfl⟩ ⟨hs, -⟩ Kr hKr; refine inR ?_
 have hsk : SOk 25 s := by rw [hs]; exact Jhq hbk hmk i
 have hsl := hsk.1
 refine gY ?_; refine HT fun r3 => ?_; refine gF ?_; clear hKr; refine JE 2 rfl (JX 8 m5 m5 ?_)
 refine GF ?_; refine MY ?_
 refine GF ?_; refine N1 ?_; refine Qc (show _ = Value.int .i64 ((i - i % 5 : Nat) : Int) from congrArg (Value.int .i64) ma) (Jc rfl rfl rfl (JP rfl) (NW ?_)); refine Gj ?_; refine JX 24 m5 m5 (Jc rfl rfl rfl (Je rfl (JB (k := 3) rfl) rfl rfl) (NK ?_)); refine NU ?_; refine Hf ?_; refine NK ?_; refine N1 ?_; refine Qc mU (N1 ?_); refine Qc mL (N1 ?_); refine Qc (show _ = Value.int .i64 ((i - i % 5 + (i % 5 + 1) % 5 : Nat) : Int) from congrArg (Value.int .i64) ma) (Jc rfl rfl rfl (JN (j := (i - i % 5 + (i % 5 + 1) % 5)) (m := 1) (off' := (i - i % 5 + (i % 5 + 1) % 5)) rfl rfl rfl rfl m0 m0 m0) (Hf ?_)); refine Jc rfl rfl rfl (Jsb rfl (hbk.get _)) (NK ?_); refine N1 ?_; refine Qc (show _ = Value.int .i64 ((i % 5 + 2 : Nat) : Int) from congrArg (Value.int .i64) ma) (N1 ?_); refine Qc (show _ = Value.int .i64 (((i % 5 + 2) % 5 : Nat) : Int) from congrArg (Value.int .i64) mB) (N1 ?_); refine Qc (show _ = Value.int .i64 ((i - i % 5 + (i % 5 + 2) % 5 : Nat) : Int) from congrArg (Value.int .i64) ma) (Jc rfl rfl rfl (JN (j := (i - i % 5 + (i % 5 + 2) % 5)) (m := 1) (off' := (i - i % 5 + (i % 5 + 2) % 5)) rfl rfl rfl rfl m0 m0 m0) (Hf ?_)); refine Jc rfl rfl rfl (VC (op := .and) (b := (((18446744073709551615 ^^^ b.getD (i - i % 5 + (i % 5 + 1) % 5) 0) &&& b.getD (i - i % 5 + (i % 5 + 2) % 5) 0 : Nat) : Int)) rfl rfl rfl (WT m7 (hbk.get _)) (hbk.get _) rfl) (Jc rfl rfl rfl (VC (op := .xor) (b := ((Jwj b i : Nat) : Int)) rfl rfl rfl (hbk.get _) (Jcp (hbk.get _)) rfl) (N1 ?_)); refine NU ?_; refine Kv (KS (k := 1) (off := i) (xs := s.map uV) (ys := (xS b m (i + 1)).map uV) rfl rfl rfl rfl rfl rfl nF (Wr (by rw [hs]; rfl)) rfl (Gr ?_)); exact QU (xS b m (i + 1)) ⟨rfl, by omega⟩ rfl
 rintro D2 i s hfi ⟨hs, -⟩
 have hi25 : i = 25 := hfi
 subst hi25
 have hsk : SOk 25 s := by rw [hs]; exact Jhq hbk hmk 25
 have hsl := hsk.1
 refine Zj 2 rfl (JX 8 m5 m5 (Jc rfl rfl rfl (Je rfl (kn 5 rfl) rfl rfl) (N1 ?_)))
 refine kB ?_; refine HR ?_; refine MY ?_; refine Jc rfl rfl rfl (VC (op := .xor) (b := ((s.getD 0 0 ^^^ n : Nat) : Int)) rfl rfl rfl (hsk.get _) (hn) rfl) (N1 ?_)
 refine kB ?_; refine Kv (KS (k := 1) (off := 0) (xs := s.map uV) (ys := (Jhr s n).map uV) rfl rfl rfl rfl rfl rfl nF (Wr rfl) rfl (Jz 1 rfl (D0 ?_))); refine QQ (k := 2) rfl rfl (Jd rfl rfl .nil (fun w1 hs1 => ?_)); exact ⟨rfl, _, List.mem_cons_of_mem _ (by rw [hra, ← hs]; exact List.mem_cons_self), hs1⟩
 exact gp
 ·exact gp
theorem Jtp : Pure Tryz.prog 258 [].toArray (.agg (turnsL.map iV).toArray) := by
 refine J8 Tryz.func258 rfl rfl fun w => MX fun r1 => ?_; refine GV ?_; refine LR rfl (Js (r := turnsL.map iV) rfl m5) (Ju (k := 0) (n := 25) (ys := turnsL.map iV) rfl rfl rfl rfl rfl rfl rfl rfl rfl (HX ?_)); refine Jd rfl rfl (.cons (Jl (vs := turnsL.map iV) rfl (kn 0 rfl) rfl rfl) .nil) (fun w1 hs1 => ?_); exact N4
theorem Jk0 : Pure Tryz.prog 259 [].toArray (.agg (numsL.map uV).toArray) := by
 refine J8 Tryz.func259 rfl rfl fun w => MX fun r1 => ?_; refine GV ?_; refine LR rfl (Js (r := numsL.map uV) rfl m5) (Ju (k := 0) (n := 24) (ys := numsL.map uV) rfl rfl rfl rfl rfl rfl rfl rfl rfl (HX ?_)); refine Jd rfl rfl (.cons (Jl (vs := numsL.map uV) rfl (kn 0 rfl) rfl rfl) .nil) (fun w1 hs1 => ?_); exact N4
theorem Jo9 (i : Nat) : turnsL.getD i 0 < 9223372036854775808 := by
 by_cases h : i < 25
 ·have : turnsL.all (fun x => decide (x < 9223372036854775808)) = true := by decide
  have hm : turnsL.getD i 0 ∈ turnsL := by simp [List.getD_eq_getElem?_getD, show i < turnsL.length from h]
  exact of_decide_eq_true (List.all_eq_true.1 this _ hm)
 ·rw [List.getD_eq_getElem?_getD, List.getElem?_eq_none (by simpa [turnsL] using h)]; decide
theorem Jk1 {a : List Nat} (ha : SOk 25 a) : Pure Tryz.prog 238 [.agg (a.map uV).toArray].toArray (.agg ((zz a).map uV).toArray) := by
 refine J8 Tryz.func238 rfl rfl fun w => JS ?_
 have hal := ha.1
 obtain ⟨tu, htu⟩ : ∃ t, t = turnsL := ⟨_, rfl⟩
 have htul : tu.length = 25 := by rw [htu]; rfl
 have htub : ∀ i, tu.getD i 0 < 9223372036854775808 := by rw [htu]; exact Jo9
 obtain ⟨nu, hnu⟩ : ∃ t, t = numsL := ⟨_, rfl⟩
 have hnuk : SOk 24 nu := by rw [hnu]; exact numsL_ok
 have hnul := hnuk.1
 have hPt : Pure Tryz.prog 258 [].toArray (.agg (tu.map iV).toArray) := by rw [htu]; exact Jtp
 have hPn : Pure Tryz.prog 259 [].toArray (.agg (nu.map uV).toArray) := by rw [hnu]; exact Jk0
 refine Nw ?_; refine QX (cs := (a.map uV).toArray) rfl rfl rfl rfl fun r1 => Ql (cs := (z25.map uV).toArray) rfl rfl rfl rfl fun r2 => GV ?_; refine LR rfl (Jm (xs := a.map uV) (n := 25) rfl (kn 1 rfl) rfl rfl (by rw [List.length_map, hal])) (Ql (cs := (z25.map uV).toArray) rfl rfl rfl rfl fun r3 => Ju (k := 0) (n := 25) (ys := a.map uV) rfl rfl rfl rfl rfl (by rw [List.length_map, hal]) rfl (Zl _) rfl (GV ?_)); refine J6 rfl rfl rfl (enters_of Tryz.func258 m5 rfl) hPt (Ql (cs := ((List.replicate 25 0).map iV).toArray) rfl rfl rfl rfl fun r4 => Ju (k := 0) (n := 25) (ys := tu.map iV) rfl rfl rfl rfl rfl (by rw [List.length_map, htul]) rfl (by simp [iV, QW, List.all_map, List.all_eq_true]) rfl (ND ?_)); refine J6 rfl rfl rfl (enters_of Tryz.func259 m5 rfl) hPn (kR ?_); refine Jy (σ := Nat) (fun i => i ≤ 24) (fun i => [(2, .pointer (some ⟨r2, 0, none⟩)), (3, .pointer (some ⟨r3, 0, none⟩)), (4, .pointer (some ⟨r4, 0, none⟩)), (9, .agg (nu.map uV).toArray), (10, .int .i64 (i : Int))]) (fun i => [(r4, .cells (tu.map iV).toArray 229 (0, 0)), (r3, kO (jU a i)), (r2, .cells (z25.map uV).toArray 188 (0, 0)), (r1, .cells (a.map uV).toArray 188 (0, 0))]) (fun _ _ _ => True) (fun i => 24 - i) 0 (Nat.zero_le _) (lK rfl) (List.Sublist.refl _) (fun _ _ h => h) ?_; intro i hi; refine Nv ?_; refine cD (fun g => ?_) fun g => ?_
 refine gY ?_; refine LR rfl (Jl5 (j := i) rfl rfl rfl rfl rfl rfl m0 (Jmd (KW (by rw [hnul]; omega)))) (ND ?_); refine LR rfl (Jm (xs := tu.map iV) (n := 25) rfl (kn 0 rfl) rfl rfl (by rw [List.length_map, htul])) (Jcj (k := 1) rfl rfl rfl (enters_of Tryz.func260 m5 rfl) rfl (Jto (Yy ha i) (n := nu.getD i 0) (hnuk.get i) htul htub r3) rfl (ND ?_)); refine N0 ?_; exact Jr (i + 1) m0 m0 (lK rfl) (by rw [show jU a (i + 1) = wG tu (jU a i) (nu.getD i 0) from by rw [htu, hnu]; rfl]; exact List.Sublist.refl _) (fun _ _ h => h)
 ·refine Nv ?_
  have hi24 : 24 = i := by omega
  subst hi24; refine H4 ?_; refine LR rfl (Jm (xs := (jU a 24).map uV) (n := 25) rfl (kn 1 rfl) rfl rfl (by rw [List.length_map, (Yy ha 24).1])) (Ju (k := 2) (n := 25) (ys := (jU a 24).map uV) rfl rfl rfl rfl rfl (by rw [List.length_map, (Yy ha 24).1]) rfl (Zl _) rfl (HX ?_)); refine Jd rfl rfl (.cons (Jl (vs := (jU a 24).map uV) rfl (kn 2 rfl) rfl (by rw [List.length_map, (Yy ha 24).1]; rfl)) .nil) (fun w1 hs1 => ?_); exact N4
theorem Jdz {l : List UInt8} (h : j < l.length) : (l.map bV)[j]? = some (.int .u8 ((l.getD j 0).toNat : Nat)) := by
 simp [h, bV, List.getD_eq_getElem?_getD]
theorem Jyy {n : Nat} (hn : n ≤ 1099511627776) : Pure Tryz.prog 237 [.int .i64 (n : Int)].toArray (.tuple #[.string (bs (vx n)), .int .i64 0]) := by
 refine J8 Tryz.func237 rfl rfl fun w => JS ?_
 obtain ⟨k, hk⟩ : ∃ k, k = 135 - n % 136 := ⟨_, rfl⟩
 have hn1 : n % 136 < 136 := Nat.mod_lt _ m7
 obtain ⟨x, hx⟩ : ∃ x : UInt8, x = (1 :: List.replicate k 0 : List UInt8).getD k 0 := ⟨_, rfl⟩
 have hxl := x.toNat_lt
 have hpl : (1 :: List.replicate k 0 : List UInt8).set k (UInt8.ofNat (x.toNat ||| 128)) = vx n := by
  unfold vx
  cases k with
  | zero => rw [if_pos m0, hx]; rfl
  | succ k =>
   rw [if_neg m0, hx]
   have e1 : (1 :: List.replicate (k + 1) 0 : List UInt8).getD (k + 1) 0 = 0 := by simp [List.getD_eq_getElem?_getD]
   rw [e1, show 134 - n % 136 = k from by omega]; simp only [List.set_cons_succ]
   congr 1
   rw [List.replicate_succ', List.set_append_right _ _ mf, List.length_replicate, Nat.sub_self]; rfl
 refine JE 17 rfl (cD (fun g => ?_) fun g => ?_)
 refine GD ?_; refine MZ fun w1 hs1 => ?_
 first | (exact ⟨rfl, hs1.keep⟩) | (exfalso; omega)
 ·refine gY ?_; refine Jk (show _ = Value.int .i64 ((n % 136 : Nat) : Int) from congrArg (Value.int .i64) mB) (V7 rfl (Jk (show _ = Value.int .i64 ((k + 1 : Nat) : Int) from congrArg (Value.int .i64) ma) (WJ (n := k + 1) (b := 1) rfl rfl rfl rfl rfl rfl rfl rfl rfl m0 m0 fun r2 => Gc ?_))); refine LR rfl (Kc (j := 0) (m := 1) (off' := 0) rfl rfl rfl rfl rfl m0 rfl) (KS (k := 0) (off := 0) (xs := List.replicate (k + 1) (.int .u8 0)) (ys := (1 :: List.replicate k 0 : List UInt8).map bV) rfl rfl rfl rfl rfl rfl mf (by rw [List.replicate_succ]; simp [bV]) rfl (Gc ?_)); refine kz ?_; refine V7 rfl (Jk (show _ = Value.int .i64 ((k : Nat) : Int) from congrArg (Value.int .i64) ma) (LR rfl (Kc (j := k) (m := 1) (off' := k) rfl rfl rfl rfl rfl m0 m0) (LR rfl (KJ rfl (kn 0 rfl) rfl (Jdz mf)) ?_))); rw [← hx]
  refine LR rfl (vO (op := .or) (b := ((x.toNat ||| 128 : Nat) : Int)) rfl rfl rfl hxl m7 rfl) ?_; refine Jk (show _ = bV (UInt8.ofNat (x.toNat ||| 128)) from Jha (Nat.or_lt_two_pow (n := 8) hxl m7)) ?_; refine LR rfl (Kc (j := k) (m := 1) (off' := k) rfl rfl rfl rfl rfl m0 m0) ?_; refine KS (k := 0) (off := k) (xs := (1 :: List.replicate k 0 : List UInt8).map bV) (ys := (vx n).map bV) rfl rfl rfl rfl rfl rfl mf (by rw [← hpl, List.map_set]) rfl ?_; refine ND ?_; refine LR rfl (Qq (b := vx n) (row := some (r2, k + 1, [])) (e := 5) (show _ = some (J3 (vx n).length (some (r2, k + 1, []))) from by rw [jV, show 136 - n % 136 = k + 1 from by omega]; rfl) ⟨by simp, by simp [jV]; omega⟩ (fun p hp => .inl Mp) rfl rfl rfl) ?_; refine Ga ?_; refine MZ fun w1 hs1 => ?_
  first | (exact ⟨rfl, hs1.keep⟩) | (exfalso; omega)
def chL (rb n cap : Nat) (p : Nat × Nat) : Jj := [(p.2, .cells #[.int .i64 136] 3 (0, 0)), (p.1, .cells #[.slice (some ⟨rb, 0, none⟩) n cap] 55 (0, 0))]
theorem Jtq (rb n cap : Nat) : PureE (α := Nat × Nat) Tryz.prog 236 [.slice (some ⟨rb, 0, none⟩) n cap, .int .i64 136].toArray (fun p => .func (.func 257) #[] #[.pointer (some ⟨p.1, 0, none⟩), .pointer (some ⟨p.2, 0, none⟩)]) (chL rb n cap) := by
 refine VB Tryz.func236 rfl rfl fun w => Nd fun r1 r2 => ?_; refine Goc 10 [0] rfl rfl (JH rfl (fun h4 => ?_) (fun h4 => ?_))
 exact absurd h4 m7
 ·try simp only [ZZ] at h4
  refine Gx ?_; exact kC
def Jiv (rb j : Nat) : List Value := [.slice (some ⟨rb, 136 * j, none⟩) 136 136]
theorem Jtr {n : Nat} (hn : n = 136 * N) (hcap : n ≤ cap) (hlim : n ≤ 2199023255552) (p1 p2 : Nat) : xB Tryz.prog 257 [.pointer (some ⟨p1, 0, none⟩), .pointer (some ⟨p2, 0, none⟩)] (chL rb n cap (p1, p2)) 0 (nxN (Jiv rb) N) (Jfi N) := by
  refine W9 Tryz.func257 rfl rfl fun q xids w2 XI XF hY => JS (Nv ?_); refine Jy (σ := Nat) (fun i => i ≤ N) (fun i => [(0, .func (.yield q) #[] #[]), (1, .pointer (some ⟨p1, 0, none⟩)), (2, .pointer (some ⟨p2, 0, none⟩)), (4, .int .i64 ((136 * i : Nat) : Int))]) (fun _ => []) (fun i => XI i) (fun i => N - i) 0 (Nat.zero_le _) (lK rfl) (List.nil_sublist _) (fun _ _ h => h) ?_; intro i hi; refine Gx ?_; refine G8 ?_; refine kz ?_; refine NR ?_; refine cD (fun g => ?_) fun g => ?_
  · refine kX ?_; refine DB ?_; refine Jc rfl rfl rfl (JT (kl := some (136 * i)) (kh := none) (km := none) (sz := 1) (m := 136 * i) (q := n) (z := cap) rfl rfl rfl ⟨_, rfl⟩ trivial trivial rfl rfl rfl m0 hcap (Nat.le_refl _) (fun _ => rfl) rfl) (Jc rfl rfl rfl (KO rfl rfl) (Jc rfl rfl rfl (Jmy (r := 136) rfl rfl (by rw [if_neg m0])) (NW ?_))); refine ND ?_; refine G8 ?_; refine LS 4 [] rfl rfl (Jk mO (gw ?_)); refine Jk mO ?_
    refine LR rfl (JT (kl := some (136 * i)) (kh := some (136 * i + 136)) (km := some (136 * i + 136)) (sz := 1) (m := 136 * i) (q := 136 * i + 136) (z := 136 * i + 136) (off' := 136 * i) rfl rfl rfl ⟨_, rfl⟩ ⟨_, rfl⟩ ⟨_, rfl⟩ rfl rfl rfl m0 (Nat.le_refl _) m0 (fun h => by cases h) mu) ?_; refine Jk (show _ = Value.slice (some ⟨rb, 136 * i, none⟩) 136 136 from by congr 1 <;> omega) ?_; refine WP (XT := XI (i + 1)) (XF := XF) rfl rfl rfl rfl (hY i (Jiv rb i) (i + 1) ⟨by omega, rfl, rfl⟩) ?_ ?_
    all_goals (
     refine H2 ?_; refine JH rfl (fun g => ?_) (fun g => ?_)
     · try exact Bool.noConfusion g
       all_goals try simp only [ZZ] at g
       all_goals (
        exact N5
        skip)
     · try exact Bool.noConfusion g
       all_goals try simp only [ZZ] at g
       all_goals (
        refine kS ?_; refine G7 ?_; refine V7 rfl (Jk (show _ = Value.int .i64 ((136 * (i + 1) : Nat) : Int) from congrArg (Value.int .i64) ma) (Dy ?_)); exact NJ
        skip)
     skip)
  · exact Gs
theorem Jpa {a : List Nat} (h : i < 32) : ((jW a i ++ List.replicate (32 - i) 0).map bV).set i (bV (UInt8.ofNat (a.getD (i / 8) 0 / 2 ^ (i % 8 * 8) % 256))) = (jW a (i + 1) ++ List.replicate (32 - (i + 1)) 0).map bV := by
 rw [← List.map_set, List.set_append_right _ _ (by rw [WU]; exact Nat.le_refl _), WU, Nat.sub_self, show 32 - i = (32 - (i + 1)) + 1 from by omega, List.replicate_succ, List.set_cons_zero, jW, List.append_assoc]
 rfl
theorem Jts {t : List UInt8} {k : Nat} (h : 136 * j + i < t.length) : (t.map bV ++ List.replicate k (Value.int .u8 0))[136 * j + i]? = some (.int .u8 (((t.drop (136 * j)).getD i 0).toNat : Nat)) := by
 rw [List.getElem?_append_left Me, Jdz h]
 simp [List.getD_eq_getElem?_getD]
theorem Jd0 {s : List UInt8} (hs : s.length ≤ 1099511627776) : Pure Tryz.prog 174 [.string (bs s)].toArray (.string (bs (WZ s))) := by
 refine J8 Tryz.func174 rfl rfl fun w => JS ?_
 have hpl := jV s.length
 obtain ⟨t, ht⟩ : ∃ t, t = s ++ vx s.length := ⟨_, rfl⟩
 obtain ⟨N, hN⟩ : ∃ N, N = t.length / 136 := ⟨_, rfl⟩
 have htl : t.length = 136 * N := by have := Jft s; rw [← ht] at this; omega
 have hlim : t.length ≤ 2199023255552 := by rw [ht, List.length_append]; omega
 have hkec : WZ s = jW (Jct t N) 32 := by unfold WZ; rw [← ht, ← hN]
 refine Jt 8 rfl (Nx ?_); refine J6 rfl rfl rfl (enters_of Tryz.func237 m5 rfl) (Jyy hs) (JK 9 rfl (Ql (cs := (z25.map uV).toArray) rfl rfl rfl rfl fun r1 => Gi ?_)); refine LR rfl (VD rfl rfl m0) ?_; rw [← ht]; refine XU rfl rfl rfl rfl rfl rfl fun rb kb => Vx rfl rfl rfl (enters_of Tryz.func236 m5 rfl) (Jtq rb t.length (t.length + kb)) fun pp => ?_
 obtain ⟨p1, p2⟩ := pp
 change HL _ _ _ [(p2, _), (p1, _), (rb, _), (r1, _)] _ _ _ _; refine NR ?_; refine YE [3, 0, 1, 2] m7 rfl (Yr (τ := Unit) (fun j (s : List Nat) => s = Jct t j ∧ j ≤ N) (fun s => [(r1, kO s)]) (fun _ _ => False) (fun _ => []) [(p2, _), (p1, _), (rb, _)] z25 rfl rfl (enters_of Tryz.func257 m5 rfl) (Jtr (rb := rb) (cap := t.length + kb) htl m0 hlim p1 p2) mA rfl (by simp [chL]) rfl ⟨rfl, Nat.zero_le _⟩ ?_ ?_ ?_)
 rintro q Xr Xb w3 jj _ _ a ⟨hi, rfl, rfl⟩ ⟨hsa, -⟩ Kr hKr; refine inR ?_
 have hak : SOk 25 a := by rw [hsa]; exact Jab t jj
 obtain ⟨u, hu⟩ : ∃ u, u = t.drop (136 * jj) := ⟨_, rfl⟩
 have habk := Jaa u hak
 refine KK 3 rfl (hKr _ _ (JS ?_)); clear hKr; refine kS ?_; refine kz ?_; refine kR ?_; refine Jy (σ := Nat) (fun i => i ≤ 136) (fun i => [(5, .pointer (some ⟨r1, 0, none⟩)), (23, .slice (some ⟨rb, 136 * jj, none⟩) 136 136), (24, .int .i64 136), (25, .int .i64 (i : Int))]) (fun i => [(r1, kO (abS a u i))]) (fun _ => Xb) (fun i => 136 - i) 0 (Nat.zero_le _) (lK rfl) (List.Sublist.refl _) (fun _ _ h => h) ?_; intro i hi; refine Nv ?_; refine cD (fun g => ?_) fun g => ?_
 refine Jt 7 rfl (LR rfl (Kc (j := i) (m := 1) (off' := 136 * jj + i) rfl rfl rfl rfl rfl m0 m0) (LR rfl (KJ rfl (JB (k := 2) rfl) rfl (Jts m0)) ?_)); rw [← hu]; refine kR ?_; refine JX 12 m5 m5 (kU ?_); refine Qc mQ (kg ?_); refine Jc rfl rfl rfl (KJ rfl (kn 0 rfl) rfl (KW (by rw [(habk i).1]; omega))) (kU ?_); refine Qc (show _ = uV (u.getD i 0).toNat from congrArg (Value.int .u64) (wrap_u64 (z := ((u.getD i 0).toNat : Int)) m0 (by have := QC (u.getD i 0); omega))) (kU ?_); refine Qc mP (N1 ?_); refine Qc mV (Jc rfl rfl rfl (ww (n := i % 8 * 8) rfl rfl rfl mT (vK (vc (QC _) m0))) (Jc rfl rfl rfl (VC (op := .xor) (b := (((abS a u i).getD (i / 8) 0 ^^^ (u.getD i 0).toNat * 2 ^ (i % 8 * 8) : Nat) : Int)) rfl rfl rfl ((habk i).get _) (vc (QC _) m0) rfl) (kg ?_))); refine Kv (KS (k := 0) (off := i / 8) (xs := (abS a u i).map uV) (ys := (abS a u (i + 1)).map uV) rfl rfl rfl rfl rfl rfl (by rw [List.length_map, (habk i).1]; omega) (Wr rfl) rfl ?_); exact H5
 refine kX ?_
 have hi136 : 136 = i := by omega
 subst hi136; refine H4 ?_; refine LR rfl (Jm (xs := (abS a u 136).map uV) (n := 25) rfl (kn 0 rfl) rfl rfl (by rw [List.length_map, (habk 136).1])) (J6 rfl rfl rfl (enters_of Tryz.func238 m5 rfl) (Jk1 (habk 136)) (Ju (k := 0) (n := 25) (ys := (zz (abS a u 136)).map uV) rfl rfl rfl rfl rfl (by rw [List.length_map, (Jcs (habk 136)).1]) (by rw [List.size_toArray, List.length_map, (habk 136).1]) (Zl _) rfl (Jz 2 rfl (QU (Jct t (jj + 1)) ⟨rfl, by omega⟩ ?_)))); rw [show Jct t (jj + 1) = zz (abS a u 136) from by rw [hu, hsa]; rfl]; rfl
 rintro D jj a hfi ⟨hsa, -⟩
 have hjN : jj = N := hfi
 have hak : SOk 25 a := by rw [hsa]; exact Jab t jj
 have hkec2 : WZ s = jW a 32 := by rw [hkec, hsa, hjN]
 refine gqo 4 rfl (WJ (n := 32) (b := 1) rfl rfl rfl rfl rfl rfl rfl rfl rfl m7 m7 fun r2 => Gi ?_); refine kz ?_; refine kR ?_; refine Jy (σ := Nat) (fun i => i ≤ 32) (fun i => [(5, .pointer (some ⟨r1, 0, none⟩)), (9, .slice (some ⟨r2, 0, none⟩) 32 32), (47, .int .i64 32), (48, .int .i64 (i : Int))]) (fun i => [(r2, .cells ((jW a i ++ List.replicate (32 - i) 0).map bV).toArray 5 (0, 0)), (D, .deferred (some [])), (r1, kO a)]) (fun _ _ _ => True) (fun i => 32 - i) 0 (Nat.zero_le _) (lK rfl) (.cons_cons _ (.cons_cons _ (.cons_cons _ (List.nil_sublist _)))) (fun _ _ h => h) ?_; intro i hi; refine Nv ?_; refine cD (fun g => ?_) fun g => ?_
 refine Jt 15 rfl (Jk mQ (LR rfl (JN (j := i / 8) (m := 1) (off' := i / 8) rfl rfl rfl rfl m0 m0 m0) (LR rfl (KJ rfl (kn 2 rfl) rfl (KW (by rw [hak.1]; omega))) (NC ?_)))); refine Jk mP (V7 rfl (Jk mV (LR rfl (jL (n := i % 8 * 8) rfl rfl rfl mT m0 (vL _ _)) (V7 rfl (Jk (show _ = bV (UInt8.ofNat (a.getD (i / 8) 0 / 2 ^ (i % 8 * 8) % 256)) from jO _) (LR rfl (Kc (j := i) (m := 1) (off' := i) rfl rfl rfl rfl rfl m0 m0) ?_)))))); refine KS (k := 0) (off := i) (xs := (jW a i ++ List.replicate (32 - i) 0).map bV) (ys := (jW a (i + 1) ++ List.replicate (32 - (i + 1)) 0).map bV) rfl rfl rfl rfl rfl rfl (by simp [WU]; omega) (Jpa m0) rfl ?_; exact H5
 refine Nv ?_
 have hi32 : 32 = i := by omega
 subst hi32; refine Nw ?_; refine LR rfl (Qq (b := jW a 32) (row := some (r2, 32, [])) (e := 5) (show _ = some (J3 (jW a 32).length (some (r2, 32, []))) from by rw [WU]; rfl) ⟨by simp [WU], by simp [WU]⟩ (fun p hp => .inl Mp) rfl rfl rfl) (gJ ?_); refine QQ (k := 1) rfl rfl (NP fun w1 hs1 => ?_); exact ⟨by rw [hkec2]; rfl, hs1.keep⟩
 ·exact gp
abbrev QR (r : Nat) : Value := .pointer (some ⟨r, 0, none⟩)
def WL (l : List BS) : List Value := l.map Jw
theorem Jtt (l : List BS) : (WL l).length = l.length := by unfold WL; rw [List.length_map]
theorem Ja3 {l : List BS} (h : l[i]? = some s) : (WL l)[i]? = some (Jw s) := by unfold WL; rw [List.getElem?_map, h]; rfl
theorem Jtu (l : List BS) : (WL l).all QW = true := by
 rw [List.all_eq_true]; intro x hx
 obtain ⟨b, _, rfl⟩ := List.mem_map.1 hx
 rfl
theorem Jgk (n : Nat) (row : Vg) : (J3 n row).cells = #[J3 n row] := by cases row <;> rfl
theorem Jk2 (n : Nat) (row : Vg) : QW (J3 n row) = true := by cases row <;> rfl
theorem Jgl (h : s.length ≤ 32) : Pure Tryz.prog 175 [Jw s].toArray (Jw (Wu s)) := by
 unfold Wu
 refine J8 Tryz.func175 rfl rfl fun w => ?_; refine gc ?_; refine HK ?_; refine Jk (show _ = Value.int .i64 ((32 - s.length : Nat) : Int) from by rw [wrap_i64 m0 m0]; congr 1 <;> omega) ?_; refine Gq ?_; exact Nz
theorem Jpb {l : List BS} {p : Pl} (hl : l.length ≤ 100000) (hs : Seg R l.length (WL l) p) :
  PureT (α := { row : Vg // rowOk 1 l.length (WL l) row }) Tryz.prog 176 [Ky l.length p].toArray (fun x => J3 l.length x.1) [] (fun x => JL 9 (WL l) x.1) R := by
 cases p with
 | none =>
  have h0 : l = [] := List.length_eq_zero_iff.1 hs
  subst h0; refine J2 Tryz.func176 rfl rfl fun w => Hw ?_; refine cD (fun g => ?_) fun g => ?_
  exact GQ
  try exact Bool.noConfusion g
 | some q =>
  refine J2 Tryz.func176 rfl rfl fun w => Hw ?_; refine JH rfl (fun g => ?_) (fun g => ?_)
  try exact Bool.noConfusion g
  ·refine Gx ?_; refine XB rfl rfl rfl rfl fun r1 => QK rfl (wQ (k := 0) (b := 16) (sz := 1) rfl rfl rfl rfl rfl rfl hs oR rfl rfl rfl rfl rfl m7 (by rw [Jtt, Nat.mul_one]) (Jtu l) m0 m0 fun row hrow => (Jz 4 rfl ?_)); exact gN
theorem Jd1 (n : Nat) (row : Vg) : PureE (α := Nat) Tryz.prog 177 [J3 n row].toArray (fun r => .func (.func 239) #[] #[QR r]) (fun r => [(r, .cells #[J3 n row] 109 (0, 0))]) := by
 refine VB Tryz.func177 rfl rfl fun w => JS (Nw ?_); refine QX (cs := #[J3 n row]) rfl rfl rfl (Jgk n row) fun r1 => ND ?_; refine gZ ?_; refine gJ ?_; refine NP fun w1 hs1 => ?_; exact ⟨r1, rfl, hs1⟩
def Jvo (l : List BS) : Nat → List Value → Jj → Nat → Prop := fun i v B i' => 2 * i + 1 < l.length ∧ i' = i + 1 ∧ v = [Jw (l.getD (2 * i) []), Jw (l.getD (2 * i + 1) [])] ∧ B = []
theorem zT {l : List BS} : ∀ i v B i', Jvo l i v B i' → v.length = 2 := by rintro _ _ _ _ ⟨_, _, rfl, _⟩; rfl
theorem yw {l : List BS} (h : i < l.length) : l[i]? = some (l.getD i []) := by rw [List.getD_eq_getElem?_getD, List.getElem?_eq_getElem h]; rfl
theorem Jd2 {l : List BS} (hl : l.length ≤ 1000000) (hrow : rowOk 1 l.length (WL l) row) (r : Nat) :
    Jma Tryz.prog 239 [QR r] ((r, .cells #[J3 l.length row] 109 (0, 0)) :: JL 9 (WL l) row) 0 (Jvo l) (fun i => ¬ 2 * i + 1 < l.length) := by
  have hs : Seg ((r, .cells #[Ky l.length (QD row)] 109 (0, 0)) :: JL 9 (WL l) row) l.length (WL l) (QD row) := (KY hrow m7).mono fun q hq => List.mem_cons_of_mem _ hq
  rw [← VE _ _ hrow.zero]; refine Jc8 Tryz.func239 rfl rfl fun q xids w2 XI XF hY => JS (Nv ?_); refine Jy (σ := Nat) (fun i => 2 * i ≤ l.length + 1) (fun i => [(0, .func (.yield q) #[] #[]), (1, QR r), (3, .int .i64 ((2 * i : Nat) : Int))]) (fun _ => []) (fun i => XI i) (fun i => l.length + 1 - 2 * i) 0 m0 (lK rfl) (List.Sublist.refl _) (fun _ _ h => h) ?_; intro i hi1; refine kS ?_; refine Jk ni (G7 ?_); refine Ni ?_; refine NR ?_; refine cD (fun g => ?_) fun g => ?_
  · refine kX ?_; refine JX 10 m5 m5 (MY ?_); refine Gb ?_; refine MY ?_
    refine Jc rfl rfl rfl (Jg (j := (2 * i)) rfl hs rfl rfl rfl mg m0) (Jc rfl rfl rfl (ZR oR rfl hs m0 rfl (Ja3 (yw (i := 2 * i) m0))) (Gb ?_)); refine kU ?_; refine Qc ni ?_
    refine Jc rfl rfl rfl (Jg (j := (2 * i + 1)) rfl hs rfl rfl rfl mg m0) (Jc rfl rfl rfl (ZR oR rfl hs m0 rfl (Ja3 (yw (i := 2 * i + 1) m0))) (Kv (zo (B := []) (XT := XI (i + 1)) (XF := XF) rfl rfl rfl rfl (hY i [Jw (l.getD (2 * i) []), Jw (l.getD (2 * i + 1) [])] [] (i + 1) ⟨by omega, rfl, rfl, rfl⟩) oN ?_ ?_)))
    all_goals (
     refine H2 ?_; refine JH rfl (fun g => ?_) (fun g => ?_)
     · try exact Bool.noConfusion g
       all_goals try simp only [ZZ] at g
       all_goals (
        exact N5
        skip)
     · try exact Bool.noConfusion g
       all_goals try simp only [ZZ] at g
       all_goals (
        refine gY ?_; refine Jk (show _ = Value.int .i64 ((2 * (i + 1) : Nat) : Int) from by rw [wrap_i64 m0 m0]; congr 1 <;> omega) ?_; refine Dy ?_; exact Nt
        skip)
     skip)
  · refine gn fun w1 hs1 => ?_
    obtain ⟨xs1, hx1⟩ := hs1.now
    exact ⟨⟨_, rfl⟩, hs1.keep, .inl ⟨i, _, by omega, hx1⟩⟩
theorem Jpc {k : Nat} : 2 ^ k < m ↔ k < lg m := by
 constructor
 ·intro h
  rcases Nat.lt_or_ge k (lg m) with h1 | h1
  ·exact h1
  ·have h2 := Jia m
   have h3 : 2 ^ lg m ≤ 2 ^ k := Nat.pow_le_pow_right m7 h1
   omega
 ·exact Jvj
theorem zU (l : List BS) : ∀ {i : Nat}, 2 * i + 1 < l.length → (SL.pairUp l).take (i + 1) = (SL.pairUp l).take i ++ [WZ (l.getD (2 * i) [] ++ l.getD (2 * i + 1) [])] := by
 induction l using SL.pairUp.induct with
 | case1 a b l ih =>
  intro i hi
  cases i with
  | zero => rw [SL.pairUp]; rfl
  | succ i =>
   rw [SL.pairUp, List.take_succ_cons, List.take_succ_cons, ih (by simp only [List.length_cons] at hi; omega), show 2 * (i + 1) = 2 * i + 1 + 1 by omega, show 2 * i + 1 + 1 + 1 = 2 * i + 1 + 1 + 1 by rfl]
   rfl
 | case2 l h =>
  intro i hi
  match l, h with
  | [], _ => simp at hi
  | [a], _ => simp at hi
  | a :: b :: l, h => exact absurd rfl (h a b l)
theorem vn (l : List BS) (z : BS) : (QA l z).length % 2 = 0 := by rw [XE]; omega
theorem yx {l : List BS} {z : BS} (h : ∀ x ∈ l, x.length = 32) (hz : z.length = 32) : ∀ x ∈ QA l z, x.length = 32 := by
 intro x hx
 unfold QA at hx
 split at hx
 ·rcases List.mem_append.1 hx with hx | hx
  ·exact h x hx
  ·rw [List.mem_singleton.1 hx]; exact hz
 ·exact h x hx
theorem qg {l : List BS} (h : ∀ x ∈ l, x.length = 32) (hi : i < l.length) : (l.getD i []).length = 32 := h _ (List.mem_of_getElem? (yw hi))
theorem Jd3 {n : Nat} (h : n ≤ 65536) : IntKind.i64.wrap ((n : Int) * 2) = ((n * 2 : Nat) : Int) := by
 rw [wrap_i64 m0 m0]; omega
structure TreeI (l0 : List BS) (m : Nat) (k : Nat) (ls : List BS) (row : Vg) (z : BS) : Prop where
  le : k ≤ lg m
  ok : rowOk 1 ls.length (WL ls) row
  eq : Wb (lg m - k) ls z = Vm l0 m
  len : ls.length ≤ 2 ^ (lg m - k)
  mem : ∀ x ∈ ls, x.length = 32
  zl : z.length = 32
set_option maxHeartbeats 1000000 in
theorem vX {l : List BS} {p : Pl} (hl : l.length ≤ m) (hm2 : m ≤ 65536) (hs : Seg R l.length (WL l) p) (h32 : ∀ s ∈ l, s.length = 32) :
  PureR Tryz.prog 134 [Ky l.length p, .int .i64 (m : Int)].toArray (Jw (Vm l m)) R := by
 have hlg : lg m ≤ 16 := Jyq (by simpa using hm2)
 have h0 := YR hl
 refine Ja Tryz.func134 rfl rfl fun w => GS ?_; refine JW rfl rfl rfl (enters_of Tryz.func176 m5 rfl) (Jpb m0 hs) oR fun x => ?_
 obtain ⟨row, hrow⟩ := x
 refine JY (List.perm_append_comm (l₂ := [])) ?_; change HL _ _ ((11, J3 l.length row) :: _) (JL 9 (WL l) row) _ _ _ _; refine ND ?_; refine J6 rfl rfl rfl Jom (Jgl (s := []) m7) (Jk (show _ = Jw z32 from rfl) (JQ 10 rfl (Jnu (σ := Nat × List BS × Vg × BS × List Nat) (fun q => q.2.2.2.2.map Vf ++ []) (fun q => TreeI l m q.1 q.2.1 q.2.2.1 q.2.2.2.1) (fun q => [(0, J3 q.2.1.length q.2.2.1), (1, .int .i64 (m : Int)), (5, Jw q.2.2.2.1), (6, .int .i64 ((2 ^ q.1 : Nat) : Int))]) (fun q => Xg q.2.2.2.2 ++ JL 9 (WL q.2.1) q.2.2.1) (fun _ _ _ => True) (fun q => lg m - q.1) (0, l, row, z32, []) rfl ⟨Nat.zero_le _, hrow, h0, Nat.le_trans hl (Jia m), h32, rfl⟩ (lK rfl) (List.Sublist.refl _) (fun _ _ h => h) ?_))); rintro ⟨k, ls, row, z, Ds⟩ hi; refine inK ?_; simp only at hi; change HC _ (Ds.map Vf ++ []) [(0, J3 ls.length row), (1, _), (5, Jw z), (6, .int .i64 ((2 ^ k : Nat) : Int))] (Xg Ds ++ JL _ (WL ls) row) _ _ _; refine JE 8 rfl (cD (fun g => ?_) fun g => ?_)
 ·refine Nv ?_
  have hk : k < lg m := Jpc.1 m0
  obtain ⟨K, hK⟩ : ∃ K, lg m - k = K + 1 := ⟨lg m - k - 1, by omega⟩
  have heq := hi.eq
  have hlen := hi.len
  rw [hK, Wb] at heq; rw [hK, Nat.pow_succ] at hlen
  have hK16 : 2 ^ K ≤ 65536 := by have := Nat.pow_le_pow_right (n := 2) (i := K) (j := 16) m7 m0; simpa using this
  have hzl := hi.zl
  have hk16 : 2 ^ k ≤ 65536 := by have := Nat.pow_le_pow_right (n := 2) (i := k) (j := 16) m7 m0; simpa using this
  refine Nw ?_; refine LR rfl (Wp rfl hi.ok.zero rfl) (V7 rfl (Jk (show _ = Value.int .i64 ((ls.length % 2 : Nat) : Int) from congrArg (Value.int .i64) (V0 _ 2)) (JQ 3 rfl ?_))); refine cD (fun g => ?_) fun g => ?_
  ·refine GW ?_; refine Hm fun r1 => ?_; refine JF (L0 := _ :: Xg Ds) (xs := WL ls) (row := row) (n := ls.length) (sz := 1) (b := 16) (news := [_]) (List.perm_append_comm (l₁ := _ :: Xg Ds)) rfl rfl rfl rfl (kn 0 rfl) rfl rfl rfl rfl rfl m7 rfl rfl rfl m7 hi.ok m0 m0 fun ra cap sp hra => kR ?_
   (have e : QA ls z = ls ++ [z] := by unfold QA; rw [if_pos m0]
    refine Jss (List.perm_append_comm (l₁ := [_])) (Jsu (L' := Xg Ds ++ JL 9 (WL ls ++ [Jw z]) (some (ra, cap, sp))) (.cons _ (List.Sublist.refl _)) ?_); change HC _ _ ((0, J3 (ls.length + 1) (some (ra, cap, sp))) :: _) _ _ _ _
    generalize hn2 : ls.length + 1 = n2 at hra ⊢
    generalize hc2 : WL ls ++ [Jw z] = xs2 at hra ⊢
    generalize (some (ra, cap, sp) : Vg) = row2 at hra ⊢
    obtain rfl : n2 = (QA ls z).length := by rw [e, ← hn2, List.length_append]; rfl
    obtain rfl : xs2 = WL (QA ls z) := by rw [e, ← hc2]; unfold WL; rw [List.map_append]; rfl)
   have hm2e := yx hi.mem hi.zl
   have hev := vn ls z
   have hl2 := XE ls z
   obtain ⟨ls2, hls2⟩ : ∃ x, x = QA ls z := ⟨_, rfl⟩
   rw [← hls2] at hm2e hev hl2 hra heq ⊢
   have hl2b : ls2.length ≤ 2 ^ K * 2 := by omega
   refine kq fun r1 rb => ?_; refine q5 (τ := Unit) (fun i (s : Nat × List Value × Vg) => 2 * i ≤ ls2.length ∧ s.1 = i ∧ s.2.1 = WL ((SL.pairUp ls2).take i) ∧ rowOk 1 i s.2.1 s.2.2) (fun s => (r1, .cells #[J3 s.1 s.2.2] 109 (0, 0)) :: JL 9 s.2.1 s.2.2) (fun _ _ => False) (fun _ => []) (Xg Ds ++ ((rb, .cells #[J3 ls2.length row2] 109 (0, 0)) :: JL 9 (WL ls2) row2)) (0, [], none) rfl rfl (enters_of Tryz.func239 m5 rfl) (Jd2 m0 hra rb) zT rfl (fun q hq => .inl (List.mem_append_right _ hq)) rfl ⟨Nat.zero_le _, rfl, rfl, rfl, rfl⟩ ?_ ?_ ?_
   rintro q Xr Xb w3 i _ _ _ ⟨n, xs, row3⟩ ⟨hii, rfl, rfl, rfl⟩ ⟨h2i, hn, hxs, hr3⟩ Kr hKr; refine inR ?_
   simp only at hn hxs hr3; rw [← hn] at hr3; refine GD ?_; refine hKr _ _ (JS ?_); clear hKr; exact gU
   rintro D i ⟨n, xs, row3⟩ hfi ⟨h2i, hn, hxs, hr3⟩
   simp only at hn hxs hr3
   exact gO
   exact gp
  ·refine Gw ?_
   (have e : QA ls z = ls := by unfold QA; rw [if_neg m0]
    have hra := hi.ok
    generalize row = row2 at hra ⊢
    generalize hn2 : ls.length = n2 at hra ⊢
    generalize hc2 : WL ls = xs2 at hra ⊢
    obtain rfl : n2 = (QA ls z).length := by rw [e, ← hn2]
    obtain rfl : xs2 = WL (QA ls z) := by rw [e, ← hc2])
   have hm2e := yx hi.mem hi.zl
   have hev := vn ls z
   have hl2 := XE ls z
   obtain ⟨ls2, hls2⟩ : ∃ x, x = QA ls z := ⟨_, rfl⟩
   rw [← hls2] at hm2e hev hl2 hra heq ⊢
   have hl2b : ls2.length ≤ 2 ^ K * 2 := by omega
   refine kq fun r1 rb => ?_; refine q5 (τ := Unit) (fun i (s : Nat × List Value × Vg) => 2 * i ≤ ls2.length ∧ s.1 = i ∧ s.2.1 = WL ((SL.pairUp ls2).take i) ∧ rowOk 1 i s.2.1 s.2.2) (fun s => (r1, .cells #[J3 s.1 s.2.2] 109 (0, 0)) :: JL 9 s.2.1 s.2.2) (fun _ _ => False) (fun _ => []) (Xg Ds ++ ((rb, .cells #[J3 ls2.length row2] 109 (0, 0)) :: JL 9 (WL ls2) row2)) (0, [], none) rfl rfl (enters_of Tryz.func239 m5 rfl) (Jd2 m0 hra rb) zT rfl (fun q hq => .inl (List.mem_append_right _ hq)) rfl ⟨Nat.zero_le _, rfl, rfl, rfl, rfl⟩ ?_ ?_ ?_
   rintro q Xr Xb w3 i _ _ _ ⟨n, xs, row3⟩ ⟨hii, rfl, rfl, rfl⟩ ⟨h2i, hn, hxs, hr3⟩ Kr hKr; refine inR ?_
   simp only at hn hxs hr3; rw [← hn] at hr3; refine GD ?_; refine hKr _ _ (JS ?_); clear hKr; exact gU
   rintro D i ⟨n, xs, row3⟩ hfi ⟨h2i, hn, hxs, hr3⟩
   simp only at hn hxs hr3
   exact gO
   exact gp
 ·refine JE 7 rfl ?_
  have hkl : ¬ k < lg m := fun h => by have := Jpc.2 h; omega
  obtain rfl : k = lg m := by have := hi.le; omega
  have heq := hi.eq
  have hlen := hi.len
  rw [Nat.sub_self] at heq hlen; refine Nw ?_; refine LR rfl (Wp rfl hi.ok.zero rfl) (NR ?_); refine cD (fun g => ?_) fun g => ?_
  refine GD ?_; refine wX Ds (MW fun w1 hs1 => ?_)
  (obtain rfl : ls = [] := List.eq_nil_of_length_eq_zero m0
   rw [← heq]; rfl)
  ·refine Gw ?_
   obtain ⟨s0, hls1⟩ : ∃ s0, ls = [s0] := by
    match ls, hlen with
    | [a], _ => exact ⟨a, rfl⟩
    | [], _ => exact absurd rfl m9
    | _ :: _ :: _, h => simp at h
   refine Nw ?_; refine LR rfl (Jg (p := QD row) (j := 0) (show _ = some (Ky ls.length (QD row)) from by rw [VE _ _ hi.ok.zero]; rfl) (KY (e := 9) hi.ok m7) rfl rfl rfl rfl m0) (LR rfl (ZR (p := QD row) (fun q hq => Or.inl (List.mem_append_right _ hq)) rfl (KY (e := 9) hi.ok m7) m0 rfl (Ja3 (show ls[0]? = some s0 from by rw [hls1]; rfl))) (gJ ?_)); refine wX Ds (MW fun w1 hs1 => ?_); rw [← heq, hls1]; rfl
abbrev fV1 (f : FuncId) : Value := .func (.func f) #[] #[]
def Yk (root : BS) (n : Nat) : BS := WZ (root ++ Wu (jQ n 8))
theorem le8 {n : Nat} (h : n < 18446744073709551616) : zS n 8 = (jQ n 8, 0) := by
 unfold zS
 rw [if_neg]
 ·rfl
 ·have := (Jiu (n := n) (k := 8) h m7).2 nb
  omega
theorem Jpd {root : BS} (hr : root.length ≤ 1000) {n : Nat} (hn : n ≤ 9223372036854775807) : Pure Tryz.prog 129 [Jw root, .int .i64 (n : Int)].toArray (Jw (Yk root n)) := by
 have hk := Jd0 (s := root ++ Wu (jQ n 8)) (by rw [List.length_append, VX (by rw [Wf]; decide)]; omega)
 change Pure _ _ _ (Jw (Yk root n)) at hk
 have hp := VX (s := jQ n 8) (by rw [Wf]; decide)
 generalize Yk root n = z at hk
 refine J8 Tryz.func129 rfl rfl fun w => gc ?_; refine Jk (show _ = uV n from congrArg (Value.int .u64) (wrap_u64 (z := (n : Int)) m0 m0)) (J6 rfl rfl rfl (enters_of Tryz.func166 m5 rfl) (Jdw (n := n) m0 8) (Jk (show _ = Value.tuple #[Jw (jQ n 8), .int .i64 0] from by rw [le8 m0]; rfl) (JK 11 rfl (J6 rfl rfl rfl Jom (Jgl (s := jQ n 8) (by rw [Wf]; decide)) (LR rfl (VD (a := root) (b := Wu (jQ n 8)) rfl rfl m0) (J6 rfl rfl rfl Jdh hk ?_)))))); exact Nz
theorem Zz (l : List BS) (s : BS) : WL (l ++ [s]) = WL l ++ [Jw s] := by unfold WL; rw [List.map_append]; rfl
theorem Y1 (h : i < Y.length) : (Y.map bV)[i]? = some (bV (Y.getD i 0)) := by
 rw [List.getElem?_map, List.getD_eq_getElem?_getD, List.getElem?_eq_getElem h]; rfl
def YW (xs : BS) : Nat → BS
 | 0 => xs
 | i + 1 => ((YW xs i).set i ((YW xs i).getD (xs.length - 1 - i) 0)).set (xs.length - 1 - i) ((YW xs i).getD i 0)
theorem Y2 (xs : BS) : ∀ i, (YW xs i).length = xs.length
 | 0 => rfl
 | i + 1 => by rw [YW, List.length_set, List.length_set, Y2 xs i]
theorem getD_set {b : UInt8} (hi : i < Y.length) : (Y.set i b).getD j 0 = if i = j then b else Y.getD j 0 := by
 rw [List.getD_eq_getElem?_getD, List.getElem?_set, List.getD_eq_getElem?_getD]
 split
 ·first | rfl | (rw [if_pos hi]; rfl) | simp [hi]
 ·rfl
theorem qh (xs : BS) : ∀ {i j : Nat}, 2 * i ≤ xs.length → j < xs.length → (YW xs i).getD j 0 = if j < i ∨ xs.length - 1 - j < i then xs.getD (xs.length - 1 - j) 0 else xs.getD j 0
 | 0, j, _, hj => by rw [YW, if_neg m0]
 | i + 1, j, hi, hj => by
  have h1 := Y2 xs i
  have ga := qh xs (i := i) (j := xs.length - 1 - i) m0 m0
  have gb := qh xs (i := i) (j := i) m0 m0
  have gj := qh xs (i := i) (j := j) m0 hj
  rw [if_neg m0] at ga gb; rw [YW, getD_set (by rw [List.length_set, h1]; omega), getD_set (by rw [h1]; omega), ga, gb, gj]
  by_cases e1 : xs.length - 1 - i = j
  ·rw [if_pos e1, if_pos m0]
   congr 1; omega
  ·rw [if_neg e1]
   by_cases e2 : i = j
   ·rw [if_pos e2, if_pos m0]
    congr 1; omega
   ·rw [if_neg e2]
    by_cases e3 : j < i ∨ xs.length - 1 - j < i
    ·rw [if_pos e3, if_pos m0]
    ·rw [if_neg e3, if_neg m0]
theorem Jd4 {xs : BS} (h1 : 2 * i ≤ xs.length) (h2 : xs.length ≤ 2 * i + 1) : YW xs i = xs.reverse := by
 apply List.ext_getElem?
 intro j
 by_cases hj : j < xs.length
 ·have e1 : (YW xs i)[j]? = some ((YW xs i).getD j 0) := by rw [List.getD_eq_getElem?_getD, List.getElem?_eq_getElem (by rw [Y2]; exact hj)]; rfl
  rw [e1, qh xs h1 hj, List.getElem?_reverse hj]
  have e2 : xs[xs.length - 1 - j]? = some (xs.getD (xs.length - 1 - j) 0) := by rw [List.getD_eq_getElem?_getD, List.getElem?_eq_getElem m0]; rfl
  rw [e2]
  by_cases e3 : j < i ∨ xs.length - 1 - j < i
  ·rw [if_pos e3]
  ·rw [if_neg e3, show xs.length - 1 - j = j by omega]
 ·rw [List.getElem?_eq_none (by rw [Y2]; omega), List.getElem?_eq_none (by rw [List.length_reverse]; omega)]
theorem qi {b : UInt8} (h : i < Y.length) : (Y.map bV ++ sp).toArray.setIfInBounds i (bV b) = ((Y.set i b).map bV ++ sp).toArray := by
 rw [List.setIfInBounds_toArray, List.set_append_left _ _ Me, List.map_set]
section
variable {c : Cx} {l : Ko} {L E : Jj} {X : XP} {Q : Exit → Act → World → Prop} {d : List Deferred}
variable {ops : Array Oper} {rest : List Nat} {i k : Nat} {v : Value} {o : Oper} {tb : jS} {S : Jj} {T : Jj → Act → Prop}
theorem ZY {t : TypeId} {x y : Operand} {q off : Nat} {cs' : Array Value} {e : TypeId} {E' : Jj} (hko : W1 ops.toList k = some ⟨none, .store t x y, ty, ps, af, gd⟩) (hg : Kp l ops ⟨none, .store t x y, ty, ps, af, gd⟩ = some true) (hA : tb k = .turn)
  (hx : Kh l x = some (.pointer (some ⟨r, off, none⟩))) (hk : E[q]? = some (r, .cells cs e fr)) (hy : Kh l y = some v) (ht : KQ c.P t = some 1) (ho : QW v = true) (hfr : frB fr off = false) (hc : (cs[off]?).isSome = true)
  (hcs : cs.setIfInBounds off v = cs') (hL : E.set q (r, .cells cs' e fr) = E') (hS : SubS S E')
  (h : HB c d l E' X S ops tb rest T) : HB c d l E X S ops tb (k :: rest) T :=
 wF hko hg rfl hA (fun a w hf hs => ⟨w.setCell ⟨r, off, none⟩ v, by
  simp only [execOp]; rw [hf.eval hx, hf.eval hy]
  obtain ⟨old, hold⟩ := Option.isSome_iff_exists.1 hc
  have h1 := run_store c.P w ⟨r, off, none⟩ v .plain (by rw [XR]; exact ho)
  rw [Wn (hs.get hk), hold, qy (hs.get hk) hfr] at h1
  have hcell : v.cells = #[v] := by cases v <;> first | rfl | cases ho
  simp [Instr.storeAt, Instr.sureAddr, Sem.run_bind, Result.andThen, storeVar, V8 ht, hcell, storeCells, Addr.add, h1], by
  subst hL; subst hcs
  exact hs.set hk (Keep.setCell r off v) (Go.SL.heap_setCell_same v (hs.get hk))⟩) hS h
end
section
variable {c : Cx} {l : Ko} {L : Jj} {X : XP} {d : List Deferred} {i : Nat} {ps : String} {af : Array Edge} {gd : Option (Nat × Bool)} {ty : TypeId}
theorem vo {x : Operand} {b : List UInt8} {n : Nat} {e src dst : TypeId} (hx : Kh l x = some (.slice (some ⟨r, 0, none⟩) n cap)) (hk : known c L r (.cells cs e fr)) (hn : n = b.length) (ht : cs.toList.take b.length = b.map bV)
  (hs : Ks c.P src = some e) (he : c.P.underlying e = some (.int .u8)) (hd : wt c.P dst = true) :
  J9 c d l L X ⟨some i, .convert src dst x, ty, ps, af, gd⟩ (.string (bs b)) := fun a' w hf hst => by
 subst hn; simp only [execOp]; rw [hf.eval hx]
 have hget := hst.known hk
 have hl := qZ (P := c.P) (xs := b.map bV) hget (by rw [List.length_map]; exact ht)
 rw [List.length_map] at hl; simp only [Sem.run_bind]; rw [run_convert_bytes_string w src dst e _ _ _ (Ki hs) he (Vq hd)]; rw [run_bytesToString w _ _ _ (b.map fun x => ((x.toNat : Nat) : Int)) Mm]
 have := ZN b []
 rw [show (bs [] : ByteArray) = ByteArray.empty from rfl] at this; rw [this]
 rfl
end
theorem Jk3 {xs : BS} (hfr : ∀ q, q < xs.length → frB fr q = false) (hc : xs.length ≤ cap) (hx : xs.length ≤ 9223372036854775807) : PureT (α := Unit) Tryz.prog 170 [.slice (some ⟨r, 0, none⟩) xs.length cap].toArray (fun _ => .tuple #[])
  [(r, .cells (xs.map bV ++ sp).toArray 5 fr)] (fun _ => [(r, .cells (xs.reverse.map bV ++ sp).toArray 5 fr)]) [] := by
 refine J2 Tryz.func170 rfl rfl fun w => JS (GW ?_); refine kz ?_; refine V7 rfl (Jk (show _ = Value.int .i64 ((xs.length : Int) - 1) from congrArg (Value.int .i64) (wrap_i64 m0 m0)) (JQ 5 rfl ?_)); refine Jy (σ := Nat) (fun i => 2 * i ≤ xs.length + 1 ∧ 2 * i ≤ xs.length) (fun i => [(0, .slice (some ⟨r, 0, none⟩) xs.length cap), (2, .int .i64 (i : Int)), (3, .int .i64 ((xs.length : Int) - 1 - (i : Int)))]) (fun i => [(r, .cells ((YW xs i).map bV ++ sp).toArray 5 fr)]) (fun _ _ _ => True) (fun i => xs.length - i) 0 ⟨by omega, by omega⟩ (.cons rfl (.cons rfl (.cons Mj .nil))) (List.Sublist.refl _) (fun _ _ h => h) ?_; rintro i ⟨hi1, hi2⟩; refine JE 8 rfl (cD (fun g => ?_) fun g => ?_)
 ·refine JE 4 rfl ?_
  have hii : i + 1 ≤ xs.length - i := by omega
  obtain ⟨Y, hY⟩ : ∃ Y, Y = YW xs i := ⟨_, rfl⟩
  have hYl : Y.length = xs.length := by rw [hY]; exact Y2 xs i
  refine NA ?_; refine Ji (k := 6) rfl rfl rfl rfl rfl (fun _ _ => Kc (j := (xs.length - 1 - i)) (m := 1) (off' := (xs.length - 1 - i)) rfl rfl rfl rfl m0 m0 m0) ?_; refine KG (k := 7) rfl rfl rfl rfl rfl (Je rfl (kn 0 rfl) rfl (jK (xs := Y.map bV) (v := bV (Y.getD (xs.length - 1 - i) 0)) (Y1 m0))) ?_; refine NI ?_; refine ZY (k := 13) (q := 0) (cs' := ((Y.set i (Y.getD (xs.length - 1 - i) 0)).map bV ++ sp).toArray) rfl rfl rfl rfl rfl rfl rfl rfl (hfr _ m0) nU (qi m0) rfl (fun _ h => nomatch h) ?_; refine Ji (k := 14) rfl rfl rfl rfl rfl (fun _ _ => Kc (j := (xs.length - 1 - i)) (m := 1) (off' := (xs.length - 1 - i)) rfl rfl rfl rfl m0 m0 m0) ?_; refine ZY (k := 15) (q := 0) (cs' := ((YW xs (i + 1)).map bV ++ sp).toArray) rfl rfl rfl rfl rfl rfl rfl rfl (hfr _ m0) nU My rfl (fun _ h => nomatch h) ?_; refine Kk ?_; refine Gc ?_; refine Jh m0 m0 ?_; refine JK 2 rfl ?_; refine Jk (show _ = Value.int .i64 ((xs.length : Int) - 1 - ((i + 1 : Nat) : Int)) from by rw [wrap_i64 m0 m0]; congr 1 <;> omega) ?_; exact GX
 ·refine gn fun w1 hs1 => ?_; exact ⟨(), rfl, by rw [← Jd4 (xs := xs) (i := i) m0 m0]; exact hs1⟩
theorem Jyz (w : List Nat) : leW w 32 = (ZO w 32).reverse := by unfold leW; rw [List.take_of_length_le (by rw [List.length_reverse, We]; exact Nat.le_refl _)]
theorem Jd5 (t : Ty) (hv : v.In R) : Pure Tryz.prog 125 [t.val, v.val].toArray (Jw (leW v.num 32)) := by
 obtain ⟨k, n, p, ins⟩ := t
 cases hv with
 | @mk a b c d bits pb items pi pick ha hb hc hd hlb hsb hl hs hp hi =>
 have hw : WOk [a, b, c, d] := ⟨rfl, fun x hx => by simp at hx; rcases hx with rfl | rfl | rfl | rfl <;> assumption⟩
 show Pure _ _ _ (Jw (leW [a, b, c, d] 32))
 rw [Jyz]
 have hfx := YU hw
 have hlen := We [a, b, c, d] 32
 generalize ZO [a, b, c, d] 32 = B at hfx hlen
 refine J8 Tryz.func125 rfl rfl fun w => Nd fun r1 r2 => ?_; refine X6 7 [0] rfl rfl (J6 rfl rfl rfl Jii hfx (XU rfl rfl rfl rfl rfl rfl fun rb kb => Gc ?_)); refine Vv (T := [(rb, .cells (B.map bV ++ List.replicate kb (Value.int .u8 0)).toArray 5 (B.length + kb, B.length + kb + 1))]) (L0 := [(r2, _), (r1, _)]) (Rl := []) (List.Perm.refl _) rfl rfl rfl (enters_of Tryz.func170 m5 rfl) (Jk3 (fun q hq => by simp [frB, Nat.blt, Nat.ble]; omega) m0 m0) oN fun u => ?_; change HL _ _ _ ((rb, _) :: (r2, _) :: (r1, _) :: []) _ _ _ _; refine ND ?_; refine LR rfl (vo (b := B.reverse) rfl (kn 0 rfl) (by rw [List.length_reverse]) nP rfl rfl rfl) ?_; exact Nz
def rootM : Array MapEntry := #[⟨.int .i64 1, .func (.func 125) #[] #[], 0⟩, ⟨.int .i64 2, .func (.func 125) #[] #[], 1⟩, ⟨.int .i64 3, .func (.func 126) #[] #[], 2⟩, ⟨.int .i64 4, .func (.func 128) #[] #[], 3⟩,
 ⟨.int .i64 5, .func (.func 130) #[] #[], 4⟩, ⟨.int .i64 6, .func (.func 132) #[] #[], 5⟩, ⟨.int .i64 7, .func (.func 133) #[] #[], 6⟩, ⟨.int .i64 8, .func (.func 136) #[] #[], 7⟩]
theorem Jk4 : ∀ e ∈ rootM.toList, isI e.key := by
 intro e he
 unfold rootM at he
 simp at he
 rcases he with rfl | rfl | rfl | rfl | rfl | rfl | rfl | rfl <;> exact ⟨_, rfl⟩
theorem Jd6 {a b : Bool} (h : a = b) : Value.bool a = Value.bool b := by rw [h]
abbrev pB (own : Bool) (r : Nat) : Value := .pointer (if own then some ⟨r, 0, none⟩ else none)
def zj (r : Nat) (s : BS) (row : Vg) (own : Bool) : Nat × Obj := (r, .cells #[pB own r, J3 s.length row] 127 (0, 0))
def Xh (r : Nat) (s : BS) (row : Vg) (own : Bool) : Jj := zj r s row own :: JL 5 (s.map bV) row
def bOk (s : BS) (row : Vg) : Prop := rowOk 1 s.length (s.map bV) row ∧ (s = [] → row = none)
theorem Jd7 (r : Nat) (own : Bool) (v : Value) : PureT (α := Unit) Tryz.prog 156 [QR r].toArray (fun _ => .tuple #[]) [(r, .cells #[pB own r, v] 127 (0, 0))] (fun _ => [(r, .cells #[pB true r, v] 127 (0, 0))]) [] := by
 cases own with
 | false =>
  refine J2 Tryz.func156 rfl rfl fun w => JS (kS ?_); refine LR rfl (Je (v := .pointer none) rfl (kn 0 rfl) rfl rfl) (LR rfl (Jnw rfl rfl rfl rfl) (Gj ?_)); refine cD (fun g => ?_) fun g => ?_
  refine GW ?_; refine LR rfl (Jf7 (sz := 2) rfl (kn 0 rfl) rfl rfl rfl m7 mf) (LR rfl (Jf8 rfl rfl (Tryz.func192) m5 rfl rfl rfl) (LR rfl (Jao rfl (kn 0 rfl) rfl rfl rfl m5) (JK 2 rfl (Kt (k := 0) (cs' := #[QR r, v]) rfl rfl rfl rfl rfl rfl rfl rfl rfl rfl (Jz 1 rfl ?_))))); exact DC
  try exact Bool.noConfusion g
 | true =>
  refine J2 Tryz.func156 rfl rfl fun w => JS (kS ?_); refine LR rfl (Je (v := QR r) rfl (kn 0 rfl) rfl rfl) (LR rfl (Jnx rfl rfl rfl rfl) (Gj ?_)); refine JH rfl (fun g => ?_) (fun g => ?_)
  try exact Bool.noConfusion g
  ·refine kS ?_; refine LR rfl (Je (v := QR r) rfl (kn 0 rfl) rfl rfl) (QK rfl (LR rfl (Jnv rfl rfl rfl rfl) (JQ 2 rfl ?_))); refine JH rfl (fun g => ?_) (fun g => ?_)
   try exact Bool.noConfusion g
   ·try simp only [ZZ] at g
    refine KK 1 rfl ?_; exact DC
theorem Ja4 (r : Nat) (s : BS) (row : Vg) (own : Bool) : PureT (α := Unit) Tryz.prog 156 [QR r].toArray (fun _ => .tuple #[]) [zj r s row own] (fun _ => [zj r s row true]) [] := Jd7 r own _
theorem vY  {s2 : BS} (hb : bOk s row) (hl : s.length + s2.length ≤ 1000000) :
  PureT (α := { x : Vg // bOk (s ++ s2) x }) Tryz.prog 101 [QR r, Jw s2].toArray (fun _ => .tuple #[.int .i64 (s2.length : Int), .nilIface]) (Xh r s row own) (fun x => Xh r (s ++ s2) x.1 true) [] := by
 refine J2 Tryz.func101 rfl rfl fun w => JS ?_
 unfold Xh
 refine Jt 9 rfl (Vv (T := [zj r s row own]) (L0 := JL 5 (s.map bV) row) (Rl := []) (List.Perm.refl _) rfl rfl rfl (enters_of Tryz.func156 m5 rfl) (Ja4 r s row own) oN fun u => ?_); change HL _ _ _ (zj r s row true :: JL 5 (s.map bV) row) _ _ _ _; refine JK 8 rfl (LR rfl (Je (v := J3 s.length row) rfl (kn 0 rfl) rfl rfl) (QK rfl (Jf6 (e := 5) (s := s) (s2 := s2) (row := row) (L0 := [zj r s row true]) (List.perm_append_comm (l₁ := [_])) rfl rfl rfl rfl rfl rfl rfl rfl rfl hb.1 hb.2 m0 fun row2 h1 h2 => (JY List.perm_append_comm ?_)))); change HL _ _ _ ((r, .cells #[pB true r, J3 s.length row] 127 (0, 0)) :: JL 5 ((s ++ s2).map bV) row2) _ _ _ _; refine JK 2 rfl (Kt (k := 0) (cs' := #[pB true r, J3 (s ++ s2).length row2]) rfl rfl rfl rfl rfl (Jk2 _ _) rfl rfl rfl rfl (ND ?_)); refine Nx ?_; refine Ga ?_; refine MZ fun w1 hs1 => ?_; exact ⟨⟨row2, h1, h2⟩, rfl, hs1⟩
theorem Jw9 (r : Nat) (own : Bool) (hb : bOk s row) : PureR Tryz.prog 102 [QR r].toArray (.int .i64 (s.length : Int)) [zj r s row own] := by
 refine Ja Tryz.func102 rfl rfl fun w => JS (Jt 10 rfl (LR rfl (Je (v := J3 s.length row) rfl (JB (k := 0) rfl) rfl rfl) (LR rfl (Wp rfl hb.1.zero rfl) ?_))); exact Nz
theorem Jgm (hb : bOk s row) (hl : s.length ≤ 1000000) :
  PureT (α := Unit) Tryz.prog 103 [QR r].toArray (fun _ => Jw s) (Xh r s row own) (fun _ => []) [] := by
 have hcap : ∀ q cap sp, row = some (q, cap, sp) → cap ≠ 0 := by
  rintro q cap sp rfl h0
  obtain ⟨⟨h1, h2⟩, h3⟩ := hb
  have h4 : s.length = 0 := by omega
  have := h3 (List.eq_nil_of_length_eq_zero h4)
  cases this
 refine J2 Tryz.func103 rfl rfl fun w => JS ?_
 unfold Xh
 refine Nv ?_
 refine JJ [] [(0, .pure), (1, .pure), (2, .pure), (4, .pure), (5, .pure), (6, .pure), (7, .pure), (9, .pure)] 10 [0, 1, 2, 3, 4, 5, 6, 7, 8, 9] m5 m5 m6 (Nn ?_); refine Ji (k := 1) rfl rfl rfl rfl rfl (fun _ hS => (J1 rfl rfl rfl)) ?_
 refine NX ?_; refine KG (k := 3) rfl rfl rfl rfl rfl (Je (v := J3 s.length row) rfl (kn 0 rfl) rfl rfl) (Ji (k := 4) rfl rfl rfl rfl rfl (fun _ _ => Jan rfl hcap) (Dt ?_)); refine Ji (k := 6) rfl rfl rfl rfl rfl (fun _ hS => (J1 rfl rfl rfl)) ?_
 refine Gk ?_; refine KG (k := 8) rfl rfl rfl rfl rfl (Je (v := J3 s.length row) rfl (kn 0 rfl) rfl rfl) (Ji (k := 9) rfl rfl rfl rfl rfl (fun _ _ => Wp rfl hb.1.zero rfl) (Kk (vz (e := 5) (s := s) (row := row) (L0 := [zj r s row own]) (List.perm_append_comm (l₁ := [_])) rfl rfl rfl rfl rfl rfl hb.1 hb.2 m0 (gJ ?_)))); refine NP fun w1 hs1 => ?_; exact ⟨(), rfl, hs1.weakL (List.nil_sublist _)⟩
theorem WM (x : Ty) : Wx x = if JA x then JO x else 4 := rfl
theorem vZ (ht : t.In R) : PureR Tryz.prog 165 [t.val].toArray (.tuple #[.int .i64 (Wx t), .bool (JA t)]) R := by
 have h1 := Jaz ht
 have h2 := Jgf ht
 unfold WR at h2
 rw [WM]
 generalize JA t = b at h1 h2 ⊢
 generalize JO t = z at h2 ⊢
 obtain ⟨k, n, p, ins⟩ := t
 refine Ja Tryz.func165 rfl rfl fun w => MX fun r1 => ?_; refine Gi ?_; refine N2 ?_; refine Jb rfl rfl rfl Joj h1 oR (Gj ?_); refine cD (fun g => ?_) fun g => ?_
 refine Nw ?_; refine N2 ?_; refine Jb rfl rfl rfl Jok h2 oR (Jz 6 rfl (Nl fun w1 hs1 => ?_))
 simp_all [JC]
 ·refine KK 9 rfl (Nl fun w1 hs1 => ?_)
  simp_all [JC]
theorem Jvq {k n : Int} {p : Pl} {ins : List Ty} {pick : Int} (ht : Ty.In R (.mk k n p ins)) (hp8 : k = 8 → 0 ≤ pick) (hx : VQ k pick i < ins.length) : PureR Tryz.prog 231 [Ty.val (.mk k n p ins), .int .i64 pick, .int .i64 (i : Int)].toArray (J0 k pick ins i).val R := by
 have hty := Kw hx
 cases ht with
 | @mk k n p ins hk hn hlt hst hit =>
 obtain ⟨X, hX⟩ : ∃ X, X = J0 k pick ins i := ⟨_, rfl⟩
 rw [← hX] at hty ⊢; refine Ja Tryz.func231 rfl rfl fun w => Nd fun r1 r2 => ?_; refine Goc 16 [1] rfl rfl (cD (fun g => ?_) fun g => ?_)
 refine QZ 5 [1] rfl rfl (LR rfl (Jg (j := VQ k pick i) rfl hst rfl rfl rfl (by unfold VQ; rw [if_pos m9]) hx) (gr ?_)); refine Ga ?_; exact gh
 ·refine Nv ?_; refine cD (fun g => ?_) fun g => ?_
  refine QZ 5 [1] rfl rfl (LR rfl (Jg (j := VQ k pick i) rfl hst rfl rfl rfl (by unfold VQ; rw [if_neg m9, if_pos m9]; have := hp8 m9; omega) hx) (gr ?_)); refine Ga ?_; exact gh
  ·refine QZ 7 [1] rfl rfl (LR rfl (Jg (j := VQ k pick i) rfl hst rfl rfl rfl (by unfold VQ; rw [if_neg m9, if_neg m9]; rfl) hx) (gr ?_)); refine HX ?_; exact gh
def Kg (k : Int) (ins : List Ty) (m : Nat) : List Ty := (List.range m).map fun i => J0 k 0 ins i
theorem VF : ∀ a b : List Ty, JV (a ++ b) = JV a + JV b
 | [], b => by rw [List.nil_append, JV, Int.zero_add]
 | x :: xs, b => by rw [List.cons_append, JV, JV, VF xs b, Int.add_assoc]
theorem qJ (k : Int) (ins : List Ty) (i : Nat) : JV (Kg k ins (i + 1)) = JV (Kg k ins i) + Wx (J0 k 0 ins i) := by
 unfold Kg
 rw [List.range_succ, List.map_append, VF, List.map_cons, List.map_nil, JV, JV, Int.add_zero]
theorem Yd (x : Ty) : 1 ≤ Wx x ∧ Wx x ≤ 2251799813685248 := by
 unfold Wx
 split
 ·rename_i h
  obtain ⟨h1, h2⟩ := Wm.1 h
  have h3 := jp x 0 (Int.le_refl _) h1 h2
  have h4 := xT (show (5 - (0 : Int)).toNat ≤ 5 by decide)
  omega
 ·omega
theorem YX : ∀ l : List Ty, 0 ≤ JV l ∧ JV l ≤ 2251799813685248 * l.length
 | [] => by rw [JV]; simp
 | x :: xs => by
  have h1 := Yd x
  have h2 := YX xs
  rw [JV, List.length_cons]; omega
theorem VG (k : Int) (ins : List Ty) (m : Nat) : (Kg k ins m).length = m := by unfold Kg; rw [List.length_map, List.length_range]
def jz (r : Nat) (m : Int) : Nat × Obj := (r, .cells #[.int .i64 m] 3 (0, 0))
theorem Ja5 (t : Ty) (m : Int) : PureE (α := Nat × Nat) Tryz.prog 164 [t.val, .int .i64 m].toArray (fun p => .func (.func 230) #[] #[QR p.2, QR p.1]) (fun p => [jz p.2 m, Vs p.1 t]) := by
 obtain ⟨k, n, p, ins⟩ := t
 refine VB Tryz.func164 rfl rfl fun w => Nd fun r1 r2 => ?_; refine ND ?_; exact kC
def itV (k : Int) (ins : List Ty) (i : Nat) : List Value := [.int .i64 (i : Int), (J0 k 0 ins i).val]
theorem Jiw {k n : Int} {p : Pl} {ins : List Ty} (ht : Ty.In R (.mk k n p ins)) (hm : m ≤ 1000000) (hx : ∀ i, i < m → VQ k 0 i < ins.length) (rt ri : Nat) :
    xB Tryz.prog 230 [QR ri, QR rt] (jz ri m :: Vs rt (.mk k n p ins) :: R) 0 (nxN (itV k ins) m) (Jfi m) := by
  refine W9 Tryz.func230 rfl rfl fun q xids w2 XI XF hY => kj ?_; intro i hi; refine Nv ?_; refine cD (fun g => ?_) fun g => ?_
  · refine JE 11 rfl ?_
    have hil : i < m := by omega
    refine kI ?_; refine WP (XT := XI (i + 1)) (XF := XF) rfl rfl rfl rfl (hY i (itV k ins i) (i + 1) ⟨hil, rfl, rfl⟩) ?_ ?_
    all_goals (
     refine H2 ?_; refine JH rfl (fun g => ?_) (fun g => ?_)
     · try exact Bool.noConfusion g
       all_goals try simp only [ZZ] at g
       all_goals (
        exact N5
        skip)
     · try exact Bool.noConfusion g
       all_goals try simp only [ZZ] at g
       all_goals (
        refine kS ?_; refine Nf ?_; exact Nt
        skip)
     skip)
  · refine gn fun w1 hs1 => ?_
    obtain ⟨xs1, hx1⟩ := hs1.now
    exact ⟨⟨_, rfl⟩, hs1.keep, .inl ⟨i, _, (by show i = m; omega), hx1⟩⟩
theorem Jd8 {k n : Int} {p : Pl} {ins : List Ty} (ht : Ty.In R (.mk k n p ins)) (hm : m ≤ 600) (hx : ∀ i, i < m → VQ k 0 i < ins.length) : PureR Tryz.prog 163 [Ty.val (.mk k n p ins), .int .i64 (m : Int)].toArray (.int .i64 (JV (Kg k ins m))) R := by
 have hti := fun i h => ht.sub _ (Kw (hx i h)).2
 refine Ja Tryz.func163 rfl rfl fun w => MX fun r1 => ?_; refine ND ?_; refine LN rfl fun r2 => ?_
 refine Nm ?_; refine X6 7 [1] rfl rfl (Vx rfl rfl rfl Jol (Ja5 (.mk k n p ins) (m : Int)) fun pp => ?_)
 obtain ⟨ra, rb⟩ := pp
 change HL _ _ _ (jz rb m :: Vs ra (.mk k n p ins) :: _) _ _ _ _; refine NR ?_; refine YE [2, 0, 1, 3] (L' := [_, _, _, _]) m7 rfl ?_
 refine Xq (τ := Unit) (fun i (s : Nat) => i ≤ m ∧ i = s) (fun s => [(r2, .cells #[.int .i64 (JV (Kg k ins s))] 3 (0, 0))]) (fun _ _ => False) (fun _ => []) [jz rb m, Vs ra (.mk k n p ins), _] 0 rfl rfl Jor (Jiw ht m0 hx ra rb) mA rfl (fun q hq => by rcases List.mem_cons.1 hq with rfl | hq; exact .inl mf; rcases List.mem_cons.1 hq with rfl | hq; exact .inl mf; exact .inr hq) rfl ⟨Nat.zero_le _, rfl⟩ ?_ ?_ ?_
 rintro q Xr Xb w3 i _ _ s ⟨hii, rfl, rfl⟩ ⟨him, rfl⟩ Kr hKr; refine inR ?_
 have hti1 := hti i hii
 have hb1 := Yd (J0 k 0 ins i)
 have hb2 := YX (Kg k ins i)
 rw [VG] at hb2
 unfold itV
 refine H4 ?_; refine LN rfl fun r3 => NO ?_; refine gF ?_; clear hKr; refine GW ?_; refine N8 ?_; refine Jb rfl rfl rfl Jik (vZ hti1) (fun q hq => Or.inr (List.mem_append_right _ hq)) (JK 8 rfl (LR rfl (Je (v := .int .i64 (JV (Kg k ins i))) rfl (kn 1 rfl) rfl rfl) (NC ?_))); refine Jk (show _ = Value.int .i64 (JV (Kg k ins (i + 1))) from by rw [qJ]; exact congrArg (Value.int .i64) (wrap_i64 m0 m0)) (Kt (k := 1) (cs' := #[.int .i64 (JV (Kg k ins (i + 1)))]) rfl rfl rfl rfl rfl rfl rfl rfl rfl rfl (Gr ?_)); refine QU (i + 1) ⟨by omega, rfl⟩ rfl
 rintro D i s hfi ⟨him, rfl⟩
 obtain rfl : m = i := Eq.symm hfi
 refine gqo 4 rfl (LR rfl (Je (v := .int .i64 (JV (Kg k ins m))) rfl (kn 1 rfl) rfl rfl) (gJ ?_)); refine D0 ?_; exact Nc
 ·exact gp
theorem Jd9 (hl : s.length ≤ 1000000) : Pure Tryz.prog 114 [Jw s].toArray (Jw s.reverse) := by
 refine J8 Tryz.func114 rfl rfl fun w => GS ?_; refine XU rfl rfl rfl rfl rfl rfl fun rb kb => ?_
 obtain ⟨sp, hsp⟩ : ∃ sp, sp = List.replicate kb (Value.int .u8 0) := ⟨_, rfl⟩
 rw [← hsp]
 obtain ⟨fr, hfr⟩ : ∃ fr : Nat × Nat, fr = (s.length + kb, s.length + kb + 1) := ⟨_, rfl⟩
 rw [← hfr]
 have hfz : ∀ q, q < s.length → frB fr q = false := fun q hq => by rw [hfr]; simp [frB, Nat.blt, Nat.ble]; omega
 refine Gi ?_; refine kz ?_; refine V7 rfl (Jk (show _ = Value.int .i64 ((s.length : Int) - 1) from congrArg (Value.int .i64) (wrap_i64 m0 m0)) (JQ 5 rfl ?_)); refine Jy (σ := Nat) (fun i => 2 * i ≤ s.length + 1 ∧ 2 * i ≤ s.length) (fun i => [(3, .slice (some ⟨rb, 0, none⟩) s.length (s.length + kb)), (4, .int .i64 (i : Int)), (5, .int .i64 ((s.length : Int) - 1 - (i : Int)))]) (fun i => [(rb, .cells ((YW s i).map bV ++ sp).toArray 5 fr)]) (fun _ _ _ => True) (fun i => s.length - i) 0 ⟨by omega, by omega⟩ (.cons rfl (.cons rfl (.cons Mj .nil))) (List.Sublist.refl _) (fun _ _ h => h) ?_; rintro i ⟨hi1, hi2⟩; refine JE 8 rfl (cD (fun g => ?_) fun g => ?_)
 ·refine JE 4 rfl ?_
  have hii : i + 1 ≤ s.length - i := by omega
  obtain ⟨Y, hY⟩ : ∃ Y, Y = YW s i := ⟨_, rfl⟩
  have hYl : Y.length = s.length := by rw [hY]; exact Y2 s i
  refine NA ?_; refine Ji (k := 6) rfl rfl rfl rfl rfl (fun _ _ => Kc (j := (s.length - 1 - i)) (m := 1) (off' := (s.length - 1 - i)) rfl rfl rfl rfl m0 m0 m0) ?_; refine KG (k := 7) rfl rfl rfl rfl rfl (Je rfl (kn 0 rfl) rfl (jK (xs := Y.map bV) (v := bV (Y.getD (s.length - 1 - i) 0)) (Y1 m0))) ?_; refine NI ?_; refine ZY (k := 13) (q := 0) (cs' := ((Y.set i (Y.getD (s.length - 1 - i) 0)).map bV ++ sp).toArray) rfl rfl rfl rfl rfl rfl rfl rfl (hfz _ m0) nU (qi m0) rfl (fun _ h => nomatch h) ?_; refine Ji (k := 14) rfl rfl rfl rfl rfl (fun _ _ => Kc (j := (s.length - 1 - i)) (m := 1) (off' := (s.length - 1 - i)) rfl rfl rfl rfl m0 m0 m0) ?_; refine ZY (k := 15) (q := 0) (cs' := ((YW s (i + 1)).map bV ++ sp).toArray) rfl rfl rfl rfl rfl rfl rfl rfl (hfz _ m0) nU My rfl (fun _ h => nomatch h) ?_; refine Kk ?_; refine Gc ?_; refine Jh m0 m0 ?_; refine JK 2 rfl ?_; refine Jk (show _ = Value.int .i64 ((s.length : Int) - 1 - ((i + 1 : Nat) : Int)) from by rw [wrap_i64 m0 m0]; congr 1 <;> omega) ?_; exact GX
 ·refine Nv ?_; rw [Jd4 (xs := s) (i := i) m0 m0]; refine Nw ?_; refine LR rfl (vo (b := s.reverse) rfl (kn 0 rfl) (by rw [List.length_reverse]) nP rfl rfl rfl) ?_; exact Nz
theorem zV {b : UInt8} : (Y.map bV).toArray.setIfInBounds i (bV b) = ((Y.set i b).map bV).toArray := by
 rw [List.setIfInBounds_toArray, List.map_set]
theorem Jix (x : UInt8) (hm : m < 8) : Value.int .u8 ((x.toNat ||| 2 ^ m : Nat) : Int) = bV (UInt8.ofNat (x.toNat ||| 2 ^ m)) := Jha (Jvf (QC x) hm)
theorem Jpe (hm : m < 8) : IntKind.u8.wrap (1 * ((2 ^ m : Nat) : Int)) = ((2 ^ m : Nat) : Int) := by
 have h : 2 ^ m ≤ 128 := Nat.pow_le_pow_right (n := 2) (i := m) (j := 7) m7 m0
 generalize 2 ^ m = q at h ⊢
 rw [Int.one_mul]; exact xA m0 m0
theorem Jpf {l : List Bool} (hl : l.length ≤ 1000000) (eg : Enters Tryz.prog g) (hg : ∀ i, i < l.length → PureR Tryz.prog g (Value.int .i64 (i : Int) :: caps).toArray (.bool (l.getD i false)) R) :
  PureR Tryz.prog 116 [.int .i64 (l.length : Int), .func (.func g) #[] caps.toArray].toArray (Jw (VM l)) R := by
 obtain ⟨N, hN⟩ : ∃ N, N = (l.length + 7) / 8 := ⟨_, rfl⟩
 have hpB : VM l = KX l N l.length := by rw [hN]; rfl
 refine Ja Tryz.func116 rfl rfl fun w => gc ?_; refine gK fun rm => ?_; refine JQ 11 rfl (Jy (σ := Nat) (fun i => i ≤ l.length) (fun i => [(1, .func (.func g) #[] caps.toArray), (5, .slice (some ⟨rm, 0, none⟩) N N), (12, .int .i64 (l.length : Int)), (13, .int .i64 (i : Int))]) (fun i => [(rm, .cells ((KX l N i).map bV).toArray 5 (0, 0))]) (fun _ _ _ => True) (fun i => l.length - i) 0 (Nat.zero_le _) (lK rfl) (List.Sublist.refl _) (fun _ _ h => h) ?_); intro i hi1; refine Nv ?_; refine cD (fun h7 => ?_) fun h7 => ?_
 ·refine kX ?_
  have hil : i < l.length := by omega
  have hi8 : i / 8 < N := by omega
  refine Jt 9 rfl (Jb rfl rfl rfl eg (hg i hil) oR (Gj ?_)); refine cD (fun h11 => ?_) fun h11 => ?_
  ·have hbt : l.getD i false = true := by assumption
   have hst1 : KX l N (i + 1) = (KX l N i).set (i / 8) (UInt8.ofNat (((KX l N i).getD (i / 8) 0).toNat ||| 2 ^ (i % 8))) := by rw [KX, if_pos hbt]
   obtain ⟨Y, hY⟩ : ∃ Y, Y = KX l N i := ⟨_, rfl⟩
   have hYl : Y.length = N := by rw [hY]; exact Vy l N i
   rw [← hY] at hst1 ⊢
   refine kG ?_; refine VL (show _ = Value.int .i64 ((i / 8 : Nat) : Int) from congrArg (Value.int .i64) M8) (ku ?_); refine VL (show _ = Value.int .i64 ((i % 8 : Nat) : Int) from congrArg (Value.int .i64) M8) (Nu ?_); refine ND ?_; refine Nf ?_; exact Nt
  ·refine kS ?_; refine Nf ?_
   (have hst0 : KX l N (i + 1) = KX l N i := by rw [KX, if_neg mz]
    exact Jr (i + 1) m0 m0 (lK rfl) (by rw [hst0]; exact List.Sublist.refl _) (fun _ _ h => h))
 ·refine Nv ?_
  obtain rfl : i = l.length := by omega
  refine Nw ?_; refine LR rfl (Qq (b := KX l N l.length) (row := some (rm, N, [])) (e := 5) Mf ⟨by rw [List.length_map]; omega, by rw [Vy]; simp⟩ (fun p hp => .inl mE) rfl rfl rfl) (DG fun w1 hs1 => ?_); rw [hpB]; rfl
theorem J0d  {a : Nat} {bits : List Bool} {items : List Vl} {pick : Int} (hsb : Seg R bits.length (KL bits) pb) (hl : bits.length ≤ 9223372036854775807) (rv : Nat) (hi : i < bits.length) :
  PureR Tryz.prog 117 [.int .i64 (i : Int), QR rv].toArray (.bool (bits.getD i false)) (WE rv (.mk a b c d bits pb items pi pick) :: R) := by
 have hsb := hsb.mono (R' := WE rv (.mk a b c d bits pb items pi pick) :: R) fun q hq => List.mem_cons_of_mem _ hq
 have hy : bits[i]? = some (bits.getD i false) := by rw [List.getD_eq_getElem?_getD, List.getElem?_eq_getElem hi]; rfl
 generalize bits.getD i false = y at hy ⊢
 refine Ja Tryz.func117 rfl rfl fun w => GS ?_; refine G7 ?_; refine DJ ?_; exact Nz
theorem J0e  {a : Nat} {bits : List Bool} {items : List Vl} {pick : Int} (hsb : Seg R bits.length (KL bits) pb) (hl : bits.length ≤ 9223372036854775807) (rn rv : Nat) (hi : i < (bits ++ [true]).length) :
  PureR Tryz.prog 118 [.int .i64 (i : Int), QR rn, QR rv].toArray (.bool ((bits ++ [true]).getD i false)) (jz rn bits.length :: WE rv (.mk a b c d bits pb items pi pick) :: R) := by
 have hsb := hsb.mono (R' := jz rn bits.length :: WE rv (.mk a b c d bits pb items pi pick) :: R) fun q hq => List.mem_cons_of_mem _ (List.mem_cons_of_mem _ hq)
 rw [List.length_append] at hi; simp only [List.length_cons, List.length_nil] at hi
 by_cases he : i = bits.length
 have hv : (bits ++ [true]).getD i false = true := by rw [List.getD_eq_getElem?_getD, List.getElem?_append_right m0, he, Nat.sub_self]; rfl
 rw [hv]; refine Dm fun w => ?_; refine V7 rfl (Jk (show _ = Value.bool true from Jd6 (Jzz (by rw [he]))) (Jz 11 rfl ?_)); exact Nc
 ·have hy : bits[i]? = some (bits.getD i false) := by rw [List.getD_eq_getElem?_getD, List.getElem?_eq_getElem m0]; rfl
  have hv : (bits ++ [true]).getD i false = bits.getD i false := by rw [List.getD_eq_getElem?_getD, List.getElem?_append_left m0, List.getD_eq_getElem?_getD]
  rw [hv]
  generalize bits.getD i false = y at hy ⊢
  have hne : ((i : Int) == (bits.length : Int)) = false := by simp; omega
  refine Dm fun w => ?_; refine V7 rfl (Jk (show _ = Value.bool false from Jd6 (hne)) (JK 2 rfl ?_)); refine G8 ?_; refine DJ ?_; refine Ga ?_; exact Nc
theorem wa {k : Int} (h8 : k ≠ 8) (pick : Int) (ins : List Ty) (i : Nat) : J0 k pick ins i = J0 k 0 ins i := by
 unfold J0 VQ; split
 ·rfl
 ·simp [h8]
theorem Ja6 {k : Int} (h8 : k ≠ 8) (pick : Int) (ins : List Ty) : ∀ (l : List Vl) (i : Nat), Qj l k pick ins i = Qj l k 0 ins i
 | [], i => by rw [Qj, Qj]
 | x :: xs, i => by rw [Qj, Qj, Ja6 h8 pick ins xs (i + 1), wa h8]
theorem Jea {k : Int} (ins : List Ty) : ∀ (l : List Vl) (i : Nat), (Qj l k 0 ins i).map Prod.fst = (List.range' i l.length).map fun j => J0 k 0 ins j
 | [], i => by rw [Qj]; rfl
 | x :: xs, i => by
  rw [Qj, List.map_cons, Jea ins xs (i + 1), List.length_cons, List.range'_succ, List.map_cons]
theorem Jeb (k : Int) (ins : List Ty) (l : List Vl) : (Qj l k 0 ins 0).map Prod.fst = Kg k ins l.length := by
 rw [Jea]; unfold Kg; rw [List.range_eq_range']
theorem Jtv (A : List α) (x : α) (B : List α) : (A ++ x :: B).Perm (B ++ (A ++ [x])) := by
 rw [show A ++ x :: B = (A ++ [x]) ++ B by simp]; exact List.perm_append_comm
def zX (l : List (Ty × BS)) : Nat := (l.map fun p => p.2.length + 4).sum
theorem yy (p : Ty × BS) (l : List (Ty × BS)) : zX (p :: l) = p.2.length + 4 + zX l := by unfold zX; rw [List.map_cons, List.sum_cons]
theorem Ja7 : bOk [] none := ⟨⟨rfl, rfl⟩, fun _ => rfl⟩
set_option maxHeartbeats 1000000 in
theorem Jxb {k n : Int} {p : Pl} {ins : List Ty} {items : List Vl} (ht : Ty.In R (.mk k n p ins)) (hs : Seg R items.length (KC items) pi) (hl : items.length ≤ 600) (hx : ∀ i, i < items.length → VQ k 0 i < ins.length)
  (hb : ∀ (i : Nat) x, items[i]? = some x → PureR Tryz.prog 77 [(J0 k 0 ins i).val, x.val].toArray (Jw (Vz x (J0 k 0 ins i))) R) (hB : zX (Qj items k 0 ins 0) ≤ B) (hB2 : B ≤ 900000) :
  PureR Tryz.prog 119 [Ty.val (.mk k n p ins), Ky items.length pi].toArray (Jw (YV (JV (Kg k ins items.length)).toNat (Qj items k 0 ins 0) [] [])) R := by
 have hti := fun i h => ht.sub _ (Kw (hx i h)).2
 have hbg := Jd8 ht hl hx
 have hbl := YX (Kg k ins items.length)
 rw [VG] at hbl
 obtain ⟨H, hH⟩ : ∃ H, H = (JV (Kg k ins items.length)).toNat := ⟨_, rfl⟩
 have hHi : JV (Kg k ins items.length) = (H : Int) := by omega
 have hHb : H ≤ 1351079888211148800 := by omega
 rw [hHi] at hbg; rw [← hH]
 obtain ⟨TOT, hTOT⟩ : ∃ T, T = YV H (Qj items k 0 ins 0) [] [] := ⟨_, rfl⟩
 rw [← hTOT]; refine Ja Tryz.func119 rfl rfl fun w => Nd fun r1 r2 => ?_; refine ND ?_; refine LN rfl fun r3 => LN rfl fun r4 => X6 6 [3, 2] rfl rfl (Ni ?_); refine Jb rfl rfl rfl (enters_of Tryz.func163 m5 rfl) hbg oR (LN rfl fun r5 => ?_)
 refine Nm ?_; refine X6 7 [4, 3] rfl rfl (Ni ?_); refine Vx rfl rfl rfl Jol (Ja5 (.mk k n p ins) (items.length : Int)) fun pp => ?_
 obtain ⟨ra, rb⟩ := pp
 change HL _ _ _ (jz rb items.length :: Vs ra (.mk k n p ins) :: _) _ _ _ _; refine NR ?_; refine YE [4, 3, 0, 1, 2, 5, 6] (L' := [zj r3 [] none false, zj r4 [] none false, jz rb items.length, Vs ra (.mk k n p ins), _, _, _]) m7 rfl ?_
 refine Xq (τ := Unit) (fun i (s : BS × BS × Vg × Vg × Bool × Bool) => i ≤ items.length ∧ YV H (Qj (items.drop i) k 0 ins i) s.1 s.2.1 = TOT ∧ bOk s.1 s.2.2.1 ∧ bOk s.2.1 s.2.2.2.1 ∧ s.1.length + s.2.1.length + zX (Qj (items.drop i) k 0 ins i) ≤ B) (fun s => Xh r3 s.1 s.2.2.1 s.2.2.2.2.1 ++ Xh r4 s.2.1 s.2.2.2.1 s.2.2.2.2.2) (fun _ _ => False) (fun _ => []) [jz rb items.length, Vs ra (.mk k n p ins), _, _, _] ([], [], none, none, false, false) rfl rfl Jor (Jiw ht m0 hx ra rb) mA rfl (fun q hq => by rcases List.mem_cons.1 hq with rfl | hq; exact .inl mf; rcases List.mem_cons.1 hq with rfl | hq; exact .inl mf; exact .inr hq) rfl ⟨Nat.zero_le _, hTOT.symm, Ja7, Ja7, by simpa using hB⟩ ?_ ?_ ?_
 ·rintro q Xr Xb w3 i _ _ ⟨f, th, row1, row2, own1, own2⟩ ⟨hii, rfl, rfl⟩ ⟨him, hinv, hb1, hb2, hlen⟩ Kr hKr; refine inR ?_
  simp only at hinv hb1 hb2 hlen
  have hti1 := hti i hii
  have hix := Yc hii
  have hbi := hb i _ hix.1
  rw [Yv hix.1, Qj, YV] at hinv; rw [Yv hix.1, Qj, yy] at hlen
  obtain ⟨S, hS⟩ : ∃ S, S = Vz (Yb items i) (J0 k 0 ins i) := ⟨_, rfl⟩
  simp only [← hS] at hinv hlen; rw [← hS] at hbi
  have hle4 := Jdy (H + th.length)
  unfold itV
  refine gY ?_; refine Ql (cs := #[.int .i64 0, .int .i64 0, .slice none 0 0]) rfl rfl rfl rfl fun r9 => NO ?_; refine gF ?_; clear hKr; refine JE 2 rfl (JX 7 m5 m5 (Jc rfl rfl rfl (Jm (xs := (J0 k 0 ins i).cells) (n := 3) rfl (kn 0 rfl) rfl rfl (J0 k 0 ins i).len) (Jc rfl rfl rfl (Je (v := Ky items.length pi) rfl (JB (k := 3) rfl) rfl rfl) (MY ?_))))
  refine H1 ?_; refine Jc rfl rfl rfl (Qe (fun q hq => Or.inr (List.mem_append_right _ hq)) rfl hs hix.1 rfl rfl) (WQ rfl rfl rfl Jwz hbi (fun q hq => Or.inr (List.mem_append_right _ hq)) (NW ?_)); refine ND ?_; refine N8 ?_; refine Jb rfl rfl rfl Jik (vZ hti1) (fun q hq => Or.inr (List.mem_append_right _ hq)) (JQ 12 rfl (cD (fun g => ?_) fun g => ?_))
  refine GW ?_; refine Vv (T := Xh r3 f row1 own1) (L0 := (r9, .cells (J0 k 0 ins i).cells.toArray 76 (0, 0)) :: Xh r4 th row2 own2) (Rl := []) List.perm_middle.symm rfl rfl rfl Jih (vY hb1 (s2 := S) m0) oN fun x => ?_
  obtain ⟨row1x, hb1x⟩ := x
  refine Ga ?_
  (rw [if_pos m9] at hinv
   refine ZU (L' := Xh r3 (f ++ S) row1x true ++ Xh r4 th row2 own2) ((List.Sublist.refl _).append (.cons _ (List.Sublist.refl _))) ?_
   exact QU (f ++ S, th, row1x, row2, true, own2) ⟨by omega, hinv, hb1x, hb2, by simp only [List.length_append]; omega⟩ rfl)
  ·refine Gw ?_; refine JX 10 m5 m5 (Jc rfl rfl rfl (Je (v := .int .i64 (H : Int)) rfl (JB (k := 2) rfl) rfl rfl) (WQ rfl rfl rfl (enters_of Tryz.func102 m5 rfl) (Jw9 r4 own2 hb2) (fun q hq => Or.inl (by rw [List.mem_singleton.1 hq]; exact List.mem_cons_of_mem _ (List.mem_append_right _ List.mem_cons_self))) ?_))
   refine N1 ?_; refine Qc (show _ = Value.int .i64 ((H + th.length : Nat) : Int) from by rw [wrap_i64 m0 m0]; congr 1 <;> omega) ?_; refine N1 ?_; refine Qc (show _ = uV (H + th.length) from congrArg (Value.int .u64) (wrap_u64 m0 m0)) ?_; refine Qt rfl rfl rfl (enters_of Tryz.func166 m5 rfl) (Jdw (n := H + th.length) m0 4) ?_; refine HH ?_; refine ND ?_; refine Vv (T := Xh r3 f row1 own1) (L0 := (r9, .cells (J0 k 0 ins i).cells.toArray 76 (0, 0)) :: Xh r4 th row2 own2) (Rl := []) List.perm_middle.symm rfl rfl rfl Jih (vY hb1 (s2 := (zS (H + th.length) 4).1) m0) oN fun x => ?_
   obtain ⟨row1x, hb1x⟩ := x
   refine GV ?_; refine Vv (T := Xh r4 th row2 own2) (L0 := Xh r3 (f ++ (zS (H + th.length) 4).1) row1x true ++ [(r9, .cells (J0 k 0 ins i).cells.toArray 76 (0, 0))]) (Rl := []) (Jtv _ _ _) rfl rfl rfl Jih (vY hb2 (s2 := S) m0) oN fun x => ?_
   obtain ⟨row2x, hb2x⟩ := x
   refine Jz 2 rfl ?_
   (rw [if_neg Mz] at hinv
    refine xD List.perm_append_comm (ZU (L' := Xh r3 (f ++ (zS (H + th.length) 4).1) row1x true ++ Xh r4 (th ++ S) row2x true) ((List.sublist_append_left _ _).append (List.Sublist.refl _)) ?_)
    exact QU (f ++ (zS (H + th.length) 4).1, th ++ S, row1x, row2x, true, true) ⟨by omega, hinv, hb1x, hb2x, by simp only [List.length_append]; omega⟩ rfl)
 rintro D i ⟨f, th, row1, row2, own1, own2⟩ hfi ⟨him, hinv, hb1, hb2, hlen⟩
 simp only at hinv hb1 hb2 hlen
 have hin : i = items.length := hfi
 rw [hin, List.drop_length, Qj, YV] at hinv; refine gqo 4 rfl (Vv (T := Xh r3 f row1 own1) (L0 := _ :: (Xh r4 th row2 own2 ++ [jz rb items.length, Vs ra (.mk k n p ins), _, _, _])) (Rl := []) (by rw [List.append_assoc]; exact List.perm_middle.symm) rfl rfl rfl Joe (Jgm hb1 m0) oN fun u1 => Vv (T := Xh r4 th row2 own2) (L0 := _ :: [jz rb items.length, Vs ra (.mk k n p ins), _, _, _]) (Rl := []) List.perm_middle.symm rfl rfl rfl Joe (Jgm hb2 m0) oN fun u2 => LR rfl (VD (a := f) (b := th) rfl rfl m0) (gJ ?_)); refine D0 ?_; refine NP fun w1 hs1 => ?_; exact ⟨by rw [← hinv]; rfl, hs1.keep⟩
 ·exact gp
theorem Xt {a : Nat} {bits : List Bool} {items : List Vl} {pick k n : Int} {p : Pl} {ins : List Ty} (h : Kz (.mk a b c d bits pb items pi pick) (.mk k n p ins) = 0) :
  ¬ ((k = 4 ∧ n < items.length) ∨ (k = 6 ∧ n < bits.length)) ∧ zO k n ins.length (.mk a b c d bits pb items pi pick) = true ∧ Qx items k pick ins 0 = 0 := by
 rw [Kz] at h
 split at h
 ·cases h
 ·rename_i h1
  split at h
  ·cases h
  ·rename_i h2
   exact ⟨h1, by simpa using h2, h⟩
theorem Wy : ∀ {l : List Vl} {k pick : Int} {ins : List Ty} {i j : Nat} {x : Vl}, Qx l k pick ins i = 0 → l[j]? = some x → Kz x (J0 k pick ins (i + j)) = 0
 | [], _, _, _, _, _, _, _, h => by simp at h
 | y :: ys, k, pick, ins, i, j, x, h0, h => by
  rw [Qx] at h0
  split at h0
  ·rename_i h1
   cases j with
   | zero => simp at h; subst h; exact h1
   | succ j =>
    rw [List.getElem?_cons_succ] at h
    have := Wy h0 h
    rwa [show i + 1 + j = i + (j + 1) by omega] at this
  ·rename_i h1; exact absurd h0 h1
theorem Jpg : ∀ {l : List Vl} {x : Vl}, x ∈ l → wV x ≤ wL l
 | y :: ys, x, h => by
  rw [wL]
  rcases List.mem_cons.1 h with rfl | h
  ·omega
  ·have := Jpg h; omega
theorem Jgn {a : Nat} {bits : List Bool} {items : List Vl} {pick : Int} {x : Vl} (h : x ∈ items) : wV x ≤ wV (.mk a b c d bits pb items pi pick) := by
 have := Jpg h
 rw [wV]; omega
theorem Jec (items : List Vl) (k pick : Int) (ins : List Ty) : ∀ (l : List Vl) (i : Nat), zX (Qj l k pick ins i) ≤ 40 * wL l
 | [], i => by rw [Qj, wL]; exact Nat.zero_le _
 | x :: xs, i => by
  rw [Qj, wL, yy]
  have h1 := yv x (J0 k pick ins i)
  have h2 := Jec items k pick ins xs (i + 1)
  simp only
  omega
theorem Jk5 {z : Int} (h1 : 0 ≤ z) (h2 : z < 256) : Value.int .u8 (IntKind.u8.wrap z) = bV (UInt8.ofNat z.toNat) := by
 rw [xA h1 m0, ← Jha m0, Int.toNat_of_nonneg h1]
theorem Jtw {l : List Vl} {k pick : Int} {ins : List Ty} (h : l.length = 1) : ((Qj l k pick ins 0).headD (default, [])).2 = Vz (Yb l 0) (J0 k pick ins 0) := by
 match l, h with
 | [x], _ => rw [Qj]; rfl
theorem Jed {a : Nat} {bits : List Bool} {items : List Vl} {pick k n : Int} {p : Pl} {ins : List Ty} (hc : Va (.mk k n p ins) dp = 0) (h : Kz (.mk a b c d bits pb items pi pick) (.mk k n p ins) = 0) :
  items.length ≤ 512 ∧ bits.length ≤ 512 ∧ (k = 1 → 1 ≤ n ∧ n ≤ 32) ∧ (k = 8 → items.length = 1 ∧ 0 ≤ pick ∧ pick < ins.length ∧ ins.length ≤ 8) := by
 obtain ⟨h1, h2, _⟩ := Xt h
 obtain ⟨hk, hf, _, _⟩ := Qv hc
 rw [Qw k n ins.length a b c d bits pb items pi pick _ rfl] at h2; simp only [Qn] at h2
 unfold JG at hf
 have h9 : k = 1 ∨ k = 2 ∨ k = 3 ∨ k = 4 ∨ k = 5 ∨ k = 6 ∨ k = 7 ∨ k = 8 := by omega
 rcases h9 with rfl | rfl | rfl | rfl | rfl | rfl | rfl | rfl
 all_goals generalize items.length = I at *
 all_goals generalize bits.length = J at *
 all_goals generalize ins.length = K at *
 all_goals simp at h1 h2 hf ⊢
 all_goals omega
section
variable {c : Cx} {l : Ko} {L E : Jj} {X : XP} {Q : Exit → Act → World → Prop} {d : List Deferred}
variable {ops : Array Oper} {rest : List Nat} {i k : Nat} {v : Value} {o : Oper} {tb : jS} {S : Jj} {T : Jj → Act → Prop}
theorem Vb {t : TypeId} {n : Nat} {vs : Ko} {r zs : List Value} {z : Value} (hk : W1 ops.toList k = some ⟨some i, .buildSlice t n pa.toArray, ty, ps, af, gd⟩) (hg : Kp l ops ⟨some i, .buildSlice t n pa.toArray, ty, ps, af, gd⟩ = some true) (hi : Nat.ble (i + 1) c.n = true)
  (hA : tb k = .grow (V1 (slV n) (.cells r.toArray e (0, 0))))
  (hp : WI l pa = some vs) (ht : Ks c.P t = some e) (hz : QL c.P e = some z) (hs : KQ c.P e = some sz) (hzs : z.cells.size = sz) (hb : Nat.ble (n * sz) 16777216 = true) (h0 : Nat.ble 1 (n * sz) = true)
  (hmk : (madeCells z.cells (n * sz)).toList = zs) (hf : Zc (fun i => some (i * sz, sz)) zs (QE vs) = some r)
  (h : ∀ q, HB c d ((i, .slice (some ⟨q, 0, none⟩) n n) :: l) ((q, .cells r.toArray e (0, 0)) :: E) X S ops tb rest T) : HB c d l E X S ops tb (k :: rest) T :=
 Jm4 (V := slV n) hk hg rfl hi hA (fun a w hfr => by
  have h1 := Vp hfr hp
  have h2 : (pa.toArray.map fun (p : Nat × Operand) => (p.1, a.eval p.2)) = vs.toArray := by
   apply Array.toList_inj.1; rw [Array.toList_map]; simpa using h1
  rw [Qz] at hf; subst hmk
  have h3 := VA ht hz hs hzs (Nat.le_of_ble_eq_true hb) (Nat.le_of_ble_eq_true h0) hf w
  rw [← h2] at h3; refine Gl ?_
  have h4 : (Instr.buildSlice t n (pa.toArray.map fun (i, x) => (i, a.eval x))).run c.P w = .ok (.slice (some ⟨w.heap.size, 0, none⟩) n n) (w.alloc (.cells r.toArray e)) := h3
  rw [h4]; rfl) h
end
section
variable {a b c d : Nat} {bits : List Bool} {pb : Pl} {items : List Vl} {pi : Pl} {pick k n : Int} {p : Pl} {ins : List Ty}
theorem QV : Vz (.mk a b c d bits pb items pi pick) (.mk k n p ins) = if k = 1 then leW [a, b, c, d] n.toNat else if k = 2 then leW [a, b, c, d] 1 else if k = 5 then VM bits else if k = 6 then VM (bits ++ [true])
  else if k = 8 then UInt8.ofNat pick.toNat :: ((Qj items k pick ins 0).headD (default, [])).2 else YV (JV ((Qj items k pick ins 0).map Prod.fst)).toNat (Qj items k pick ins 0) [] [] := by rw [Vz]; rfl
end
set_option maxHeartbeats 1000000 in
theorem Jtx (hv : v.In R) : ∀ (t : Ty) (dp : Int), t.In R → Va t dp = 0 → Kz v t = 0 → wV v ≤ 20000 → PureR Tryz.prog 77 [t.val, v.val].toArray (Jw (Vz v t)) R := by
 induction hv with
 | @mk a b c d bits pb items pi pick ha hb hc hd hlb hsb hl hs hp hi ih =>
 intro t dp ht hck hfit hw
 have ht0 := ht
 cases ht with
 | @mk k n p ins hk hn hlt hst hit =>
 obtain ⟨hk8, ho, h6, hci⟩ := Qv hck
 obtain ⟨hf1, hf2, hf3⟩ := Xt hfit
 obtain ⟨m1, m2, m3, m4⟩ := Jed hck hfit
 have hxl : ∀ i, i < items.length → VQ k pick i < ins.length := fun i hi => qI (v := .mk a b c d bits pb items pi pick) hck hf2 hi
 have hwd : WOk [a, b, c, d] := ⟨rfl, fun x hx => by simp at hx; rcases hx with rfl | rfl | rfl | rfl <;> assumption⟩
 have hfx := YU hwd
 have hlen32 : (ZO [a, b, c, d] 32).reverse.length = 32 := by rw [List.length_reverse, We]
 have hpt := Jd9 (s := ZO [a, b, c, d] 32) (by rw [We]; decide)
 have hle : ∀ m, leW [a, b, c, d] m = ((ZO [a, b, c, d] 32).reverse.take m).drop 0 := fun m => by rw [List.drop_zero]; rfl
 have hrow : ¬ k = 1 → ¬ k = 2 → ¬ k = 5 → ¬ k = 6 → ¬ k = 8 → PureR Tryz.prog 119 [Ty.val (.mk k n p ins), Ky items.length pi].toArray (Jw (Vz (.mk a b c d bits pb items pi pick) (.mk k n p ins))) R := fun h1 h2 h5 h6 h8 => by
  have hx0 : ∀ i, i < items.length → VQ k 0 i < ins.length := fun i hi => by have := hxl i hi; unfold VQ at this ⊢; rw [if_neg h8] at this ⊢; exact this
  have hwl : wL items ≤ wV (.mk a b c d bits pb items pi pick) := by rw [wV]; omega
  have := Jxb (B := 800000) ht0 hs m0 hx0 (fun i x hxi => by
   have hm := List.mem_of_getElem? hxi
   have hlt3 := (List.getElem?_eq_some_iff.1 hxi).1
   have hty := (Kw (hx0 i hlt3)).2
   have hg := Wy hf3 hxi
   rw [Nat.zero_add, wa h8] at hg
   exact ih x hm _ (dp + 1) (hit _ hty) (hci _ hty) hg (Nat.le_trans (Jgn hm) hw)) (by have := Jec items k 0 ins items 0; omega) m7
  rw [QV, if_neg h1, if_neg h2, if_neg h5, if_neg h6, if_neg h8, Ja6 h8, Jeb]; exact this
 refine Ja Tryz.func77 rfl rfl fun w => Nd fun r1 r2 => ?_; refine X6 7 [0] rfl rfl (LR rfl (Jq rfl hsb rfl) (HT fun r3 => ?_)); refine Goc 16 [2] rfl rfl (cD (fun h6 => ?_) fun h6 => ?_)
 refine GL ?_
 have hn1 := m3 m9
 refine JX 8 m5 m5 ?_
 refine Jc rfl rfl rfl (J5 rfl rfl rfl) (Jc rfl rfl rfl (Jo (vs := [_, _, _, _]) rfl (kn 1 rfl) rfl rfl rfl rfl) (Qt rfl rfl rfl Jii hfx (Qt rfl rfl rfl Jog hpt ?_)))
 refine Jc rfl rfl rfl (J5 rfl rfl rfl) (Jc rfl rfl rfl (Je rfl (kn 2 rfl) rfl rfl) (Jc rfl rfl rfl (KV (kl := none) (kh := some (.i64, n)) (m := 0) (n := n.toNat) rfl rfl rfl rfl rfl (by show n = ((n.toNat : Nat) : Int); omega) (Nat.zero_le _) (by rw [hlen32]; omega) rfl) ?_)); rw [← hle]; refine NW ?_; refine Ga ?_; refine MW fun w1 hs1 => ?_; rw [QV, if_pos m9]; rfl
 ·refine Nv ?_; refine cD (fun g => ?_) fun g => ?_
  refine QZ 4 [1] rfl rfl (J6 rfl rfl rfl Jii hfx (J6 rfl rfl rfl Jog hpt (LR rfl (KV (kl := none) (kh := some (.i64, 1)) (m := 0) (n := 1) rfl rfl rfl rfl rfl (by show (1 : Int) = ((1 : Nat) : Int); omega) (Nat.zero_le _) (by rw [hlen32]; omega) rfl) ?_))); rw [← hle]; refine Jz 6 rfl (MW fun w1 hs1 => ?_); rw [QV, if_neg m9, if_pos m9]; rfl
  ·refine Nv ?_; refine cD (fun g => ?_) fun g => ?_
   refine Nw ?_; refine LR rfl (Je rfl (kn 0 rfl) rfl rfl) (gZ ?_); refine Jb (Rl := WE r2 (.mk a b c d bits pb items pi pick) :: R) rfl rfl rfl (enters_of Tryz.func116 m5 rfl) (Jpf (caps := [QR r2]) m0 (enters_of Tryz.func117 m5 rfl) (fun i hi => J0d hsb m0 r2 hi)) (fun q hq => (List.mem_cons.1 hq).elim (fun h => .inl (by rw [h]; exact List.mem_cons_of_mem _ List.mem_cons_self)) .inr) (Jz 6 rfl (MW fun w1 hs1 => ?_)); rw [QV, if_neg m9, if_neg m9, if_pos m9]; rfl
   ·refine Nv ?_; refine cD (fun g => ?_) fun g => ?_
    refine kK ?_; refine Jk (show _ = Value.int .i64 (((bits ++ [true]).length : Nat) : Int) from by rw [wrap_i64 m0 m0]; congr 1; rw [List.length_append]; rfl) (gZ ?_)
    refine Jb (Rl := jz r3 bits.length :: WE r2 (.mk a b c d bits pb items pi pick) :: R) rfl rfl rfl (enters_of Tryz.func116 m5 rfl) (Jpf (caps := [QR r3, QR r2]) (by rw [List.length_append]; simp; omega) (enters_of Tryz.func118 m5 rfl) (fun i hi => J0e hsb m0 r3 r2 hi)) (fun q hq => by rcases List.mem_cons.1 hq with rfl | hq; exact .inl List.mem_cons_self; rcases List.mem_cons.1 hq with rfl | hq; exact .inl (List.mem_cons_of_mem _ List.mem_cons_self); exact .inr hq) ?_; refine Jz 6 rfl ?_; refine MW fun w1 hs1 => ?_; rw [QV, if_neg m9, if_neg m9, if_neg m9, if_pos m9]; rfl
    ·refine Nv ?_; refine cD (fun g => ?_) fun g => ?_
     refine GL ?_
     have hk0 : k = 8 := by assumption
     have h81 := (m4 hk0).1
     have hx8 := Yc (l := items) (i := 0) m0
     have hty8 := Kw (hxl 0 m0)
     have hix8 : VQ k pick 0 = pick.toNat := by unfold VQ; rw [if_neg m0, if_pos hk0]
     rw [hix8] at hty8
     have hg8 := Wy hf3 hx8.1
     have hw8 := Nat.le_trans (Jgn (a := a) (b := b) (c := c) (d := d) (bits := bits) (pb := pb) (pi := pi) (pick := pick) hx8.2) hw
     have hrec := ih _ hx8.2 (J0 k pick ins 0) (dp + 1) (hit _ hty8.2) (hci _ hty8.2) hg8 hw8
     have hpl8 := yv (Yb items 0) (J0 k pick ins 0)
     refine JJ [] [(0, .pure), (2, .pure), (3, .grow (V1 (slV 1) (.cells #[bV (UInt8.ofNat pick.toNat)] 5 (0, 0)))), (5, .pure), (7, .pure), (9, .pure), (11, .pure), (13, .pure), (16, .pure), (17, .pure)] 18 [0, 1, 2, 5, 6, 7, 8, 9, 10, 11, 12, 13, 14, 15, 3, 4, 16, 17] m5 m5 m6 ?_
     refine Hs ?_; refine Ji (k := 2) rfl rfl rfl rfl rfl (fun _ hS => (J1 rfl rfl rfl)) (VL (show _ = bV (UInt8.ofNat pick.toNat) from Jk5 (m4 m9).2.1 MA) ?_)
     refine Ji (k := 5) rfl rfl rfl rfl rfl (fun _ hS => (J5 rfl rfl rfl)) (KG (k := 6) rfl rfl rfl rfl rfl (Je rfl (kn 2 rfl) rfl rfl) ?_)
     refine Gk ?_; refine KG (k := 8) rfl rfl rfl rfl rfl (Je rfl (kn 1 rfl) rfl rfl) (Ji (k := 9) rfl rfl rfl rfl rfl (fun _ hS => (Jg (j := pick.toNat) rfl hst rfl rfl rfl MA MA)) (KG (k := 10) rfl rfl rfl rfl rfl (Kj oR rfl hst hty8.1 rfl rfl) ?_))
     refine HU ?_; refine KG (k := 12) rfl rfl rfl rfl rfl (Je rfl (kn 1 rfl) rfl rfl) ?_
     refine Ji (k := 13) rfl rfl rfl rfl rfl (fun _ hS => (Jg (j := 0) rfl hs rfl rfl rfl mg m0)) (KG (k := 14) rfl rfl rfl rfl rfl (Qe oR rfl hs hx8.1 rfl rfl) (KR (k := 15) rfl rfl rfl rfl rfl Jwz hrec oR (Vb (k := 3) (n := 1) (sz := 1) (vs := [_]) (zs := [_]) (r := [bV (UInt8.ofNat pick.toNat)]) rfl rfl rfl rfl rfl rfl rfl rfl rfl rfl rfl mj rfl fun rv => KG (k := 4) rfl rfl rfl rfl rfl (Qq (b := [UInt8.ofNat pick.toNat]) (row := some (rv, 1, [])) (e := 5) rfl ⟨rfl, rfl⟩ (fun p hp => .inl nJ) rfl rfl rfl) (Ji (k := 16) rfl rfl rfl rfl rfl (fun _ hS => (VD (a := [UInt8.ofNat pick.toNat]) (b := Vz (Yb items 0) (J0 k pick ins 0)) rfl rfl (by simp only [List.length_cons, List.length_nil]; omega))) (Ji (k := 17) rfl rfl rfl rfl rfl (fun _ hS => (JP rfl)) (Kk (Ga ?_))))))); refine MW fun w1 hs1 => ?_; rw [QV, if_neg m9, if_neg m9, if_neg m9, if_neg m9, if_pos m9, Jtw h81]; rfl
     ·refine kS ?_; refine Gp ?_
      refine LS 2 [1] rfl rfl (Jb rfl rfl rfl (enters_of Tryz.func119 m5 rfl) (hrow m9 m9 m9 m9 m9) oR (DG fun w1 hs1 => ?_))
      rfl
theorem YY (h : V3 t v = 0) : Va t 0 = 0 ∧ Kz v t = 0 := by
 unfold V3 at h
 split at h
 ·rename_i h1; exact ⟨h1, h⟩
 ·rename_i h1; exact absurd h h1
theorem Jty (t : Ty) (h : wV v ≤ 20000) : (Vz v t).length ≤ 800000 := by have := yv v t; omega
theorem Jph (ht : t.In R) (hv : v.In R) (hw : wV v ≤ 20000) : PureR Tryz.prog 52 [t.val, v.val].toArray (jy (qf t v)) R := by
 have h1 := Jo2 ht hv
 have h2 := fun h => Jtx hv t 0 ht (YY (t := t) (v := v) h).1 (YY h).2 hw
 have hlb := Jty t hw
 unfold qf
 generalize V3 t v = e at h1 h2 ⊢
 generalize Vz v t = s at h2 hlb ⊢
 obtain ⟨k, n, p, ins⟩ := t
 obtain ⟨a, b, c, d, bits, pb, items, pi, pick⟩ := v
 refine Ja Tryz.func52 rfl rfl fun w => Nd fun r1 r2 => ?_; refine X6 9 [1, 0] rfl rfl (Jb rfl rfl rfl (enters_of Tryz.func76 m5 rfl) h1 oR (HW ?_)); refine cD (fun g => ?_) fun g => ?_
 exact DL
 ·refine QZ 6 [1, 0] rfl rfl (Jb rfl rfl rfl Jwz (h2 m0) oR (Gi ?_)); refine DK ?_; refine cD (fun g => ?_) fun g => ?_
  refine GD ?_; refine Nl fun w1 hs1 => ?_; rw [if_neg m0, if_pos m0]; rfl
  ·refine KK 10 rfl (Nl fun w1 hs1 => ?_); rw [if_neg m0, if_neg m0]; rfl
theorem Jpi {k n : Int} {p : Pl} {ins : List Ty} (ht : Ty.In R (.mk k n p ins)) (hv : v.In R) (h8 : k ≠ 8) (hm : m ≤ 600) (hx : ∀ i, i < m → VQ k 0 i < ins.length) : PureR Tryz.prog 121 [Ty.val (.mk k n p ins), v.val, .int .i64 (m : Int)].toArray (.int .i64 (JV (Kg k ins m))) R := by
 have hti := fun i h => ht.sub _ (Kw (hx i h)).2
 have hin := fun i (h : i < m) => yq (v := v) (i := i) (y := J0 k 0 ins i) ht hv (fun e => absurd e h8) (by have := (Kw (hx i h)).1; unfold VQ at this ⊢; rw [if_neg h8] at this ⊢; exact this)
 obtain ⟨a, b, c, d, bits, pb, items, pi, pick⟩ := v
 refine Ja Tryz.func121 rfl rfl fun w => Nd fun r1 r2 => ?_; refine JQ 15 rfl (Jy (σ := Nat) (fun i => i ≤ m) (fun i => [(2, .int .i64 (m : Int)), (3, QR r1), (4, QR r2), (7, .int .i64 (JV (Kg k ins i))), (8, .int .i64 (i : Int))]) (fun _ => [WE r2 (.mk a b c d bits pb items pi pick), Vs r1 (.mk k n p ins)]) (fun _ _ _ => True) (fun i => m - i) 0 (Nat.zero_le _) (lK rfl) (List.Sublist.refl _) (fun _ _ h => h) ?_); intro i hi1; change HC _ _ _ ((r2, _) :: (r1, _) :: []) _ _ _; refine JE 8 rfl (cD (fun g => ?_) fun g => ?_)
 ·refine kX ?_
  have hil : i < m := by omega
  have hb1 := Yd (J0 k 0 ins i)
  have hb2 := YX (Kg k ins i)
  rw [VG] at hb2; refine QZ 4 [1, 0] rfl rfl (Jb rfl rfl rfl Joh (hin i hil) oR (Ql (cs := #[.int .i64 0, .int .i64 0, .slice none 0 0]) rfl rfl rfl rfl fun r9 => NO ?_)); refine GV ?_; refine N8 ?_; refine Jb rfl rfl rfl zM (Wl (hti i hil)) oR (Gj ?_); refine cD (fun g => ?_) fun g => ?_
  ·refine Nw ?_; refine N8 ?_; refine Jb rfl rfl rfl Jdf (XG (hti i hil)) oR (V7 rfl (Jk (show _ = Value.int .i64 (JV (Kg k ins (i + 1))) from by rw [qJ, WM, if_pos m9]; unfold WR; rw [if_pos m9]; exact congrArg (Value.int .i64) (wrap_i64 MH MH)) (Gi ?_))); exact Gd
  ·refine GW ?_; refine Jk (show _ = Value.int .i64 (JV (Kg k ins (i + 1))) from by rw [qJ, WM, if_neg Mz]; exact congrArg (Value.int .i64) (wrap_i64 m0 m0)) (Gi ?_); exact Gd
 ·refine Nv ?_
  obtain rfl : m = i := by omega
  refine KK 6 rfl ?_; exact Nc
section
variable {c : Cx} {l : Ko} {L : Jj} {X : XP} {d : List Deferred} {i : Nat} {ps : String} {af : Array Edge} {gd : Option (Nat × Bool)} {ty : TypeId}
theorem Jee {x : Operand} {b : List UInt8} {off n : Nat} {e src dst : TypeId} (hx : Kh l x = some (.slice (some ⟨r, off, none⟩) n cap)) (hk : known c L r (.cells cs e fr)) (hn : n = b.length) (ht : (cs.toList.drop off).take b.length = b.map bV)
  (hs : Ks c.P src = some e) (he : c.P.underlying e = some (.int .u8)) (hd : wt c.P dst = true) :
  J9 c d l L X ⟨some i, .convert src dst x, ty, ps, af, gd⟩ (.string (bs b)) := fun a' w hf hst => by
 subst hn; simp only [execOp]; rw [hf.eval hx]
 have hget := hst.known hk
 have hl : (loadCells ⟨r, off, none⟩ (b.map bV).length).run c.P w = .ok (b.map bV).toArray w := run_loadCells_list w ⟨r, off, none⟩ (b.map bV) fun j v hj => by
  have hlt := (List.getElem?_eq_some_iff.1 hj).1
  rw [List.length_map] at hlt
  have hj2 : cs[off + j]? = some v := by
   rw [← ht, List.getElem?_take, if_pos hlt, List.getElem?_drop] at hj
   simpa using hj
  rw [jJ, Wn hget]; exact hj2
 rw [List.length_map] at hl; simp only [Sem.run_bind]; rw [run_convert_bytes_string w src dst e _ _ _ (Ki hs) he (Vq hd)]; rw [run_bytesToString w _ _ _ (b.map fun x => ((x.toNat : Nat) : Int)) Mm]
 have := ZN b []
 rw [show (bs [] : ByteArray) = ByteArray.empty from rfl] at this; rw [this]
 rfl
end
def XH (s : BS) (i : Nat) : BS := (s.drop (32 * i)).take 32
def Ja8 (s : BS) : Nat := (s.length + 31) / 32
def yz (s : BS) (m : Nat) : List BS := (List.range m).map fun i => Wu (XH s i)
def YZ (s : BS) : List BS := yz s (Ja8 s)
theorem Jpj (s : BS) (m : Nat) : (yz s m).length = m := by unfold yz; rw [List.length_map, List.length_range]
theorem Z0 (s : BS) : (YZ s).length = Ja8 s := Jpj _ _
theorem Za (s : BS) (i : Nat) : (XH s i).length = min 32 (s.length - 32 * i) := by unfold XH; rw [List.length_take, List.length_drop]
theorem Jk6 (s : BS) (i : Nat) : WL (yz s (i + 1)) = WL (yz s i) ++ [Jw (Wu (XH s i))] := by
 unfold yz
 rw [List.range_succ, List.map_append, List.map_cons, List.map_nil, Zz]
theorem ja (s : BS) : ∀ x ∈ YZ s, x.length = 32 := by
 intro x hx
 unfold YZ yz at hx
 obtain ⟨i, _, rfl⟩ := List.mem_map.1 hx
 exact VX (by rw [Za]; omega)
theorem Jpk (s : BS) (i : Nat) (sp : List Value) : ((s.map bV ++ sp).toArray.toList.drop (32 * i)).take (XH s i).length = (XH s i).map bV := by
 simp only [List.toList_toArray]; rw [Za]
 by_cases h : 32 * i ≤ s.length
 ·rw [List.drop_append_of_le_length Me, List.take_append_of_le_length M2]
  unfold XH
  rw [List.map_take, List.map_drop]
  rcases Nat.le_total 32 (s.length - 32 * i) with h2 | h2
  ·rw [Nat.min_eq_left h2]
  ·rw [Nat.min_eq_right h2, List.take_of_length_le M2, List.take_of_length_le M2]
 ·unfold XH
  rw [show s.length - 32 * i = 0 by omega, Nat.min_zero, List.take_zero, List.drop_of_length_le m0]; rfl
def chM (rb n cap : Nat) (p : Nat × Nat) : Jj := [(p.2, .cells #[.int .i64 32] 3 (0, 0)), (p.1, .cells #[.slice (some ⟨rb, 0, none⟩) n cap] 55 (0, 0))]
theorem Jpl (rb n cap : Nat) : PureE (α := Nat × Nat) Tryz.prog 236 [.slice (some ⟨rb, 0, none⟩) n cap, .int .i64 32].toArray (fun p => .func (.func 257) #[] #[QR p.1, QR p.2]) (chM rb n cap) := by
 refine VB Tryz.func236 rfl rfl fun w => Nd fun r1 r2 => ?_; refine Goc 10 [0] rfl rfl (JH rfl (fun h4 => ?_) (fun h4 => ?_))
 exact absurd h4 m7
 ·try simp only [ZZ] at h4
  refine Gx ?_; exact kC
def Jgo (rb n j : Nat) : List Value := [.slice (some ⟨rb, 32 * j, none⟩) (min 32 (n - 32 * j)) (min 32 (n - 32 * j))]
theorem Jpm {n : Nat} (hn : N = (n + 31) / 32) (hcap : n ≤ cap) (hlim : n ≤ 1000000) (p1 p2 : Nat) : xB Tryz.prog 257 [QR p1, QR p2] (chM rb n cap (p1, p2)) 0 (nxN (Jgo rb n) N) (Jfi N) := by
  refine W9 Tryz.func257 rfl rfl fun q xids w2 XI XF hY => JS (Nv ?_); refine Jy (σ := Nat) (fun i => i ≤ N) (fun i => [(0, .func (.yield q) #[] #[]), (1, QR p1), (2, QR p2), (4, .int .i64 ((32 * i : Nat) : Int))]) (fun _ => []) (fun i => XI i) (fun i => N - i) 0 (Nat.zero_le _) (lK rfl) (List.nil_sublist _) (fun _ _ h => h) ?_; intro i hi; refine Gx ?_; refine G8 ?_; refine kz ?_; refine NR ?_; refine cD (fun g => ?_) fun g => ?_
  · refine kX ?_
    obtain ⟨M, hM⟩ : ∃ M, M = min 32 (n - 32 * i) := ⟨_, rfl⟩
    have hM1 : M ≤ 32 := by omega
    have hM2 : 0 < M := by omega
    refine DB ?_; refine Jc rfl rfl rfl (JT (kl := some (32 * i)) (kh := none) (km := none) (sz := 1) (m := 32 * i) (q := n) (z := cap) rfl rfl rfl ⟨_, rfl⟩ trivial trivial rfl rfl rfl m0 hcap (Nat.le_refl _) (fun _ => rfl) rfl) (Jc rfl rfl rfl (KO rfl rfl) ?_)
    refine Jc rfl rfl rfl (Jmy (r := ((M : Nat) : Int)) rfl rfl (by rw [hM]; split <;> omega)) ?_; refine NW ?_; refine ND ?_; refine G8 ?_; refine GV ?_; refine Jk nh ?_; refine JK 3 rfl ?_; refine Jk nh ?_
    refine LR rfl (JT (kl := some (32 * i)) (kh := some (32 * i + M)) (km := some (32 * i + M)) (sz := 1) (m := 32 * i) (q := 32 * i + M) (z := 32 * i + M) (off' := 32 * i) rfl rfl rfl ⟨_, rfl⟩ ⟨_, rfl⟩ ⟨_, rfl⟩ rfl rfl rfl m0 (Nat.le_refl _) m0 (fun h => by cases h) mu) ?_; refine Jk (show _ = Value.slice (some ⟨rb, 32 * i, none⟩) (min 32 (n - 32 * i)) (min 32 (n - 32 * i)) from by congr 1 <;> omega) ?_; refine WP (XT := XI (i + 1)) (XF := XF) rfl rfl rfl rfl (hY i (Jgo rb n i) (i + 1) ⟨by omega, rfl, rfl⟩) ?_ ?_
    all_goals (
     refine H2 ?_; refine JH rfl (fun g => ?_) (fun g => ?_)
     · try exact Bool.noConfusion g
       all_goals try simp only [ZZ] at g
       all_goals (
        exact N5
        skip)
     · try exact Bool.noConfusion g
       all_goals try simp only [ZZ] at g
       all_goals (
        refine kS ?_; refine G7 ?_
        refine V7 rfl ?_; refine Jk (show _ = Value.int .i64 ((32 * (i + 1) : Nat) : Int) from by rw [wrap_i64 m0 m0]; congr 1 <;> omega) ?_; refine Dy ?_; exact NJ
        skip)
     skip)
  · exact Gs
theorem Jy0 (hl : s.length ≤ 1000000) : PureT (α := { row : Vg // rowOk 1 (Ja8 s) (WL (YZ s)) row }) Tryz.prog 172 [Jw s].toArray (fun x => J3 (Ja8 s) x.1) [] (fun x => JL 9 (WL (YZ s)) x.1) [] := by
 obtain ⟨N, hN⟩ : ∃ N, N = Ja8 s := ⟨_, rfl⟩
 have hN2 : N = (s.length + 31) / 32 := hN
 have hC : YZ s = yz s N := by rw [hN]; rfl
 rw [hC, ← hN]; refine J2 Tryz.func172 rfl rfl fun w => DI ?_; refine LN rfl fun r1 => Gc ?_; refine XU rfl rfl rfl rfl rfl rfl fun rb kb => Vx rfl rfl rfl (enters_of Tryz.func236 m5 rfl) (Jpl rb s.length (s.length + kb)) fun pp => ?_
 obtain ⟨p1, p2⟩ := pp
 change HL _ _ _ [(p2, _), (p1, _), (rb, _), (r1, _)] _ _ _ _; refine NR ?_; refine YE [3, 0, 1, 2] (L' := [_, _, _, _]) m7 rfl ?_
 refine Xq (τ := Unit) (fun i (q : Nat × Vg) => i ≤ N ∧ i = q.1 ∧ rowOk 1 q.1 (WL (yz s q.1)) q.2) (fun q => (r1, .cells #[J3 q.1 q.2] 109 (0, 0)) :: JL 9 (WL (yz s q.1)) q.2) (fun _ _ => False) (fun _ => []) [(p2, _), (p1, _), (rb, _)] (0, none) rfl rfl (enters_of Tryz.func257 m5 rfl) (Jpm (rb := rb) (cap := s.length + kb) hN2 m0 hl p1 p2) mA rfl (fun q hq => .inl (by rcases List.mem_cons.1 hq with rfl | hq; exact List.mem_cons_self; rw [List.mem_singleton.1 hq]; exact List.mem_cons_of_mem _ List.mem_cons_self)) rfl ⟨Nat.zero_le _, rfl, rfl, rfl⟩ ?_ ?_ ?_
 rintro q Xr Xb w3 i _ _ ⟨i2, row⟩ ⟨hii, rfl, rfl⟩ ⟨him, he, hrow⟩ Kr hKr; refine inR ?_
 simp only at he
 obtain rfl := he
 simp only at hrow
 unfold Jgo
 refine KK 3 rfl (hKr _ _ (JS ?_)); clear hKr; refine GL ?_
 have hfull := Jgl (s := XH s i) (by rw [Za]; omega)
 have hsn := Jk6 s i
 obtain ⟨sv, hsv⟩ : ∃ x, x = Wu (XH s i) := ⟨_, rfl⟩
 rw [← hsv] at hfull hsn
 refine JJ [] [(1, .pure), (3, .pure), (4, .grow (V1 (slV 1) (.cells #[Jw sv] 9 (0, 0))))] 5 [0, 1, 2, 3, 4] m5 m5 m6 (KG (k := 0) rfl rfl rfl rfl rfl (Je (v := J3 i row) rfl (kn 0 rfl) rfl rfl) (Dq ?_)); refine KG (k := 2) rfl rfl rfl rfl rfl (Jee (b := XH s i) rfl (JB (k := 2) rfl) (Za s i).symm (Jpk s i _) rfl rfl rfl) (Ws (k := 3) rfl rfl rfl rfl rfl Jom hfull (Vb (k := 4) (n := 1) (sz := 1) (vs := [_]) (zs := [_]) (r := [Jw sv]) rfl rfl rfl rfl rfl rfl rfl rfl rfl rfl rfl mj rfl fun rv => Kk (JF (L0 := [_, _]) (xs := WL (yz s i)) (row := row) (n := i) (sz := 1) (b := 16) (news := [Jw sv]) (List.perm_append_comm (l₁ := [_, _])) rfl rfl rfl rfl (kn 0 rfl) rfl rfl rfl rfl rfl m7 rfl rfl rfl m7 hrow m0 m0 fun ra cap sp hra => Kt (k := 2) (cs' := #[J3 (i + 1) (some (ra, cap, sp))]) rfl rfl rfl rfl rfl rfl rfl rfl rfl rfl (Jz 2 rfl (QG [2, 0] (L' := [_, _]) m7 rfl ?_))))); exact QU (i + 1, some (ra, cap, sp)) ⟨by omega, rfl, by simp only; rw [hsn]; exact hra⟩ (by simp only; rw [hsn]; rfl)
 rintro D i ⟨i2, row⟩ hfi ⟨him, he, hrow⟩
 simp only at he hrow
 obtain rfl : N = i := Eq.symm hfi
 obtain rfl := he
 refine gqo 4 rfl (LR rfl (Je (v := J3 N row) rfl (kn 1 rfl) rfl rfl) (gJ ?_)); refine D0 ?_; refine NP fun w1 hs1 => ?_; exact ⟨⟨row, hrow⟩, rfl, hs1.weakL (.cons _ (.cons _ (List.sublist_append_left _ _)))⟩
 ·exact gp
theorem Jpn {n : Nat} (hn : n ≤ 4611686018427387904) : Pure Tryz.prog 173 [.int .i64 (n : Int)].toArray (.int .i64 (((n + 31) / 32 : Nat) : Int)) := by
 refine J8 Tryz.func173 rfl rfl fun w => ?_; refine gc ?_; refine Jk (show _ = Value.int .i64 ((n + 32 : Nat) : Int) from by rw [wrap_i64 m0 m0]; congr 1 <;> omega) ?_
 refine V7 rfl ?_; refine Jk (show _ = Value.int .i64 ((n + 31 : Nat) : Int) from by rw [wrap_i64 m0 m0]; congr 1 <;> omega) ?_; refine V7 rfl (Jk (show _ = Value.int .i64 (((n + 31) / 32 : Nat) : Int) from congrArg (Value.int .i64) (QP m0 m7 m0)) (Jz 4 rfl ?_)); exact Nc
def XJ (x : Ty) : Bool := decide (x.k = 1) || decide (x.k = 2)
def Xo (items : List Vl) (x : Ty) : BS := (items.map fun v => Vz v x).flatten
def Xi (k n : Int) (ins : List Ty) (items : List Vl) (rs : List BS) : BS :=
 if k = 7 then Vm rs ins.length else if XJ (ins.getD 0 default) = true then Vm (YZ (Xo items (ins.getD 0 default))) ((n.toNat * (JO (ins.getD 0 default)).toNat + 31) / 32) else Vm rs n.toNat
mutual
def KH : Vl → Ty → BS
 | .mk a b c d bits _ items _ pick, t =>
  if t.k = 1 ∨ t.k = 2 then leW [a, b, c, d] 32 else if t.k = 4 then Yk (Xi t.k t.n t.ins items (Km items t.k pick t.ins 0)) items.length
  else if t.k = 5 then Vm (YZ (VM bits)) ((t.n.toNat + 255) / 256) else if t.k = 6 then Yk (Vm (YZ (VM bits)) ((t.n.toNat + 255) / 256)) bits.length
  else if t.k = 8 then Yk ((Km items t.k pick t.ins 0).headD []) pick.toNat else Xi t.k t.n t.ins items (Km items t.k pick t.ins 0)
def Km : List Vl → Int → Int → List Ty → Nat → List BS
 | [], _, _, _, _ => []
 | x :: xs, k, pick, ins, i => KH x (J0 k pick ins i) :: Km xs k pick ins (i + 1)
end
section
variable {a b c d : Nat} {bits : List Bool} {pb : Pl} {items : List Vl} {pi : Pl} {pick k n : Int} {p : Pl} {ins : List Ty}
theorem WX : KH (.mk a b c d bits pb items pi pick) (.mk k n p ins) = if k = 1 ∨ k = 2 then leW [a, b, c, d] 32 else if k = 4 then Yk (Xi k n ins items (Km items k pick ins 0)) items.length
  else if k = 5 then Vm (YZ (VM bits)) ((n.toNat + 255) / 256) else if k = 6 then Yk (Vm (YZ (VM bits)) ((n.toNat + 255) / 256)) bits.length
  else if k = 8 then Yk ((Km items k pick ins 0).headD []) pick.toNat else Xi k n ins items (Km items k pick ins 0) := by rw [KH]; rfl
end
theorem WG : ∀ (l : List Vl) (k pick : Int) (ins : List Ty) (i : Nat), (Km l k pick ins i).length = l.length
 | [], _, _, _, _ => by rw [Km]; rfl
 | x :: xs, k, pick, ins, i => by rw [Km, List.length_cons, WG xs, List.length_cons]
theorem yA {k : Int} (h8 : k ≠ 8) (pick : Int) (ins : List Ty) : ∀ (l : List Vl) (i : Nat), Km l k pick ins i = Km l k 0 ins i
 | [], i => by rw [Km, Km]
 | x :: xs, i => by rw [Km, Km, yA h8 pick ins xs (i + 1), wa h8]
theorem Y3 : ∀ {l : List Vl} {k pick : Int} {ins : List Ty} {i : Nat} {s : BS}, s ∈ Km l k pick ins i → ∃ j x, l[j]? = some x ∧ s = KH x (J0 k pick ins (i + j))
 | [], _, _, _, _, _, h => by rw [Km] at h; cases h
 | y :: ys, k, pick, ins, i, s, h => by
  rw [Km] at h
  rcases List.mem_cons.1 h with rfl | h
  ·exact ⟨0, y, rfl, rfl⟩
  ·obtain ⟨j, x, h1, h2⟩ := Y3 h
   exact ⟨j + 1, x, h1, by rw [h2, show i + 1 + j = i + (j + 1) by omega]⟩
theorem yB (k : Int) (ins : List Ty) : ∀ {l : List Vl} {i j : Nat} {x : Vl}, l[j]? = some x → (Km l k 0 ins i).take (j + 1) = (Km l k 0 ins i).take j ++ [KH x (J0 k 0 ins (i + j))]
 | [], _, _, _, h => by simp at h
 | y :: ys, i, 0, x, h => by
  simp at h; subst h; rw [Km]; rfl
 | y :: ys, i, j + 1, x, h => by
  rw [List.getElem?_cons_succ] at h; rw [Km, List.take_succ_cons, List.take_succ_cons, yB k ins h, show i + 1 + j = i + (j + 1) by omega]; rfl
theorem Jtz {k n : Int} {p : Pl} {ins : List Ty} {d : Int} (hk : 1 ≤ k ∧ k ≤ 8) (ho : JG k n ins.length = true) : Va (.mk k n p ins) d = if 6 ≤ d then 7 else Xc ins (d + 1) := by
 rw [Va, if_neg m0, if_neg (by rw [ho]; simp)]
theorem zY : ∀ {ins : List Ty} {d : Int}, (∀ x ∈ ins, Va x d = 0) → Xc ins d = 0
 | [], _, _ => by rw [Xc]
 | x :: xs, d, h => by
  rw [Xc, if_pos (h x List.mem_cons_self)]; exact zY fun y hy => h y (List.mem_cons_of_mem _ hy)
theorem Jk7 (t : Ty) : ∀ d : Int, Va t (d + 1) = 0 → Va t d = 0 := by
 induction t using Ty.ind with
 | h k n p ins ih =>
  intro d h
  obtain ⟨hk, ho, h6, hi⟩ := Qv h
  rw [Jtz hk ho, if_neg m0]; exact zY fun x hx => ih x hx (d + 1) (hi x hx)
theorem yC {t : Ty} : ∀ {d : Nat}, Va t (d : Int) = 0 → Va t 0 = 0
 | 0, h => h
 | d + 1, h => yC (d := d) (Jk7 t d (by rw [Int.natCast_add] at h; exact h))
theorem WN {k n : Int} {p : Pl} {ins : List Ty} (h : Va (.mk k n p ins) 0 = 0) : ∀ x ∈ ins, Va x 0 = 0 := fun x hx => yC (d := 1) ((Qv h).2.2.2 x hx)
theorem jb (hc : Va x 0 = 0) (hp : XJ x = true) : JA x = true ∧ 1 ≤ JO x ∧ JO x ≤ 32 ∧ ∀ v : Vl, Kz v x = 0 → ((Vz v x).length : Int) = JO x := by
 obtain ⟨k, n, p, ins⟩ := x
 obtain ⟨hk, hf, _, _⟩ := Qv hc
 have hk2 : k = 1 ∨ k = 2 := by
  unfold XJ at hp
  rw [Bool.or_eq_true] at hp; exact hp.imp of_decide_eq_true of_decide_eq_true
 unfold JG at hf
 have hins : ins.length = 0 := by
  rcases hk2 with rfl | rfl
  all_goals generalize ins.length = m at hf ⊢
  all_goals simp at hf
  all_goals omega
 have hi : ins = [] := List.length_eq_zero_iff.1 hins
 subst hi
 rcases hk2 with rfl | rfl
 ·have hn : 1 ≤ n ∧ n ≤ 32 := by simp at hf; omega
  refine ⟨Wm.2 ⟨hc, by rw [VP, Yw]; rfl⟩, by rw [JO, if_pos rfl]; exact hn.1, by rw [JO, if_pos rfl]; exact hn.2, fun v _ => ?_⟩
  obtain ⟨a, b, c, d, bits, pb, items, pi, pick⟩ := v
  rw [QV, if_pos rfl, JO, if_pos rfl, xX _ m0]; omega
 ·refine ⟨Wm.2 ⟨hc, by rw [VP, Yw]; rfl⟩, by rw [JO, if_neg m7, if_pos rfl]; decide, by rw [JO, if_neg m7, if_pos rfl]; decide, fun v _ => ?_⟩
  obtain ⟨a, b, c, d, bits, pb, items, pi, pick⟩ := v
  rw [QV, if_neg m7, if_pos rfl, JO, if_neg m7, if_pos rfl, xX _ m7]
  rfl
theorem qj {x : Ty} {z : Nat} : ∀ {items : List Vl}, (∀ v ∈ items, (Vz v x).length = z) → (Xo items x).length = items.length * z
 | [], _ => by unfold Xo; simp
 | v :: l, h => by
  have ih := qj (items := l) fun y hy => h y (List.mem_cons_of_mem _ hy)
  unfold Xo at ih ⊢
  rw [List.map_cons, List.flatten_cons, List.length_append, ih, h v List.mem_cons_self, List.length_cons, Nat.succ_mul, Nat.add_comm]
theorem yD {a : Nat} {bits : List Bool} {items : List Vl} {pick k n : Int} {p : Pl} {ins : List Ty} (hc : Va (.mk k n p ins) dp = 0) (h : Kz (.mk a b c d bits pb items pi pick) (.mk k n p ins) = 0) :
  (k = 3 ∨ k = 4 → 1 ≤ n ∧ n ≤ 512 ∧ (items.length : Int) ≤ n ∧ ins.length = 1) ∧ (k = 5 ∨ k = 6 → 1 ≤ n ∧ n ≤ 512 ∧ (bits.length : Int) ≤ n) ∧ (k = 7 → items.length = ins.length ∧ 1 ≤ ins.length ∧ ins.length ≤ 16) := by
 obtain ⟨h1, h2, _⟩ := Xt h
 obtain ⟨hk, hf, _, _⟩ := Qv hc
 rw [Qw k n ins.length a b c d bits pb items pi pick _ rfl] at h2; simp only [Qn] at h2
 unfold JG at hf
 have h9 : k = 1 ∨ k = 2 ∨ k = 3 ∨ k = 4 ∨ k = 5 ∨ k = 6 ∨ k = 7 ∨ k = 8 := by omega
 rcases h9 with rfl | rfl | rfl | rfl | rfl | rfl | rfl | rfl
 all_goals generalize items.length = I at *
 all_goals generalize bits.length = J at *
 all_goals generalize ins.length = K at *
 all_goals simp at h1 h2 hf ⊢
 all_goals omega
theorem qK {bits : List Bool} {n : Int} (h : (bits.length : Int) ≤ n) : (YZ (VM bits)).length ≤ (n.toNat + 255) / 256 := by
 rw [Z0]
 unfold Ja8
 rw [Xs]; omega
theorem Y4 (v : Vl) : ∀ (t : Ty) (dp : Nat), Va t (dp : Int) = 0 → Kz v t = 0 → (KH v t).length = 32 := by
 induction v using Vl.ind with
 | h a b c d bits pb items pi pick ih =>
 intro t dp hck hfit
 obtain ⟨k, n, p, ins⟩ := t
 obtain ⟨hk8, ho, h6, hci⟩ := Qv hck
 obtain ⟨hf1, hf2, hf3⟩ := Xt hfit
 obtain ⟨q1, q2, q3⟩ := yD hck hfit
 have hxl : ∀ i, i < items.length → VQ k pick i < ins.length := fun i hi => qI (v := .mk a b c d bits pb items pi pick) hck hf2 hi
 have hrs : ∀ s ∈ Km items k pick ins 0, s.length = 32 := fun s hs => by
  obtain ⟨j, x, h1, rfl⟩ := Y3 hs
  have hlt := (List.getElem?_eq_some_iff.1 h1).1
  rw [Nat.zero_add]
  have hty := Kw (hxl j hlt)
  exact ih x (List.mem_of_getElem? h1) _ (dp + 1) (hci _ hty.2) (by have := Wy hf3 h1; rwa [Nat.zero_add] at this)
 have hrl := WG items k pick ins 0
 have hrow : k = 3 ∨ k = 4 ∨ k = 7 → (Xi k n ins items (Km items k pick ins 0)).length = 32 := fun hk => by
  unfold Xi
  split
  ·rename_i h7
   exact Wk (by have := q3 h7; omega) hrs
  ·rename_i h7
   have := q1 m0
   split
   ·rename_i hp
    have hin0 : ins.getD 0 default ∈ ins := by
     match ins, this.2.2.2 with
     | [x], _ => exact List.mem_cons_self
    have hc0 : Va (ins.getD 0 default) 0 = 0 := WN (yC hck) _ hin0
    obtain ⟨f1, f2, f3, f4⟩ := jb hc0 hp
    refine Wk ?_ (ja _); rw [Z0]
    unfold Ja8
    have hz : ∀ v ∈ items, (Vz v (ins.getD 0 default)).length = (JO (ins.getD 0 default)).toNat := fun v hv => by
     obtain ⟨j, hj⟩ := List.getElem?_of_mem hv
     have hg := Wy hf3 hj
     rw [Nat.zero_add] at hg
     have he : J0 k pick ins j = ins.getD 0 default := by unfold J0 VQ; rw [if_neg h7, if_neg m0]
     rw [he] at hg
     have := f4 v hg
     omega
    rw [qj hz]
    have hm : items.length * (JO (ins.getD 0 default)).toNat ≤ n.toNat * (JO (ins.getD 0 default)).toNat := Nat.mul_le_mul_right _ m0
    omega
   ·exact Wk m0 hrs
 rw [WX]
 split
 ·exact xX _ (Nat.le_refl _)
 ·split
  ·exact ZS _
  ·split
   ·rename_i h5
    exact Wk (qK (q2 m0).2.2) (ja _)
   ·split
    ·exact ZS _
    ·split
     ·exact ZS _
     ·exact hrow m0
def Wz (head : Nat) : List (Ty × List UInt8) → Nat → List UInt8
 | [], _ => []
 | (x, s) :: l, n => if JA x then s ++ Wz head l n else (zS (head + n) 4).1 ++ Wz head l (n + s.length)
def ZA : List (Ty × List UInt8) → List UInt8
 | [] => []
 | (x, s) :: l => if JA x then ZA l else s ++ ZA l
theorem Ja9 (head : Nat) : ∀ (l : List (Ty × List UInt8)) (f th : List UInt8), YV head l f th = (f ++ Wz head l th.length) ++ (th ++ ZA l)
 | [], f, th => by rw [YV, Wz, ZA]; simp
 | (x, s) :: l, f, th => by
  rw [YV, Wz, ZA]
  split
  ·rw [Ja9 head l]; simp
  ·rw [Ja9 head l, List.length_append]; simp
theorem Jy1 {n : Nat} (h : n < 4294967296) : (zS n 4).1 = jQ n 4 := by
 unfold zS
 rw [if_neg]
 ·rfl
 ·have := (Jiu (n := n) (k := 4) m0 m7).2 nb
  omega
theorem Jk8 {n : Nat} (h : n < 4294967296) : (zS n 4).1.length = 4 := by rw [Jy1 h, Wf]
def Jiy (l : List (Ty × List UInt8)) : Prop := ∀ p ∈ l, JA p.1 = true → (p.2.length : Int) = JO p.1
def Jk9 : List (Ty × List UInt8) → Nat
 | [] => 0
 | p :: l => p.2.length + 4 + Jk9 l
def ZB : List (Ty × List UInt8) → Nat
 | [] => 0
 | (x, s) :: l => if JA x then ZB l else s.length + ZB l
theorem yE : ∀ l : List (Ty × List UInt8), (ZA l).length = ZB l
 | [] => rfl
 | (x, s) :: l => by
  rw [ZA, ZB]
  split
  ·exact yE l
  ·rw [List.length_append, yE l]
def Qy (s : List UInt8) (head : Nat) : List Ty → Nat → Nat → Bool → Option (List Nat)
  | [], _, _, op => if op = false ∧ head ≠ s.length then none else some [s.length]
  | x :: xs, at_, last, op => if JA x then Qy s head xs (at_ + (JO x).toNat) last op else
      if (op = false ∧ V4 ((s.drop at_).take 4) ≠ head) ∨ V4 ((s.drop at_).take 4) < last ∨ s.length < V4 ((s.drop at_).take 4) then none
      else (Qy s head xs (at_ + 4) (V4 ((s.drop at_).take 4)) true).map fun r => V4 ((s.drop at_).take 4) :: r
def VH (s : List UInt8) : List Ty → Nat → List Nat → List (List UInt8)
  | [], _, _ => []
  | x :: xs, at_, os => if JA x then (s.drop at_).take (JO x).toNat :: VH s xs (at_ + (JO x).toNat) os else
      (s.take (os.getD 1 0)).drop (os.getD 0 0) :: VH s xs (at_ + 4) os.tail
theorem wb : ∀ {ts : List Ty}, (∀ x ∈ ts, JA x = true → 0 ≤ JO x) → 0 ≤ JV ts
 | [], _ => by rw [JV]; exact Int.le_refl _
 | x :: xs, h => by
  have h1 := wb (ts := xs) fun y hy => h y (List.mem_cons_of_mem _ hy)
  rw [JV, Wx]
  split
  ·have := h x List.mem_cons_self ‹_›; omega
  ·omega
theorem wc {s : List UInt8} {head : Nat} : ∀ {ts : List Ty} {at_ last : Nat} {op : Bool} {os : List Nat}, Qy s head ts at_ last op = some os → last ≤ s.length → (op = false → last = head) → ∃ o r, os = o :: r ∧ last ≤ o ∧ o ≤ s.length ∧ (op = false → o = head)
 | [], at_, last, op, os, h, hl, ho => by
  rw [Qy] at h
  split at h
  ·cases h
  ·rename_i h1
   cases h
   refine ⟨s.length, [], rfl, hl, Nat.le_refl _, fun hop => ?_⟩; exact Decidable.byContradiction fun h2 => h1 ⟨hop, fun e => h2 e.symm⟩
 | x :: xs, at_, last, op, os, h, hl, ho => by
  rw [Qy] at h
  split at h
  ·exact wc h hl ho
  ·split at h
   ·cases h
   ·rename_i h1
    obtain ⟨r, _, rfl⟩ := Option.map_eq_some_iff.1 h
    refine ⟨_, r, rfl, by omega, by omega, fun hop => ?_⟩; exact Decidable.byContradiction fun h2 => h1 (.inl ⟨hop, h2⟩)
theorem Jba {s : List UInt8} {head : Nat} (hs : s.length < 4294967296) (hh : head ≤ s.length) : ∀ {ts : List Ty} {at_ last : Nat} {op : Bool} {os : List Nat}, Qy s head ts at_ last op = some os → last ≤ s.length → head ≤ last → (op = false → last = head) →
  (∀ x ∈ ts, JA x = true → 0 ≤ JO x) → (at_ : Int) + JV ts = head →
  ∀ o r, os = o :: r → Wz head (ts.zip (VH s ts at_ os)) (o - head) = (s.take head).drop at_ ∧ ZA (ts.zip (VH s ts at_ os)) = s.drop o ∧ Jiy (ts.zip (VH s ts at_ os)) ∧ (VH s ts at_ os).length = ts.length
 | [], at_, last, op, os, h, hl, hhl, ho, hz, hb, o, r, e => by
  rw [Qy] at h
  split at h
  ·cases h
  ·cases h
   cases e
   rw [JV] at hb
   have ha : at_ = head := by omega
   subst ha; refine ⟨?_, ?_, fun p hp => by simp [VH] at hp, rfl⟩
   ·rw [VH, List.zip_nil_right, Wz, List.drop_of_length_le nR]
   ·rw [VH, List.zip_nil_right, ZA, List.drop_length]
 | x :: xs, at_, last, op, os, h, hl, hhl, ho, hz, hb, o, r, e => by
  have hz2 : ∀ y ∈ xs, JA y = true → 0 ≤ JO y := fun y hy => hz y (List.mem_cons_of_mem _ hy)
  rw [JV, Wx] at hb; rw [Qy] at h
  by_cases hf : JA x = true
  ·rw [if_pos hf] at h hb
   have h0 := hz x List.mem_cons_self hf
   obtain ⟨i1, i2, i3, i4⟩ := Jba hs hh h hl hhl ho hz2 m0 o r e
   have hlen : ((s.drop at_).take (JO x).toNat).length = (JO x).toNat := by
    have hbg := wb hz2
    rw [List.length_take, List.length_drop]; omega
   rw [VH, if_pos hf, List.zip_cons_cons, Wz, ZA, if_pos hf, if_pos hf]; refine ⟨?_, i2, ?_, by rw [List.length_cons, i4, List.length_cons]⟩
   ·rw [i1]
    have hbg := wb hz2
    have e2 : (s.drop at_).take (JO x).toNat = ((s.take head).drop at_).take (JO x).toNat := by
     rw [List.drop_take, List.take_take, Nat.min_eq_left m0]
    rw [e2, ← List.drop_drop, List.take_append_drop]
   ·intro p hp
    rcases List.mem_cons.1 hp with rfl | hp
    ·intro _; simp only; rw [hlen]; omega
    ·exact i3 p hp
  ·rw [if_neg hf] at h hb
   split at h
   ·cases h
   ·rename_i h1
    obtain ⟨r2, h2, hr2⟩ := Option.map_eq_some_iff.1 h
    subst hr2
    obtain ⟨rfl, rfl⟩ := List.cons.inj e
    have hbg := wb hz2
    have h4 : ((s.drop at_).take 4).length = 4 := by rw [List.length_take, List.length_drop]; omega
    have hn : V4 ((s.drop at_).take 4) ≤ s.length := by omega
    have hnl : last ≤ V4 ((s.drop at_).take 4) := by omega
    have hle : jQ (V4 ((s.drop at_).take 4)) 4 = (s.drop at_).take 4 := by
     have := Jhj ((s.drop at_).take 4)
     rwa [h4] at this
    generalize hq : V4 ((s.drop at_).take 4) = q at *
    obtain ⟨b, r3, rfl, hb1, hb2, _⟩ := wc h2 hn (fun h => by cases h)
    obtain ⟨i1, i2, i3, i4⟩ := Jba hs hh h2 hn m0 (fun h => by cases h) hz2 m0 b r3 rfl
    rw [VH, if_neg hf, List.zip_cons_cons, Wz, ZA, if_neg hf, if_neg hf]; simp only [List.tail_cons]
    have hpl : ((s.take b).drop q).length = b - q := by rw [List.length_drop, List.length_take]; omega
    refine ⟨?_, ?_, ?_, by rw [List.length_cons, i4, List.length_cons]⟩
    ·show (zS (head + (q - head)) 4).1 ++ Wz head _ (q - head + ((s.take b).drop q).length) = _
     rw [hpl, show q - head + (b - q) = b - head by omega, i1, show head + (q - head) = q by omega, Jy1 m0, hle]
     have e2 : (s.drop at_).take 4 = ((s.take head).drop at_).take 4 := by
      rw [List.drop_take, List.take_take, Nat.min_eq_left m0]
     rw [e2, ← List.drop_drop, List.take_append_drop]
    ·show (s.take b).drop q ++ _ = _
     rw [i2]
     have e3 : s.drop q = (s.drop q).take (b - q) ++ (s.drop q).drop (b - q) := (List.take_append_drop _ _).symm
     rw [e3, List.drop_drop, List.drop_take, show q + (b - q) = b by omega]
    ·intro p hp
     rcases List.mem_cons.1 hp with rfl | hp
     ·intro hff; exact absurd hff hf
     ·exact i3 p hp
theorem Jgp (hc : Va t 0 = 0) : JA t = VP t := by unfold JA; rw [hc]; simp
theorem jc (h : JA t = true) : 1 ≤ JO t := by
 obtain ⟨h1, h2⟩ := Wm.1 h
 exact (jp t 0 (Int.le_refl _) h1 h2).1
mutual
def W0 : Vl → Vl
 | .mk a b c d bits _ items _ pick => .mk a b c d bits none (Xp items) none pick
def Xp : List Vl → List Vl
 | [] => []
 | x :: xs => W0 x :: Xp xs
end
theorem VK : ∀ l : List Vl, Xp l = l.map W0
 | [] => by rw [Xp]; rfl
 | x :: xs => by rw [Xp, VK xs]; rfl
def v0L : Vl := .mk 0 0 0 0 [] none [] none 0
def jm (w : List Nat) : Vl := .mk (w.getD 0 0) (w.getD 1 0) (w.getD 2 0) (w.getD 3 0) [] none [] none 0
def Yl (l : List Bool) : Vl := .mk 0 0 0 0 l none [] none 0
def KP (l : List Vl) (pick : Int) : Vl := .mk 0 0 0 0 [] none l none pick
def JM (k n : Int) (ins : List Ty) (s : List UInt8) : Nat × Int :=
 if k = 7 then (ins.length, 0) else if k = 3 then (n.toNat, 0) else if s = [] then (0, 0)
 else if JA (J0 k 0 ins 0) then (if s.length % (JO (J0 k 0 ins 0)).toNat ≠ 0 then (0, 2) else if n < ((s.length / (JO (J0 k 0 ins 0)).toNat : Nat) : Int) then (0, 5) else (s.length / (JO (J0 k 0 ins 0)).toNat, 0))
 else if s.length < 4 ∨ V4 (s.take 4) % 4 ≠ 0 ∨ V4 (s.take 4) = 0 then (0, 2) else if n < ((V4 (s.take 4) / 4 : Nat) : Int) then (0, 5) else (V4 (s.take 4) / 4, 0)
abbrev Gf : Type := List UInt8 → Vl × Int
def Vt : List (Gf × List UInt8) → List Vl × Int
 | [] => ([], 0)
 | (f, s) :: r => if (f s).2 ≠ 0 then ([], (f s).2) else if (Vt r).2 ≠ 0 then ([], (Vt r).2) else ((f s).1 :: (Vt r).1, 0)
def Wc (s : List UInt8) : Nat → Nat
 | 0 => 0
 | i + 1 => if Qg s i = true then i else Wc s i
def g0 : Gf := fun _ => (v0L, 0)
def j0 (k n : Int) (ins : List Ty) (fs : List Gf) (s : List UInt8) : Vl × Int :=
 if (JM k n ins s).2 ≠ 0 then (v0L, (JM k n ins s).2)
 else if (s.length : Int) < JV (Kg k ins (JM k n ins s).1) then (v0L, 2)
 else match Qy s (JV (Kg k ins (JM k n ins s).1)).toNat (Kg k ins (JM k n ins s).1) 0 (JV (Kg k ins (JM k n ins s).1)).toNat false with
  | none => (v0L, 2)
  | some os =>
   let r := Vt (((List.range (JM k n ins s).1).map fun i => fs.getD (VQ k 0 i) g0).zip (VH s (Kg k ins (JM k n ins s).1) 0 os))
   if r.2 ≠ 0 then (v0L, r.2) else (KP r.1 0, 0)
def j3 (k n : Int) (p : Pl) (ins : List Ty) (fs : List Gf) (s : List UInt8) : Vl × Int :=
 if JA (.mk k n p ins) = true ∧ (s.length : Int) ≠ JO (.mk k n p ins) then (v0L, 2)
 else if k = 1 then (jm (Xd s), 0)
 else if k = 2 then (if 1 < (s.getD 0 0).toNat then (v0L, 2) else (jm (Xd s), 0))
 else if k = 5 then (if ((J4 s (8 * s.length)).drop n.toNat).any id then (v0L, 8) else (Yl (J4 s n.toNat), 0))
 else if k = 6 then (if s.getLast? = none ∨ s.getLast? = some 0 then (v0L, 2) else if n < (Wc s (8 * s.length) : Int) then (v0L, 5) else (Yl (J4 s (Wc s (8 * s.length))), 0))
 else if k = 8 then (match s with
  | [] => (v0L, 2)
  | b :: r => if ins.length ≤ b.toNat then (v0L, 9) else if (fs.getD b.toNat g0 r).2 ≠ 0 then (v0L, (fs.getD b.toNat g0 r).2) else (KP [(fs.getD b.toNat g0 r).1] b.toNat, 0))
 else j0 k n ins fs s
mutual
def Ku : Ty → List UInt8 → Vl × Int
 | .mk k n p ins, s => j3 k n p ins (XK ins) s
def XK : List Ty → List Gf
 | [] => []
 | x :: xs => Ku x :: XK xs
end
theorem Jef : ∀ l : List Ty, XK l = l.map Ku
 | [] => by rw [XK]; rfl
 | x :: xs => by rw [XK, Jef xs]; rfl
theorem wd {ins : List Ty} (h : ins[i]? = some x) : (XK ins).getD i g0 = Ku x := by
 rw [Jef, List.getD_eq_getElem?_getD, List.getElem?_map, h]; rfl
section
variable {a b c d : Nat} {bits : List Bool} {pb : Pl} {items : List Vl} {pi : Pl} {pick k n : Int} {p : Pl} {ins : List Ty}
theorem Jiz (hc : Va (.mk k n p ins) 0 = 0) (h : Kz (.mk a b c d bits pb items pi pick) (.mk k n p ins) = 0) (h8 : k ≠ 8) {x : Vl} (hx : items[j]? = some x) : ins[VQ k 0 j]? = some (J0 k 0 ins j) ∧ J0 k 0 ins j ∈ ins ∧ Va (J0 k 0 ins j) 0 = 0 ∧ Kz x (J0 k 0 ins j) = 0 := by
 obtain ⟨_, h2, h3⟩ := Xt h
 have hlt := (List.getElem?_eq_some_iff.1 hx).1
 have hin := qI (v := .mk a b c d bits pb items pi pick) hc h2 hlt
 have hg := Wy h3 hx
 rw [Nat.zero_add, wa h8] at hg
 have e : VQ k (Vl.pick (.mk a b c d bits pb items pi pick)) j = VQ k 0 j := by unfold VQ; rw [if_neg h8, if_neg h8]
 rw [e] at hin
 have hty := Kw hin
 exact ⟨hty.1, hty.2, WN hc _ hty.2, hg⟩
end
theorem KB (a b c d : Nat) (bits : List Bool) (pb : Pl) (items : List Vl) (pi : Pl) (pick : Int) : W0 (.mk a b c d bits pb items pi pick) = .mk a b c d bits none (Xp items) none pick := by rw [W0]
theorem Ji0 (k pick : Int) (ins : List Ty) : ∀ (l : List Vl), (∀ x ∈ l, ∀ t, Vz (W0 x) t = Vz x t) → ∀ i : Nat, Qj (Xp l) k pick ins i = Qj l k pick ins i
 | [], _, i => by rw [Xp]
 | x :: xs, h, i => by rw [Xp, Qj, Qj, h x List.mem_cons_self, Ji0 k pick ins xs (fun y hy => h y (List.mem_cons_of_mem _ hy))]
theorem Jpo (v : Vl) : ∀ t, Vz (W0 v) t = Vz v t := by
 induction v using Vl.ind with
 | h a b c d bits pb items pi pick ih =>
 intro t
 obtain ⟨k, n, p, ins⟩ := t
 rw [KB, QV, QV, Ji0 k pick ins items ih]
theorem Jeg (k pick : Int) (ins : List Ty) : ∀ (l : List Vl), (∀ x ∈ l, ∀ t, KH (W0 x) t = KH x t) → ∀ i : Nat, Km (Xp l) k pick ins i = Km l k pick ins i
 | [], _, i => by rw [Xp]
 | x :: xs, h, i => by rw [Xp, Km, Km, h x List.mem_cons_self, Jeg k pick ins xs (fun y hy => h y (List.mem_cons_of_mem _ hy))]
theorem Jt0 (x : Ty) (l : List Vl) : Xo (Xp l) x = Xo l x := by
 unfold Xo
 rw [VK, List.map_map]
 congr 1
 exact List.map_congr_left fun v _ => Jpo v x
theorem Jt1 (v : Vl) : ∀ t, KH (W0 v) t = KH v t := by
 induction v using Vl.ind with
 | h a b c d bits pb items pi pick ih =>
 intro t
 obtain ⟨k, n, p, ins⟩ := t
 have hl : (Xp items).length = items.length := by rw [VK, List.length_map]
 rw [KB, WX, WX, Jeg k pick ins items ih, hl]
 unfold Xi
 rw [Jt0]
theorem Jeh : ∀ {l : List (Gf × List UInt8)} {vs : List Vl}, Vt l = (vs, 0) → vs.length = l.length ∧ ∀ (i : Nat) f s v, l[i]? = some (f, s) → vs[i]? = some v → f s = (v, 0)
 | [], vs, h => by
  rw [Vt] at h
  obtain rfl := (Prod.mk.inj h).1
  exact ⟨rfl, fun i f s v h1 => by simp at h1⟩
 | (f, s) :: l, vs, h => by
  rw [Vt] at h
  by_cases h1 : (f s).2 ≠ 0
  ·rw [if_pos h1] at h; exact absurd (Prod.mk.inj h).2 h1
  rw [if_neg h1] at h
  by_cases h2 : (Vt l).2 ≠ 0
  ·rw [if_pos h2] at h; exact absurd (Prod.mk.inj h).2 h2
  rw [if_neg h2] at h
  have h3 := (Prod.mk.inj h).1
  subst h3
  have h4 : Vt l = ((Vt l).1, 0) := by rw [← Decidable.not_not.1 h2]
  obtain ⟨i1, i2⟩ := Jeh h4
  refine ⟨by rw [List.length_cons, List.length_cons, i1], fun i f' s' v' hl hv => ?_⟩
  cases i with
  | zero =>
   cases hl; cases hv
   rw [← Decidable.not_not.1 h1]
  | succ i => exact i2 i f' s' v' hl hv
theorem zZ : ∀ {l : List Vl} {k pick : Int} {ins : List Ty} {i : Nat}, (∀ (j : Nat) x, l[j]? = some x → Kz x (J0 k pick ins (i + j)) = 0) → Qx l k pick ins i = 0
 | [], _, _, _, _, _ => by rw [Qx]
 | x :: xs, k, pick, ins, i, h => by
  have h0 := h 0 x rfl
  rw [Nat.add_zero] at h0; rw [Qx, if_pos h0]; exact zZ fun j y hy => by rw [show i + 1 + j = i + (j + 1) by omega]; exact h (j + 1) y Mx
theorem Jpp : ∀ {l : List Vl}, (∀ x ∈ l, W0 x = x) → Xp l = l
 | [], _ => by rw [Xp]
 | x :: xs, h => by rw [Xp, h x List.mem_cons_self, Jpp fun y hy => h y (List.mem_cons_of_mem _ hy)]
theorem Jei {k : Int} {ins : List Ty} : ∀ {vs : List Vl} {ps : List (List UInt8)} {i : Nat}, vs.length = ps.length → (∀ (j : Nat) x s, vs[j]? = some x → ps[j]? = some s → Vz x (J0 k 0 ins (i + j)) = s) → Qj vs k 0 ins i = ((List.range' i vs.length).map fun j => J0 k 0 ins j).zip ps
 | [], _, _, _, _ => by rw [Qj]; rfl
 | x :: xs, [], _, h, _ => by simp at h
 | x :: xs, s :: ps, i, h, hg => by
  have h0 := hg 0 x s rfl rfl
  rw [Nat.add_zero] at h0
  rw [Qj, h0, List.length_cons, List.range'_succ, List.map_cons, List.zip_cons_cons, Jei (vs := xs) (ps := ps) (i := i + 1) nb fun j y t hy ht => by
   rw [show i + 1 + j = i + (j + 1) by omega]; exact hg (j + 1) y t Mx MR]
theorem Jxc (k : Int) (ins : List Ty) (m : Nat) : ((List.range' 0 m).map fun j => J0 k 0 ins j) = Kg k ins m := by
 unfold Kg; rw [List.range_eq_range']
theorem Ji1 : ∀ {l : List (Ty × List UInt8)}, Jiy l → (Jk9 l : Int) ≤ JV (l.map Prod.fst) + ZB l + 4 * l.length
 | [], _ => by rw [Jk9, ZB, List.map_nil, JV]; simp
 | (x, s) :: l, h => by
  have h1 := Ji1 (l := l) fun p hp => h p (List.mem_cons_of_mem _ hp)
  have h2 := h _ List.mem_cons_self
  simp only at h2; rw [Jk9, ZB, List.map_cons, JV, Wx, List.length_cons]
  simp only
  split
  ·rename_i h3
   have := h2 h3
   omega
  ·omega
theorem Jpq {A H : Nat} : ∀ {l : List (Ty × List UInt8)} {vs : List Vl} {n : Nat}, vs.length = l.length → Jiy l → (∀ p ∈ l, JA p.1 = true → 1 ≤ JO p.1) → (∀ (j : Nat) p v, l[j]? = some p → vs[j]? = some v → wV v ≤ A * p.2.length + 1) → H + n + Jk9 l < 4294967296 → wL vs ≤ (A + 1) * ((Wz H l n).length + ZB l)
 | [], [], _, _, _, _, _, _ => by rw [wL]; exact Nat.zero_le _
 | [], _ :: _, _, h, _, _, _, _ => by simp at h
 | _ :: _, [], _, h, _, _, _, _ => by simp at h
 | (x, s) :: l, v :: vs, n, h, hs, hz, hg, hb => by
  rw [Jk9] at hb; simp only at hb
  have g0 := hg 0 (x, s) v rfl rfl
  simp only at g0
  have hs2 : Jiy l := fun p hp => hs p (List.mem_cons_of_mem _ hp)
  have hz2 : ∀ p ∈ l, JA p.1 = true → 1 ≤ JO p.1 := fun p hp => hz p (List.mem_cons_of_mem _ hp)
  have hg2 : ∀ (j : Nat) p u, l[j]? = some p → vs[j]? = some u → wV u ≤ A * p.2.length + 1 := fun j p u hp hu => hg (j + 1) p u (by simpa using hp) (by simpa using hu)
  rw [wL, Wz, ZB]
  by_cases hf : JA x = true
  ·have ih := Jpq (A := A) (H := H) (l := l) (vs := vs) (n := n) nb hs2 hz2 hg2 m0
   have h1 := hs _ List.mem_cons_self hf
   have h2 := hz _ List.mem_cons_self hf
   simp only at h1 h2; rw [if_pos hf, if_pos hf, List.length_append, Nat.add_assoc, Nat.mul_add]
   have h3 : 1 ≤ s.length := by omega
   rw [Nat.add_mul, Nat.one_mul]; omega
  ·have ih := Jpq (A := A) (H := H) (l := l) (vs := vs) (n := n + s.length) nb hs2 hz2 hg2 m0
   rw [if_neg hf, if_neg hf, List.length_append, Jk8 m0]
   have e : 4 + (Wz H l (n + s.length)).length + (s.length + ZB l) = ((Wz H l (n + s.length)).length + ZB l) + (s.length + 4) := by omega
   rw [e, Nat.mul_add, Nat.mul_add (A + 1) s.length 4, Nat.add_mul A 1 s.length, Nat.one_mul]; omega
theorem xf {s : List UInt8} : ∀ {N i : Nat}, i < N → Qg s i = true → Wc s N < N ∧ i ≤ Wc s N ∧ Qg s (Wc s N) = true ∧ ∀ j, Wc s N < j → j < N → Qg s j = false
 | 0, _, h, _ => by omega
 | N + 1, i, h, hb => by
  rw [Wc]
  by_cases e : Qg s N = true
  ·rw [if_pos e]
   exact ⟨Nat.lt_succ_self _, by omega, e, fun j h1 h2 => by omega⟩
  ·rw [if_neg e]
   have hi : i ≠ N := fun h => e (h ▸ hb)
   obtain ⟨h1, h2, h3, h4⟩ := xf (N := N) (i := i) m0 hb
   refine ⟨by omega, h2, h3, fun j h5 h6 => ?_⟩
   by_cases hj : j = N
   ·subst hj; simpa using e
   ·exact h4 j h5 m0
theorem we {s : List UInt8} (hx : ¬ (s.getLast? = none ∨ s.getLast? = some 0)) : s.length = (Wc s (8 * s.length) + 8) / 8 ∧ Qg s (Wc s (8 * s.length)) = true ∧ ∀ i, Wc s (8 * s.length) < i → i < 8 * s.length → Qg s i = false := by
 have hne : s ≠ [] := fun e => hx (.inl (by rw [e]; rfl))
 have hpos : 0 < s.length := List.length_pos_iff.2 hne
 obtain ⟨x, hl⟩ : ∃ x, s.getLast? = some x := by
  cases h : s.getLast? with
  | none => exact absurd (.inl h) hx
  | some x => exact ⟨x, rfl⟩
 have h0 : x ≠ 0 := fun e => hx (.inr (by rw [hl, e]))
 have hg : s.getD (s.length - 1) 0 = x := by
  rw [List.getLast?_eq_getElem?] at hl; rw [List.getD_eq_getElem?_getD, hl]; rfl
 have hj : ∃ j, j < 8 ∧ x.toNat.testBit j = true := by
  refine Decidable.byContradiction fun hn => h0 (Jho fun j hj => ?_)
  have : ¬ x.toNat.testBit j = true := fun h => hn ⟨j, hj, h⟩
  rw [Bool.not_eq_true] at this; rw [this]; simp
 obtain ⟨j, hj, hb⟩ := hj
 have hbit : Qg s (8 * (s.length - 1) + j) = true := by
  unfold Qg
  rw [show (8 * (s.length - 1) + j) / 8 = s.length - 1 by omega, show (8 * (s.length - 1) + j) % 8 = j by omega, hg]; exact hb
 obtain ⟨h1, h2, h3, h4⟩ := xf (N := 8 * s.length) m0 hbit
 exact ⟨by omega, h3, h4⟩
theorem qL {s : List UInt8} : ∀ {ts : List Ty} {at_ : Nat} {os : List Nat} {q : List UInt8}, q ∈ VH s ts at_ os → q.length ≤ s.length
 | [], _, _, _, h => by rw [VH] at h; cases h
 | x :: xs, at_, os, q, h => by
  rw [VH] at h
  split at h
  ·rcases List.mem_cons.1 h with rfl | h
   ·rw [List.length_take, List.length_drop]; omega
   ·exact qL h
  ·rcases List.mem_cons.1 h with rfl | h
   ·rw [List.length_drop, List.length_take]; omega
   ·exact qL h
theorem chkL_mem : ∀ {ins : List Ty} {d : Int}, Xc ins d = 0 → ∀ x ∈ ins, Va x d = 0
 | [], _, _, x, hx => by cases hx
 | y :: ys, d, h, x, hx => by
  rw [Xc] at h
  by_cases h1 : Va y d = 0
  ·rw [if_pos h1] at h
   rcases List.mem_cons.1 hx with rfl | hx
   ·exact h1
   ·exact chkL_mem h x hx
  ·rw [if_neg h1] at h; exact absurd h h1
theorem jd {k n : Int} {ins : List Ty} {s : List UInt8} (hk : 1 ≤ k ∧ k ≤ 8) (ho : JG k n ins.length = true) (h3 : k = 3 ∨ k = 4 ∨ k = 7) (h : (JM k n ins s).2 = 0) :
  (JM k n ins s).1 ≤ 512 ∧ (k = 3 → ((JM k n ins s).1 : Int) = n) ∧ (k = 7 → (JM k n ins s).1 = ins.length) ∧ (k = 4 → ((JM k n ins s).1 : Int) ≤ n) := by
 unfold JG at ho
 unfold JM at h ⊢
 rcases h3 with rfl | rfl | rfl
 ·exact DO
 ·simp only [show ¬ ((4 : Int) = 7) by decide, show ¬ ((4 : Int) = 3) by decide, if_false] at h ⊢
  simp at ho
  split at h
  ·rename_i h1; rw [if_pos h1]; simp; omega
  ·rename_i h1
   rw [if_neg h1]
   split at h
   ·rename_i h2
    rw [if_pos h2]
    split at h
    ·simp at h
    ·rename_i h4
     rw [if_neg h4]
     split at h
     ·simp at h
     ·rename_i h5
      rw [if_neg h5]
      simp only
      refine ⟨?_, fun e => absurd e m7, fun e => absurd e m7, fun _ => ?_⟩
      ·revert h5; generalize s.length / (JO (J0 4 0 ins 0)).toNat = q; intro h5; omega
      ·revert h5; generalize s.length / (JO (J0 4 0 ins 0)).toNat = q; intro h5; omega
   ·rename_i h2
    rw [if_neg h2]
    split at h
    ·simp at h
    ·rename_i h4
     rw [if_neg h4]
     split at h
     ·simp at h
     ·rename_i h5
      rw [if_neg h5]
      simp only
      refine ⟨?_, fun e => absurd e m7, fun e => absurd e m7, fun _ => ?_⟩
      ·revert h5; generalize V4 (s.take 4) / 4 = q; intro h5; omega
      ·revert h5; generalize V4 (s.take 4) / 4 = q; intro h5; omega
 ·exact DO
theorem ZC {k n : Int} {ins : List Ty} {s : List UInt8} (hk : 1 ≤ k ∧ k ≤ 8) (ho : JG k n ins.length = true) (h3 : k = 3 ∨ k = 4 ∨ k = 7) (h : (JM k n ins s).2 = 0) : ∀ i, i < (JM k n ins s).1 → VQ k 0 i < ins.length := by
 intro i hi
 obtain ⟨_, _, h7, _⟩ := jd hk ho h3 h
 unfold JG at ho
 unfold VQ
 rcases h3 with rfl | rfl | rfl
 ·exact DO
 ·exact DO
 ·have := h7 rfl
  simp; omega
theorem Jt2 (t : Ty) : ∀ (d : Nat), Va t (d : Int) = 0 → ∀ (s : List UInt8) (v : Vl), s.length ≤ 100000 → Ku t s = (v, 0) → Kz v t = 0 ∧ Vz v t = s ∧ W0 v = v ∧ wV v ≤ (7 - d) * s.length + 1 := by
 induction t using Ty.ind with
 | h k n p ins ih =>
 intro d hcd s v hlen hget
 have hc : Va (.mk k n p ins) 0 = 0 := yC hcd
 obtain ⟨hk8, ho, hd6, hsubd⟩ := Qv hcd
 have hsub := WN hc
 rw [Ku] at hget
 unfold j3 at hget
 by_cases hfx : JA (.mk k n p ins) = true ∧ (s.length : Int) ≠ JO (.mk k n p ins)
 ·rw [if_pos hfx] at hget; simp at hget
 rw [if_neg hfx] at hget
 have hsz : JA (.mk k n p ins) = true → (s.length : Int) = JO (.mk k n p ins) := fun h => Decidable.byContradiction fun h2 => hfx ⟨h, h2⟩
 have hplain : k = 1 ∨ k = 2 ∨ k = 5 → (s.length : Int) = JO (.mk k n p ins) := fun h => hsz (by
  rw [Jgp hc, VP]
  unfold JG at ho
  have hi : ins = [] := by
   rcases h with rfl | rfl | rfl <;> simp at ho <;> first | exact ho.1 | exact ho.1.1
  subst hi; rw [Yw]
  rcases h with rfl | rfl | rfl <;> rfl)
 rw [JO] at hplain
 by_cases h1 : k = 1
 ·subst h1
  rw [if_pos rfl] at hget
  obtain rfl := (Prod.mk.inj hget).1
  have hs1 := hplain (.inl rfl)
  rw [if_pos rfl] at hs1
  unfold JG at ho
  simp at ho
  have hn : s.length ≤ 32 := by omega
  obtain ⟨a, b, c, e, hnum⟩ : ∃ a b c e, Xd s = [a, b, c, e] := by
   have := (xY s).1
   match hq : Xd s, this with
   | [a, b, c, e], _ => exact ⟨a, b, c, e, rfl⟩
  have hle := Jwi hn
  rw [hnum] at hle
  unfold jm
  rw [hnum]; simp only [List.getD_cons_zero, List.getD_cons_succ]; refine ⟨?_, ?_, ?_, ?_⟩
  ·refine (WF m0 ?_).trans (by rw [Qx])
   rw [Qw 1 n ins.length a b c e [] none [] none 0 _ rfl, if_pos rfl, Qn]
   have hb : (WD [a, b, c, e]).length ≤ s.length := by
    have hz := fun t h3 h4 => Jm5 hn (t := t) h3 h4
    rw [hnum] at hz; exact (qe _ 32 _).2 hz
   simp; omega
  ·rw [QV, if_pos rfl, show n.toNat = s.length by omega, hle]
  ·rw [KB, Xp]
  ·rw [wV, wL]; simp
 by_cases h2 : k = 2
 ·subst h2
  rw [if_neg h1, if_pos rfl] at hget
  have hs1 := hplain (.inr (.inl rfl))
  rw [if_neg h1, if_pos rfl] at hs1
  match s, hs1 with
  | [x], _ =>
  by_cases hx : 1 < x.toNat
  ·rw [if_pos MP] at hget; simp at hget
  rw [if_neg MP] at hget
  obtain rfl := (Prod.mk.inj hget).1
  have hx2 : x = 0 ∨ x = 1 := by
   have : x.toNat = 0 ∨ x.toNat = 1 := by omega
   rcases this with h | h
   ·exact .inl (by rw [← UInt8.toNat_inj]; exact h)
   ·exact .inr (by rw [← UInt8.toNat_inj]; exact h)
  have hi : ins = [] := by unfold JG at ho; simp at ho; exact ho.1
  subst hi
  rcases hx2 with rfl | rfl
  ·have e : jm (Xd [0]) = .mk 0 0 0 0 [] none [] none 0 := by rw [show Xd [0] = [0, 0, 0, 0] by decide +kernel]; rfl
   rw [e]; refine ⟨(WF m0 (by rw [Qw 2 n _ 0 0 0 0 [] none [] none 0 _ rfl]; rfl)).trans (by rw [Qx]), by rw [QV, if_neg m7, if_pos rfl]; decide +kernel, by rw [KB, Xp], by rw [wV, wL]; simp⟩
  ·have e : jm (Xd [1]) = .mk 1 0 0 0 [] none [] none 0 := by rw [show Xd [1] = [1, 0, 0, 0] by decide +kernel]; rfl
   rw [e]; refine ⟨(WF m0 (by rw [Qw 2 n _ 1 0 0 0 [] none [] none 0 _ rfl]; rfl)).trans (by rw [Qx]), by rw [QV, if_neg m7, if_pos rfl]; decide +kernel, by rw [KB, Xp], by rw [wV, wL]; simp⟩
 rw [if_neg h1, if_neg h2] at hget; rw [if_neg h1, if_neg h2] at hplain
 by_cases h5 : k = 5
 ·subst h5
  rw [if_pos rfl] at hget
  have hs1 := hplain (.inr (.inr rfl))
  rw [if_pos rfl] at hs1
  by_cases hx : ((J4 s (8 * s.length)).drop n.toNat).any id = true
  ·rw [if_pos hx] at hget; simp at hget
  rw [if_neg hx] at hget
  obtain rfl := (Prod.mk.inj hget).1
  unfold JG at ho
  simp at ho
  have hl : s.length = (n.toNat + 7) / 8 := by omega
  have hz : ∀ i, n.toNat ≤ i → i < 8 * s.length → Qg s i = false := fun i h3 h4 => by
   rw [Bool.not_eq_true, List.any_eq_false] at hx
   have := hx (Qg s i) (List.mem_iff_getElem?.2 ⟨i - n.toNat, by rw [List.getElem?_drop, show n.toNat + (i - n.toNat) = i by omega, Vj s h4]⟩)
   simpa using this
  unfold Yl
  refine ⟨(WF m0 ?_).trans (by rw [Qx]), ?_, by rw [KB, Xp], ?_⟩
  ·rw [Qw 5 n _ 0 0 0 0 _ none [] none 0 _ rfl, if_neg h1, if_neg h2, if_neg m7, if_neg m7, if_pos rfl, Qn, Kq]
   simp; omega
  ·rw [QV, if_neg h1, if_neg h2, if_pos rfl, ve hl hz]
  ·exact DF
 rw [if_neg h5] at hget
 by_cases h6 : k = 6
 ·subst h6
  rw [if_pos rfl] at hget
  by_cases hx : s.getLast? = none ∨ s.getLast? = some 0
  ·rw [if_pos hx] at hget; simp at hget
  rw [if_neg hx] at hget
  by_cases hn : n < (Wc s (8 * s.length) : Int)
  ·rw [if_pos hn] at hget; simp at hget
  rw [if_neg hn] at hget
  obtain rfl := (Prod.mk.inj hget).1
  obtain ⟨L, hL⟩ : ∃ L, L = Wc s (8 * s.length) := ⟨_, rfl⟩
  obtain ⟨q1, q2, q3⟩ := we hx
  rw [← hL] at hn q1 q2 q3 ⊢
  unfold Yl
  refine ⟨(WF MS ?_).trans (by rw [Qx]), ?_, by rw [KB, Xp], ?_⟩
  ·rw [Qw 6 n _ 0 0 0 0 _ none [] none 0 _ rfl]; rfl
  ·rw [QV, if_neg h1, if_neg h2, if_neg h5, if_pos rfl]
   have e : J4 s L ++ [true] = J4 s (L + 1) := by
    apply List.ext_getElem?
    intro i
    by_cases hi : i < L
    ·rw [List.getElem?_append_left (by rw [Kq]; exact hi), Vj s hi, Vj s m0]
    ·by_cases hi2 : i = L
     ·subst hi2
      rw [List.getElem?_append_right (by rw [Kq]; exact Nat.le_refl _), Kq, Nat.sub_self, Vj s (Nat.lt_succ_self _), q2]; rfl
     ·rw [List.getElem?_eq_none (by rw [List.length_append, Kq]; simp; omega), List.getElem?_eq_none MS]
   rw [e]; exact ve m0 fun i h3 h4 => q3 i m0 h4
  ·exact DF
 rw [if_neg h6] at hget
 by_cases h8 : k = 8
 ·subst h8
  rw [if_pos rfl] at hget
  cases s with
  | nil => simp at hget
  | cons b r =>
  simp only at hget
  by_cases hb : ins.length ≤ b.toNat
  ·rw [if_pos hb] at hget; simp at hget
  rw [if_neg hb] at hget
  by_cases hg : ((XK ins).getD b.toNat g0 r).2 ≠ 0
  ·rw [if_pos hg] at hget; exact absurd (Prod.mk.inj hget).2 hg
  rw [if_neg hg] at hget
  obtain rfl := (Prod.mk.inj hget).1
  obtain ⟨x, hx⟩ : ∃ x, ins[b.toNat]? = some x := ⟨_, List.getElem?_eq_getElem m0⟩
  have hxm := List.mem_of_getElem? hx
  rw [wd hx] at hg ⊢
  obtain ⟨y, hy⟩ : ∃ y, y = (Ku x r).1 := ⟨_, rfl⟩
  have hgx : Ku x r = (y, 0) := by rw [hy, ← Decidable.not_not.1 hg]
  rw [← hy]
  obtain ⟨i1, i2, i3, i4⟩ := ih x hxm (d + 1) (by have := hsubd x hxm; simpa using this) r y (by simp at hlen; omega) hgx
  have hin : J0 8 (b.toNat : Int) ins 0 = x := by
   unfold J0 VQ
   rw [if_neg m7, if_pos rfl, Int.toNat_natCast, List.getD_eq_getElem?_getD, hx]; rfl
  unfold JG at ho
  simp at ho
  unfold KP
  refine ⟨(WF m0 ?_).trans ?_, ?_, ?_, ?_⟩
  ·rw [Qw 8 n _ 0 0 0 0 [] none [y] none b.toNat _ rfl, if_neg h1, if_neg h2, if_neg m7, if_neg m7, if_neg h5, if_neg h6, if_neg m7, Qn]
   simp; omega
  ·rw [Qx, hin, if_pos i1, Qx]
  ·rw [QV, if_neg h1, if_neg h2, if_neg h5, if_neg h6, if_pos rfl, Qj, hin, i2]
   simp only [List.headD_cons, Int.toNat_natCast]; rw [show UInt8.ofNat b.toNat = b from by rw [← UInt8.toNat_inj, UInt8.toNat_ofNat']; exact Nat.mod_eq_of_lt (UInt8.toNat_lt b)]
  ·rw [KB, Xp, Xp, i3]
  ·rw [wV, wL, wL, List.length_cons]
   have e : (7 - d) * (r.length + 1) = (7 - (d + 1)) * r.length + r.length + (7 - d) := by
    rw [Nat.mul_add, Nat.mul_one]
    congr 1
    have : 7 - d = (7 - (d + 1)) + 1 := by omega
    rw [this, Nat.add_mul, Nat.one_mul]
   simp only [List.length_nil, Nat.zero_div]; omega
 rw [if_neg h8] at hget
 have h3 : k = 3 ∨ k = 4 ∨ k = 7 := by omega
 unfold j0 at hget
 by_cases hm : (JM k n ins s).2 ≠ 0
 ·rw [if_pos hm] at hget; exact absurd (Prod.mk.inj hget).2 hm
 rw [if_neg hm] at hget
 have hm0 := Decidable.not_not.1 hm
 obtain ⟨m1, m2, m3, m4⟩ := jd hk8 ho h3 hm0
 have hX := ZC hk8 ho h3 hm0
 generalize hM : (JM k n ins s).1 = M at *
 by_cases hbg : (s.length : Int) < JV (Kg k ins M)
 ·rw [if_pos hbg] at hget; simp at hget
 rw [if_neg hbg] at hget
 have hbl := YX (Kg k ins M)
 obtain ⟨H, hH⟩ : ∃ H, H = (JV (Kg k ins M)).toNat := ⟨_, rfl⟩
 have hHi : JV (Kg k ins M) = (H : Int) := by omega
 rw [← hH] at hget
 cases hos : Qy s H (Kg k ins M) 0 H false with
 | none => rw [hos] at hget; simp at hget
 | some os =>
 rw [hos] at hget; simp only at hget
 have hty : ∀ i, i < M → ins[VQ k 0 i]? = some (J0 k 0 ins i) ∧ J0 k 0 ins i ∈ ins := fun i hi => Kw (hX i hi)
 have htys : ∀ x ∈ Kg k ins M, x ∈ ins := fun x hx => by
  unfold Kg at hx
  obtain ⟨i, hi, rfl⟩ := List.mem_map.1 hx
  exact (hty i (List.mem_range.1 hi)).2
 generalize hps : VH s (Kg k ins M) 0 os = ps at *
 obtain ⟨o, r, rfl, o1, o2, o3⟩ := wc hos m0 (fun _ => rfl)
 have ho3 := (o3 rfl).symm
 subst ho3
 have hg := Jba m0 m0 hos m0 (Nat.le_refl _) (fun _ => rfl) (fun x _ hx => by have := jc hx; omega) m0 H r rfl
 rw [hps, Nat.sub_self, List.drop_zero] at hg
 obtain ⟨f1, f2, f3, f4⟩ := hg
 rw [VG] at f4
 by_cases hr : (Vt (((List.range M).map fun i => (XK ins).getD (VQ k 0 i) g0).zip ps)).2 ≠ 0
 ·rw [if_pos hr] at hget; exact absurd (Prod.mk.inj hget).2 hr
 rw [if_neg hr] at hget
 obtain ⟨vs, hvs⟩ : ∃ vs, vs = (Vt (((List.range M).map fun i => (XK ins).getD (VQ k 0 i) g0).zip ps)).1 := ⟨_, rfl⟩
 have hrun : Vt (((List.range M).map fun i => (XK ins).getD (VQ k 0 i) g0).zip ps) = (vs, 0) := by rw [hvs]; exact Prod.ext rfl (Decidable.not_not.1 hr)
 rw [← hvs] at hget
 obtain rfl := (Prod.mk.inj hget).1
 obtain ⟨r1, r2⟩ := Jeh hrun
 have hvl : vs.length = M := by rw [r1, List.length_zip, List.length_map, List.length_range, f4, Nat.min_self]
 have hall : ∀ (j : Nat) x q, vs[j]? = some x → ps[j]? = some q → Kz x (J0 k 0 ins j) = 0 ∧ Vz x (J0 k 0 ins j) = q ∧ W0 x = x ∧ wV x ≤ (7 - (d + 1)) * q.length + 1 := fun j x q hx hq => by
  have hj : j < M := by rw [← hvl]; exact (List.getElem?_eq_some_iff.1 hx).1
  obtain ⟨e1, e2⟩ := hty j hj
  have hql : q.length ≤ 100000 := by
   have hqm := List.mem_of_getElem? hq
   rw [← hps] at hqm
   have := qL hqm
   omega
  refine ih _ e2 (d + 1) (by have := hsubd _ e2; simpa using this) q x hql (r2 j _ q x ?_ hx); rw [List.getElem?_zip_eq_some]; exact ⟨by rw [List.getElem?_map, List.getElem?_range hj, Option.map_some, wd e1], hq⟩
 have hpl : Qj vs k 0 ins 0 = (Kg k ins M).zip ps := by
  rw [Jei (ps := ps) (by rw [hvl, f4]) fun j x q hx hq => by rw [Nat.zero_add]; exact (hall j x q hx hq).2.1, hvl, Jxc]
 have hzl : ((Kg k ins M).zip ps).length = M := by rw [List.length_zip, VG, f4, Nat.min_self]
 have hfst : ((Kg k ins M).zip ps).map Prod.fst = Kg k ins M := by
  rw [List.map_fst_zip]; rw [VG, f4]; exact Nat.le_refl _
 have htl := congrArg List.length f2
 rw [yE, List.length_drop] at htl
 have hfl := congrArg List.length f1
 rw [List.length_take, Nat.min_eq_left m0] at hfl
 have hsb := Ji1 f3
 rw [hfst, hHi, hzl] at hsb
 have hitem : ∀ (j : Nat) x, vs[j]? = some x → ∃ q, ps[j]? = some q := fun j x hx => by
  have hj : j < M := by rw [← hvl]; exact (List.getElem?_eq_some_iff.1 hx).1
  exact ⟨_, List.getElem?_eq_getElem m0⟩
 unfold KP
 refine ⟨(WF ?_ ?_).trans ?_, ?_, ?_, ?_⟩
 ·rw [hvl]
  rintro (⟨e1, e2⟩ | ⟨e1, _⟩)
  ·have := m4 e1; omega
  ·omega
 ·rw [Qw k n _ 0 0 0 0 [] none vs none 0 _ rfl, Qn, Qn, Qn, Qn, hvl]
  rcases h3 with rfl | rfl | rfl
  ·have := m2 rfl; simp; omega
  ·simp
  ·have := m3 rfl; simp; omega
 ·exact zZ fun j x hx => by
   obtain ⟨q, hq⟩ := hitem j x hx
   rw [Nat.zero_add]; exact (hall j x q hx hq).1
 ·rw [QV, if_neg h1, if_neg h2, if_neg h5, if_neg h6, if_neg h8, Ja6 h8, Jeb, hvl, ← hH, hpl, Ja9, List.nil_append, List.nil_append, List.length_nil, f1, f2, List.take_append_drop]
 ·rw [KB, Jpp fun x hx => by
   obtain ⟨j, hj⟩ := List.getElem?_of_mem hx
   obtain ⟨q, hq⟩ := hitem j x hj
   exact (hall j x q hj hq).2.2.1]
 ·have hw := Jpq (A := 7 - (d + 1)) (H := H) (l := (Kg k ins M).zip ps) (vs := vs) (n := 0) (by rw [hvl, hzl]) f3 (fun p _ hp => jc hp) (fun j p v hp hv => by
   obtain ⟨q, hq⟩ := hitem j v hv
   rw [List.getElem?_zip_eq_some] at hp
   have e : p.2 = q := by have := hp.2; rw [hq] at this; exact (Option.some.inj this).symm
   rw [e]
   exact (hall j v q hv hq).2.2.2) m0
  rw [hfl, htl, show 7 - (d + 1) + 1 = 7 - d by omega, show H + (s.length - H) = s.length by omega] at hw; rw [wV]; simp only [List.length_nil, Nat.zero_div]; omega
abbrev xg (e : Int) : Value := .iface 113 (.agg #[.int .i64 e])
theorem VS (b : Bool) (e : Int) : PureX (α := Unit) Tryz.prog 94 [.bool b, .int .i64 e].toArray (b = true) (fun v => b = false ∧ v = xg e) (fun _ => .tuple #[]) (fun _ => []) [] := by
 refine XY Tryz.func94 rfl rfl fun w => JS (Nv ?_); refine cD (fun g => ?_) fun g => ?_
 refine Nw ?_; refine Hh ?_; refine V7 rfl (Jnz rfl rfl ?_); exact Qs rfl rfl ⟨by assumption, rfl⟩
 ·refine KK 1 rfl (QB rfl rfl .nil (fun w1 hs1 => ?_)); exact .inl ⟨by assumption, (), rfl, hs1.weakL (List.nil_sublist _)⟩
theorem Ji2 (h : 4 ≤ s.length) : Ze (s.take 4) = (V4 (s.take 4), 0) ∧ V4 (s.take 4) < 4294967296 := by
 have hl : (s.take 4).length = 4 := by rw [List.length_take]; omega
 have h2 := xR (s.take 4)
 rw [hl] at h2; refine ⟨?_, h2⟩
 unfold Ze
 rw [if_neg m0]
theorem Jpr (h : 4 ≤ s.length) : Pure Tryz.prog 186 [Jw s].toArray (.int .i64 ((V4 (s.take 4) : Nat) : Int)) := by
 obtain ⟨h1, h2⟩ := Ji2 h
 refine J8 Tryz.func186 rfl rfl fun w => GS ?_; refine LR rfl (KV (kl := none) (kh := some (.i64, 4)) (m := 0) (n := 4) rfl rfl rfl rfl rfl rfl m0 m0 (show _ = s.take 4 from by rw [List.drop_zero])) (J6 rfl rfl rfl (enters_of Tryz.func246 m5 rfl) (Jgi (s.take 4)) (Jk (congrArg Jtn h1) (JK 11 rfl (Jk (show _ = Value.int .i64 ((V4 (s.take 4) : Nat)) from congrArg (Value.int .i64) (wrap_i64 m0 m0)) ?_)))); exact Nz
theorem yF (h : s.length = 4) : Pure Tryz.prog 248 [Jw s].toArray (.int .i64 ((V4 s : Nat) : Int)) := by
 obtain ⟨h1, h2⟩ := Ji2 (s := s) m0
 rw [List.take_of_length_le m0] at h1 h2; refine J8 Tryz.func248 rfl rfl fun w => GS ?_; refine J6 rfl rfl rfl (enters_of Tryz.func264 m5 rfl) (Jgj s) (Jk (congrArg Jtn h1) (JK 11 rfl (Jk (show _ = Value.int .i64 ((V4 s : Nat)) from congrArg (Value.int .i64) (wrap_i64 m0 m0)) ?_))); exact Nz
theorem j4 (s : BS) : ∃ a b c d, Xd s = [a, b, c, d] := by
 have := (xY s).1
 match hq : Xd s, this with
 | [a, b, c, d], _ => exact ⟨a, b, c, d, rfl⟩
theorem Ji3 (h : s.length ≤ 32) : Zk (Wu s).reverse = (Xd s, 0) := by
 unfold Zk Xd
 rw [if_pos (by rw [List.length_reverse, VX h])]
theorem xh (h : s.length ≤ 32) : Pure Tryz.prog 144 [Jw s].toArray (Go.SL.wV (Xd s)) := by
 have hu := Ji3 h
 have hp := VX h
 obtain ⟨a, b, c, d, hn⟩ := j4 s
 rw [hn] at hu ⊢; refine J8 Tryz.func144 rfl rfl fun w => MX fun r1 => ?_; refine Gc ?_; refine HK ?_; refine Jk (show _ = Value.int .i64 ((32 - s.length : Nat)) from congrArg (Value.int .i64) ma) (Gq ?_); refine J6 rfl rfl rfl Jog (Jd9 (s := Wu s) m0) (J6 rfl rfl rfl (enters_of Tryz.func184 m5 rfl) (yo (Wu s).reverse) (Jk (congrArg Jmr hu) (gw ?_))); refine LN rfl fun r2 => ?_
 exact kQ
theorem Ji4 (s : BS) (i : Nat) : KL (J4 s (i + 1)) = KL (J4 s i) ++ [Value.bool (Qg s i)] := by
 unfold KL J4
 rw [List.range_succ, List.map_append, List.map_append]; rfl
theorem Jps {b : UInt8} : (b.toNat / 2 ^ i) &&& 1 = if b.toNat.testBit i then 1 else 0 := by
 rw [Nat.and_one_is_mod, Nat.testBit_eq_decide_div_mod_eq]
 by_cases h : b.toNat / 2 ^ i % 2 = 1
 ·rw [h]; simp
 ·rw [if_neg nb]; omega
theorem Jpt {n : Nat} (hn : n ≤ 8 * s.length) (hl : s.length ≤ 100000) : PureT (α := { row : Vg // rowOk 1 n (KL (J4 s n)) row }) Tryz.prog 145 [Jw s, .int .i64 (n : Int)].toArray (fun x => J3 n x.1) [] (fun x => JL 4 (KL (J4 s n)) x.1) [] := by
 refine J2 Tryz.func145 rfl rfl fun w => JS (JE 18 rfl (Jy (σ := Nat × Vg) (fun q => q.1 ≤ n ∧ rowOk 1 q.1 (KL (J4 s q.1)) q.2) (fun q => [(0, Jw s), (5, J3 q.1 q.2), (7, .int .i64 (n : Int)), (8, .int .i64 (q.1 : Int))]) (fun q => JL 4 (KL (J4 s q.1)) q.2) (fun _ _ _ => True) (fun q => n - q.1) (0, none) ⟨Nat.zero_le _, rfl, rfl⟩ (lK rfl) (List.Sublist.refl _) (fun _ _ h => h) ?_)); rintro ⟨i, row⟩ ⟨hi1, hrow⟩; simp only at hi1 hrow; refine Nv ?_; refine cD (fun g => ?_) fun g => ?_
 ·refine Jt 15 rfl (Jk nn (LR rfl (KU (j := i / 8) rfl rfl rfl rfl m0 rfl) (NC ?_))); refine Jk n5 (LR rfl (jL (n := i % 8) (b := (((s.getD (i / 8) 0).toNat / 2 ^ (i % 8) : Nat) : Int)) rfl rfl rfl M9 m0 MO) (LR rfl (vO (op := .and) (m := (s.getD (i / 8) 0).toNat / 2 ^ (i % 8)) (n := 1) rfl rfl rfl (Nat.lt_of_le_of_lt (Nat.div_le_self _ _) (QC _)) m7 (congrArg Int.ofNat Jps)) ?_))
  refine V7 rfl (Jk ny (Hm fun r1 => ?_)); refine JF (L0 := [_]) (xs := KL (J4 s i)) (row := row) (n := i) (sz := 1) (b := 1) (news := [Value.bool (Qg s i)]) (List.perm_append_comm (l₁ := [_])) rfl rfl rfl rfl (kn 0 rfl) rfl rfl rfl rfl rfl m7 rfl rfl rfl m7 hrow m0 m0 fun ra cap sp hra => Gc ?_; refine Nf ?_; exact NV
 ·exact Hv
section
variable {c : Cx} {l : Ko} {L : Jj} {X : XP} {d : List Deferred} {i : Nat} {t t2 : TypeId} {ps : String} {af : Array Edge} {gd : Option (Nat × Bool)} {ty : TypeId}
theorem Jbb {x y : Operand} {a : Nat} (hx : Kh l x = some (.int .i64 (a : Int))) (hy : Kh l y = some (.int .i64 (b : Int))) (h0 : 0 < b) : J9 c d l L X ⟨some i, .binOp .rem t x y t2, ty, ps, af, gd⟩ (.int .i64 ((a % b : Nat) : Int)) := fun a' w hf _ => by
 simp only [execOp]; rw [hf.eval hx, hf.eval hy]
 have e1 : ¬ ((b : Int) = 0) := by omega
 simp only [binOp, eqGuard, Op.intDiv, if_neg e1, Sem.run_bind]
 rfl
theorem ZD {x y : Operand} {a : Nat} (hx : Kh l x = some (.int .i64 (a : Int))) (hy : Kh l y = some (.int .i64 (b : Int))) (h0 : 0 < b) (ha : a ≤ 9223372036854775807) : J9 c d l L X ⟨some i, .binOp .quo t x y t2, ty, ps, af, gd⟩ (.int .i64 ((a / b : Nat) : Int)) := fun a' w hf _ => by
 simp only [execOp]; rw [hf.eval hx, hf.eval hy]
 have e1 : ¬ ((b : Int) = 0) := by omega
 have e2 := QP (a := (a : Int)) (b := (b : Int)) m0 m0 m0
 simp only [binOp, eqGuard, Op.intDiv, if_neg e1, Sem.run_bind, e2]
 rfl
end
structure VR (v : Vl) : Type where
  x : Vl
  L : Jj
  ok : x.In L
  er : W0 x = v
def vp (n : Int) (s : List UInt8) : Vl × Int := if s.getLast? = none ∨ s.getLast? = some 0 then (v0L, 2) else if n < (Wc s (8 * s.length) : Int) then (v0L, 5) else (Yl (J4 s (Wc s (8 * s.length))), 0)
theorem Jej (h : s ≠ []) : s.getLast? = some (s.getD (s.length - 1) 0) := by
 have hp : 0 < s.length := List.length_pos_iff.2 h
 rw [List.getLast?_eq_getElem?, List.getD_eq_getElem?_getD, List.getElem?_eq_getElem m0]; rfl
theorem Jbc {n : Int} (h : s = []) : vp n s = (v0L, 2) := by unfold vp; rw [if_pos (.inl (by rw [h]; rfl))]
theorem Jvr {n : Int} (h : s.getD (s.length - 1) 0 = 0) : vp n s = (v0L, 2) := by
 by_cases h0 : s = []
 ·exact Jbc h0
 ·unfold vp; rw [if_pos (.inr (by rw [Jej h0, h]))]
theorem Jpu (h0 : s ≠ []) (h : s.getD (s.length - 1) 0 ≠ 0) : ¬ (s.getLast? = none ∨ s.getLast? = some 0) := by
 rw [Jej h0]
 rintro (h1 | h1)
 ·cases h1
 ·exact h (Option.some.inj h1)
theorem Ji5 {x : UInt8} : (((x.toNat : Int) != 0) = false) ↔ x = 0 := by
 rw [Z6, ← UInt8.toNat_inj]; exact Int.natCast_eq_zero
theorem Jek (s : BS) {n : Nat} (h : m ≤ n) : (KL (J4 s n)).take m = KL (J4 s m) := by
 unfold KL J4
 rw [← List.map_take, ← List.map_take, List.take_range, Nat.min_eq_left h]
theorem qM (s : BS) (n : Nat) : (KL (J4 s n)).length = n := by unfold KL; rw [List.length_map, Kq]
theorem Jbd (s : BS) {n : Nat} (h : i < n) (sp : List Value) : W1 (KL (J4 s n) ++ sp) i = some (.bool (Qg s i)) := by
 rw [Vd, List.getElem?_append_left (by rw [qM]; exact h)]
 unfold KL
 rw [List.getElem?_map, Vj s h]; rfl
theorem u0 : YK 0 := by unfold YK; omega
theorem i0 : Yo 0 := by unfold Yo; omega
theorem ZE  {n : Nat} (h : m ≤ n) (hc : n ≤ cap) (h0 : n ≤ 800000) : Vl.In [(r, .cells (KL (J4 s n) ++ sp).toArray e (0, 0))] (.mk 0 0 0 0 (J4 s m) (some (⟨r, 0, none⟩, cap)) [] none 0) := by
 refine .mk u0 u0 u0 u0 MS ?_ m7 rfl i0 (fun x hx => nomatch hx); refine ⟨by rw [Kq]; omega, fun _ => ⟨rfl, _, e, (0, 0), List.mem_singleton_self _, ?_⟩⟩; simp only [List.toList_toArray, List.drop_zero]; rw [qM, List.take_append_of_le_length (by rw [qM]; exact h), Jek s h]
theorem Ji6 (s : BS) (m r cap : Nat) : Vl.val (.mk 0 0 0 0 (J4 s m) (some (⟨r, 0, none⟩, cap)) [] none 0) = .agg #[.int .u64 0, .int .u64 0, .int .u64 0, .int .u64 0, .slice (some ⟨r, 0, none⟩) m cap, .slice none 0 0, .int .i64 0] := by
 show Value.agg #[uV 0, uV 0, uV 0, uV 0, Value.slice (some ⟨r, 0, none⟩) (J4 s m).length cap, Value.slice none 0 0, Value.int .i64 0] = _
 rw [Kq]; rfl
theorem Jxd {n : Int} {v : Value} (hno : ¬ (s.getLast? = none ∨ s.getLast? = some 0)) (hv : decide ((Wc s (8 * s.length) : Int) ≤ n) = false ∧ v = xg 5) : (vp n s).2 ≠ 0 ∧ v = xg (vp n s).2 := by
 have h : n < (Wc s (8 * s.length) : Int) := by have := hv.1; rw [Z2] at this; omega
 have e : (vp n s).2 = 5 := by unfold vp; rw [if_neg hno, if_pos h]
 rw [e]; exact ⟨by decide, hv.2⟩
theorem Jvs {n : Int} (hno : ¬ (s.getLast? = none ∨ s.getLast? = some 0)) (h : decide ((Wc s (8 * s.length) : Int) ≤ n) = true) : vp n s = (Yl (J4 s (Wc s (8 * s.length))), 0) := by
 have h : ¬ n < (Wc s (8 * s.length) : Int) := by rw [Z1] at h; omega
 unfold vp; rw [if_neg hno, if_neg h]
theorem Jla {k n : Int} {p : Pl} {ins : List Ty} (hl : s.length ≤ 100000) (hn : Yo n) : PureX (α := VR (vp n s).1) Tryz.prog 146 [Ty.val (.mk k n p ins), Jw s].toArray ((vp n s).2 = 0) (fun v => (vp n s).2 ≠ 0 ∧ v = xg (vp n s).2) (fun y => y.x.val) (fun y => y.L) [] := by
 have bad2 : s = [] ∨ s.getD (s.length - 1) 0 = 0 → (vp n s).2 = 2 := fun h => h.elim (fun h => by rw [Jbc h]) (fun h => by rw [Jvr h])
 have hbad2 : ∀ {v : Value} {b : Bool}, s = [] ∨ s.getD (s.length - 1) 0 = 0 → b = false ∧ v = xg 2 → (vp n s).2 ≠ 0 ∧ v = xg (vp n s).2 := fun h hv => by rw [bad2 h]; exact ⟨by decide, hv.2⟩
 have hT := Jpt (s := s) (n := 8 * s.length) (Nat.le_refl _) hl
 refine XY Tryz.func146 rfl rfl fun w => Nd fun r1 r2 => ?_; refine ND ?_; refine LR rfl (ZL rfl rfl) (QK rfl ?_)
 refine Jp 9 rfl (fun gb => ?_) (fun gb => ?_) <;> (try simp only [ZZ] at gb) <;> first | (refine QK rfl ?_) | (refine LK rfl ?_)
 all_goals refine LW 1 [] rfl rfl ?_
 all_goals refine NG ?_
 all_goals first | (have hpos : 0 < s.length := List.length_pos_iff.2 ‹s ≠ []›; refine V7 rfl ?_; refine Jk mY ?_) | refine LK rfl ?_
 all_goals first | (refine LR rfl (KU (j := s.length - 1) rfl rfl rfl rfl m0 rfl) ?_) | refine LK rfl ?_
 all_goals refine Gv ?_
 all_goals refine KZ rfl rfl rfl jk (VS (_) 2) oN (fun hok _ => ?_) (fun v hv => Qs rfl rfl (hbad2 (by first | exact .inl ‹_› | exact .inr (Ji5.1 hv.1)) hv))
 all_goals try exact Bool.noConfusion hok
 refine NR ?_
 have hne : s ≠ [] := ‹s ≠ []›
 have hpos : 0 < s.length := List.length_pos_iff.2 hne
 have hno := Jpu hne (fun e => by rw [e] at hok; cases hok)
 obtain ⟨q1, q2, q3⟩ := we hno
 refine GW ?_; refine HK ?_; refine Jk mw (JW rfl rfl rfl (enters_of Tryz.func145 m5 rfl) hT oN fun x => ?_)
 obtain ⟨row, hrow⟩ := x
 match row, hrow with | none, hrow => ?_ | some (ra, cap, sp), hrow => ?_
 all_goals first | exact absurd hrow.1 m0 | skip
 refine Gc ?_; refine kz ?_; refine V7 rfl (Jk mR (JQ 5 rfl (Jy (σ := Nat) (fun i => Wc s (8 * s.length) ≤ i ∧ i < 8 * s.length) (fun i => [(2, QR r1), (4, QR r2), (5, .slice (some ⟨ra, 0, none⟩) (8 * s.length) cap), (6, .int .i64 (i : Int))]) (fun i => [(ra, .cells (KL (J4 s (8 * s.length)) ++ sp).toArray 4 (0, 0)), WE r2 v0L, Vs r1 (.mk k n p ins)]) (fun _ _ _ => True) (fun i => i) (8 * s.length - 1) ⟨by omega, by omega⟩ (lK rfl) (List.Sublist.refl _) (fun _ _ h => h) ?_))); rintro i ⟨hi1, hi2⟩; change HC _ _ _ ((ra, _) :: (r2, _) :: (r1, _) :: []) _ _ _; refine kS ?_; refine Hu ?_; refine NR ?_; refine cD (fun h14 => ?_) fun h14 => ?_
 refine Gw ?_
 have hlt : Wc s (8 * s.length) ≠ i := fun e => by rw [e] at q2; rw [q2] at h14; cases h14
 exact Gh
 ·refine Nv ?_
  have hcap : 8 * s.length ≤ cap := by have := hrow.2; omega
  have hL : i = Wc s (8 * s.length) := Decidable.byContradiction fun hne => by have := q3 i m0 hi2; rw [this] at h14; cases h14
  subst hL; refine QZ 5 [2] rfl rfl (KZ rfl rfl rfl jk (VS (_) 5) oN (fun hok _ => ?_) (fun v hv => Qs rfl rfl (Jxd hno hv))); refine Gc ?_
  refine LR rfl (JT (kl := none) (kh := some (Wc s (8 * s.length))) (km := none) (m := 0) (q := Wc s (8 * s.length)) (z := cap) (off' := 0) (sz := 1) rfl rfl rfl trivial ⟨_, rfl⟩ trivial rfl rfl rfl m0 m0 (Nat.le_refl _) (fun e => nomatch e) nV) ?_; refine No ?_
  refine Db ?_; refine HX ?_; refine Ho fun w1 hs1 => ?_
  have hbo := Jvs hno hok
  refine .inl ⟨by rw [hbo], ⟨.mk 0 0 0 0 (J4 s (Wc s (8 * s.length))) (some (⟨ra, 0, none⟩, cap)) [] none 0, [(ra, .cells (KL (J4 s (8 * s.length)) ++ sp).toArray 4 (0, 0))], ZE m0 m0 m0, by rw [hbo, KB, Xp]; rfl⟩, congrArg Ending.returned (Ji6 s _ ra cap).symm, hs1.weakL ((List.cons_sublist_cons).2 (List.nil_sublist _))⟩
theorem Jgq {k n : Int} {ins : List Ty} {y : Nat} (h7 : k ≠ 7) (h3 : k ≠ 3) (hs : s ≠ []) (hF : JA (J0 k 0 ins 0) = true → B = s.length ∧ y = (JO (J0 k 0 ins 0)).toNat) (hV : JA (J0 k 0 ins 0) = false → 4 ≤ s.length ∧ V4 (s.take 4) ≠ 0 ∧ B = V4 (s.take 4) ∧ y = 4) :
  JM k n ins s = if B % y ≠ 0 then (0, 2) else if n < ((B / y : Nat) : Int) then (0, 5) else (B / y, 0) := by
 unfold JM
 rw [if_neg h7, if_neg h3, if_neg hs]
 cases h : JA (J0 k 0 ins 0) with
 | true => obtain ⟨rfl, rfl⟩ := hF h; rw [if_pos rfl]
 | false =>
  obtain ⟨e1, e2, rfl, rfl⟩ := hV h
  rw [if_neg mf]
  by_cases h4 : V4 (s.take 4) % 4 ≠ 0
  ·rw [if_pos (.inr (.inl h4)), if_pos h4]
  ·rw [if_neg (by rintro (h | h | h); omega; exact h4 h; exact e2 h), if_neg h4]
theorem Jxe {k n : Int} {ins : List Ty} (h7 : k ≠ 7) (h3 : k ≠ 3) (hs : s ≠ []) (hF : JA (J0 k 0 ins 0) = false) (h : s.length < 4 ∨ V4 (s.take 4) = 0) : (JM k n ins s).2 = 2 := by
 unfold JM
 rw [if_neg h7, if_neg h3, if_neg hs, hF, if_neg mf, if_pos (by rcases h with h | h; exact .inl h; exact .inr (.inr h))]
theorem Jgr {k n : Int} {ins : List Ty} (h7 : k = 7) : JM k n ins s = (ins.length, 0) := by unfold JM; rw [if_pos h7]
theorem Jgs {k n : Int} {ins : List Ty} (h7 : k ≠ 7) (h3 : k = 3) : JM k n ins s = (n.toNat, 0) := by unfold JM; rw [if_neg h7, if_pos h3]
theorem Jgt {k n : Int} {ins : List Ty} (h7 : k ≠ 7) (h3 : k ≠ 3) (hs : s = []) : JM k n ins s = (0, 0) := by unfold JM; rw [if_neg h7, if_neg h3, if_pos hs]
theorem WH {r : Int} {v : Value} {e : Int} {b : Bool} (h : r = e) (he : e ≠ 0) (hv : b = false ∧ v = xg e) : r ≠ 0 ∧ v = xg r := by rw [h]; exact ⟨he, hv.2⟩
theorem Jxf {k n : Int} {p : Pl} {ins : List Ty} (ht : Ty.In R (.mk k n p ins)) (hc : Va (.mk k n p ins) 0 = 0) (hk3 : k = 3 ∨ k = 4 ∨ k = 7) (hl : s.length ≤ 100000) :
  PureX (α := Unit) Tryz.prog 185 [Ty.val (.mk k n p ins), Jw s].toArray ((JM k n ins s).2 = 0) (fun v => (JM k n ins s).2 ≠ 0 ∧ v = xg (JM k n ins s).2) (fun _ => .int .i64 ((JM k n ins s).1 : Int)) (fun _ => []) R := by
 obtain ⟨hk8, ho, _, _⟩ := Qv hc
 have hsg : Seg R ins.length (zf ins) p := by cases ht; assumption
 have hin0 : VQ k 0 0 < ins.length := by
  unfold JG at ho
  unfold VQ
  rcases hk3 with rfl | rfl | rfl <;> simp at ho ⊢ <;> omega
 obtain ⟨hx0, hxm⟩ := Kw hin0
 have hsz := vZ (ht.sub _ hxm)
 have hfx := jc (t := J0 k 0 ins 0)
 have hbl := Yd (J0 k 0 ins 0)
 have hbe := WM (J0 k 0 ins 0)
 obtain ⟨y, hy⟩ : ∃ y : Nat, Wx (J0 k 0 ins 0) = (y : Int) := ⟨_, (Int.toNat_of_nonneg m0).symm⟩
 rw [hy] at hsz hbl hbe
 have hnk : k = 3 → 0 ≤ n := fun e => by subst e; unfold JG at ho; simp at ho; omega
 refine XY Tryz.func185 rfl rfl fun w => MX fun r1 => ?_; refine Goc 13 [0] rfl rfl (cD (fun g => ?_) fun g => ?_)
 refine kK ?_; refine LR rfl (Jq rfl hsg rfl) (Jz 6 rfl (NP fun w1 hs1 => ?_)); exact .inl ⟨by rw [Jgr ‹k = 7›], (), by rw [Jgr ‹k = 7›]; rfl, hs1.weakL (List.nil_sublist _)⟩
 ·refine Gcc 8 [0] rfl rfl (cD (fun h7 => ?_) fun h7 => ?_)
  refine kK ?_; refine Jk nk (Jz 6 rfl (NP fun w1 hs1 => ?_)); exact .inl ⟨by rw [Jgs ‹k ≠ 7› ‹k = 3›], (), by rw [Jgs ‹k ≠ 7› ‹k = 3›]; rfl, hs1.weakL (List.nil_sublist _)⟩
  ·refine GW ?_; refine Dx ?_; refine NR ?_; refine cD (fun g => ?_) fun g => ?_
   refine GD ?_; refine NP fun w1 hs1 => ?_; exact .inl ⟨by rw [Jgt ‹k ≠ 7› ‹k ≠ 3› ‹s = []›], (), by rw [Jgt ‹k ≠ 7› ‹k ≠ 3› ‹s = []›]; rfl, hs1.weakL (List.nil_sublist _)⟩
   ·refine JE 4 rfl ?_
    have h7 : k ≠ 7 := ‹_›
    have h3 : k ≠ 3 := ‹_›
    have hne : s ≠ [] := ‹_›
    have hx00 : ins[0]? = some (J0 k 0 ins 0) := by have := hx0; unfold VQ at this; rw [if_neg h7] at this; split at this <;> exact this
    refine gu ?_; refine Jb rfl rfl rfl Jik hsz oR (JK 10 rfl (Nx ?_)); refine JQ 10 rfl (cD (fun g => ?_) fun g => ?_)
    ·refine GW ?_; refine De ?_
     refine Jp 39 rfl (fun gb => ?_) (fun gb => ?_) <;> (try simp only [ZZ] at gb) <;> first | (refine QK rfl ?_) | (refine LK rfl ?_)
     all_goals first | (refine J6 rfl rfl rfl Joo (Jpr (s := s) m0) ?_) | refine LK rfl ?_
     all_goals refine Gv ?_
     all_goals refine KZ rfl rfl rfl jk (VS (_) 2) oN (fun hok _ => ?_) (fun v hv => Qs rfl rfl (WH (Jxe ‹k ≠ 7› ‹k ≠ 3› hne ‹JA (J0 k 0 ins 0) = false› (by first | exact .inl m0 | exact .inr (Int.natCast_eq_zero.1 (Z6.1 hv.1)))) m7 hv))
     all_goals try exact Bool.noConfusion hok
     have hl0 := fun e => Z5.1 hok (Int.natCast_eq_zero.2 e)
     refine GV ?_; refine J6 rfl rfl rfl Joo (Jpr (s := s) m0) (kR ?_)
     (have hif : JA (J0 k 0 ins 0) = false := ‹_›
      rw [hif, if_neg m7] at hbe
      have hlt := (Ji2 (s := s) m0).2
      have hmq := Jgq (n := n) (ins := ins) (B := V4 (s.take 4)) (y := y) h7 h3 hne (fun e => by rw [hif] at e; cases e) (fun _ => ⟨by omega, hl0, rfl, by omega⟩)
      obtain ⟨B, hB⟩ : ∃ B, B = V4 (s.take 4) := ⟨_, rfl⟩
      have hBl : B ≤ 4294967295 := by omega
      rw [← hB] at hmq ⊢)
     refine GW ?_; refine LR rfl (Jbb (a := B) (b := y) rfl rfl m0) (V7 rfl (KZ rfl rfl rfl jk (VS (_) 2) oN (fun hok _ => ?_) (fun v hv => Qs rfl rfl (WH Mk m7 hv))))
     have hmod : ¬ B % y ≠ 0 := fun e => e (Int.natCast_eq_zero.1 (Z3.1 hok))
     refine NR ?_
     refine kc ?_; refine KZ rfl rfl rfl jk (VS (_) 5) oN (fun hok _ => ?_) (fun v hv => Qs rfl rfl (WH Ml m7 hv)); exact gg
    ·refine Gw ?_
     (have hif : JA (J0 k 0 ins 0) = true := ‹_›
      rw [if_pos hif] at hbe
      have hmq := Jgq (n := n) (ins := ins) (B := s.length) (y := y) h7 h3 hne (fun _ => ⟨rfl, by omega⟩) (fun e => by rw [hif] at e; cases e)
      obtain ⟨B, hB⟩ : ∃ B, B = s.length := ⟨_, rfl⟩
      have hBl : B ≤ 4294967295 := by omega
      rw [← hB] at hmq ⊢)
     refine GW ?_; refine LR rfl (Jbb (a := B) (b := y) rfl rfl m0) (V7 rfl (KZ rfl rfl rfl jk (VS (_) 2) oN (fun hok _ => ?_) (fun v hv => Qs rfl rfl (WH Mk m7 hv))))
     have hmod : ¬ B % y ≠ 0 := fun e => e (Int.natCast_eq_zero.1 (Z3.1 hok))
     refine NR ?_
     refine kc ?_; refine KZ rfl rfl rfl jk (VS (_) 5) oN (fun hok _ => ?_) (fun v hv => Qs rfl rfl (WH Ml m7 hv)); exact gg
def Kf : List Ty → Nat → List Nat → List (Ty × Nat × Nat)
 | [], _, _ => []
 | x :: xs, a, os => if JA x then (x, a, a + (JO x).toNat) :: Kf xs (a + (JO x).toNat) os else (x, os.getD 0 0, os.getD 1 0) :: Kf xs (a + 4) os.tail
theorem Xu : ∀ (ts : List Ty) (a : Nat) (os : List Nat), (Kf ts a os).length = ts.length
 | [], _, _ => rfl
 | x :: xs, a, os => by rw [Kf]; split <;> rw [List.length_cons, Xu xs, List.length_cons]
theorem j5 (s : BS) : ∀ (ts : List Ty) (a : Nat) (os : List Nat), VH s ts a os = (Kf ts a os).map fun q => (s.take q.2.2).drop q.2.1
 | [], _, _ => rfl
 | x :: xs, a, os => by
  rw [VH, Kf]
  split
  ·rw [List.map_cons, j5 s xs]
   congr 1
   simp only
   rw [List.drop_take]
   congr 1; omega
  ·rw [List.map_cons, j5 s xs]
theorem qN : ∀ (ts : List Ty) (a : Nat) (os : List Nat), (Kf ts a os).map Prod.fst = ts
 | [], _, _ => rfl
 | x :: xs, a, os => by rw [Kf]; split <;> rw [List.map_cons, qN xs]
def cV : List Ty → Nat
 | [] => 0
 | x :: xs => if JA x then cV xs else cV xs + 1
theorem Jbe : ∀ (ts : List Ty) (x : Ty), cV (ts ++ [x]) = if JA x then cV ts else cV ts + 1
 | [], x => rfl
 | y :: ys, x => by
  rw [List.cons_append, cV, cV, Jbe ys x]
  by_cases h1 : JA y = true <;> by_cases h2 : JA x = true <;> simp [h1, h2]
def Vw : List Ty → Int
 | [] => -1
 | x :: xs => if 0 ≤ Vw xs then Vw xs + 1 else if JA x then -1 else 0
theorem Y5 : ∀ ts : List Ty, -1 ≤ Vw ts ∧ Vw ts < ts.length
 | [] => by rw [Vw]; simp
 | x :: xs => by
  have := Y5 xs
  rw [Vw, List.length_cons]
  split
  ·omega
  ·split <;> omega
theorem j6 : ∀ (ts : List Ty) (x : Ty), Vw (ts ++ [x]) = if JA x then Vw ts else (ts.length : Int)
 | [], x => rfl
 | y :: ys, x => by
  rw [List.cons_append, Vw, Vw, j6 ys x]
  by_cases h2 : JA x = true
  ·rw [if_pos h2, if_pos h2]
  ·rw [if_neg h2, if_neg h2, if_pos m0, List.length_cons]; omega
theorem qO {x : Ty} (hx : JA x = true) : ∀ (ts : List Ty) (a : Nat) (os : List Nat), (∀ y ∈ ts, JA y = true → 0 ≤ JO y) → ∀ b : Nat, (b : Int) = a + JV ts → Kf (ts ++ [x]) a os = Kf ts a os ++ [(x, b, b + (JO x).toNat)]
 | [], a, os, _, b, hb => by
  rw [JV] at hb
  have : b = a := by omega
  subst this
  show Kf [x] _ os = [(x, _, _)]
  rw [Kf, if_pos hx, Kf]
 | y :: ys, a, os, hy, b, hb => by
  have hy2 : ∀ z ∈ ys, JA z = true → 0 ≤ JO z := fun z hz => hy z (List.mem_cons_of_mem _ hz)
  rw [JV, Wx] at hb; rw [List.cons_append, Kf, Kf]
  by_cases hf : JA y = true
  ·have h0 := hy y List.mem_cons_self hf
   rw [if_pos hf] at hb; rw [if_pos hf, if_pos hf, qO hx ys _ os hy2 b m0]; rfl
  ·rw [if_neg hf] at hb
   rw [if_neg hf, if_neg hf, qO hx ys _ os.tail hy2 b m0]; rfl
theorem qP {x : Ty} (hx : ¬ JA x = true) (v e : Nat) : ∀ (ts : List Ty) (a : Nat) (pre : List Nat), pre.length = cV ts → Kf (ts ++ [x]) a (pre ++ [v, e]) = Kf ts a (pre ++ [v]) ++ [(x, v, e)]
 | [], a, pre, hp => by
  rw [cV] at hp
  obtain rfl := List.length_eq_zero_iff.1 hp
  show Kf [x] _ [v, e] = [(x, v, e)]
  rw [Kf, if_neg hx, Kf]; rfl
 | y :: ys, a, pre, hp => by
  rw [cV] at hp; rw [List.cons_append, Kf, Kf]
  by_cases hf : JA y = true
  ·rw [if_pos hf] at hp
   rw [if_pos hf, if_pos hf, qP hx v e ys _ pre hp]; rfl
  ·rw [if_neg hf] at hp
   rw [if_neg hf, if_neg hf]
   cases pre with
   | nil => simp at hp
   | cons u pre =>
    have hp2 : pre.length = cV ys := by simpa using hp
    have e1 : (u :: pre ++ [v, e]).tail = pre ++ [v, e] := rfl
    have e2 : (u :: pre ++ [v]).tail = pre ++ [v] := rfl
    rw [e1, e2, qP hx v e ys _ pre hp2]
    have e3 : (u :: pre ++ [v, e]).getD 1 0 = (u :: pre ++ [v]).getD 1 0 := by cases pre <;> rfl
    rw [e3]; rfl
theorem j7 : ∀ (ts : List Ty) (a : Nat) (os os' : List Nat), Vw ts = -1 → Kf ts a os = Kf ts a os'
 | [], _, _, _, _ => rfl
 | x :: xs, a, os, os', h => by
  rw [Vw] at h
  have := Y5 xs
  by_cases h1 : 0 ≤ Vw xs
  ·rw [if_pos h1] at h; omega
  ·rw [if_neg h1] at h
   by_cases hf : JA x = true
   ·rw [Kf, Kf, if_pos hf, if_pos hf, j7 xs _ os os' m0]
   ·rw [if_neg hf] at h; omega
theorem Jpv : ∀ {ts : List Ty}, 0 ≤ Vw ts → 0 < cV ts
 | [], h => by rw [Vw] at h; omega
 | x :: xs, h => by
  rw [Vw] at h; rw [cV]
  by_cases h1 : 0 ≤ Vw xs
  ·have := Jpv h1
   split <;> omega
  ·rw [if_neg h1] at h
   split
   ·rename_i hf; rw [if_pos hf] at h; omega
   ·omega
theorem Ji7 : ∀ {ts : List Ty}, Vw ts = -1 → cV ts = 0
 | [], _ => rfl
 | x :: xs, h => by
  rw [Vw] at h; rw [cV]
  have := Y5 xs
  by_cases h1 : 0 ≤ Vw xs
  ·rw [if_pos h1] at h; omega
  ·rw [if_neg h1] at h
   by_cases hf : JA x = true
   ·rw [if_pos hf]; exact Ji7 m0
   ·rw [if_neg hf] at h; omega
theorem yG (v e : Nat) : ∀ (ts : List Ty) (a : Nat) (pre : List Nat) (j : Nat), pre.length = cV ts → Vw ts = (j : Int) → ∃ x f, (Kf ts a (pre ++ [e]))[j]? = some (x, f, e) ∧ Kf ts a (pre ++ [v]) = (Kf ts a (pre ++ [e])).set j (x, f, v)
 | [], _, _, j, _, h => by rw [Vw] at h; omega
 | y :: ys, a, pre, j, hp, h => by
  have hge := Y5 ys
  rw [cV] at hp; rw [Vw] at h; rw [Kf, Kf]
  by_cases h1 : 0 ≤ Vw ys
  ·rw [if_pos h1] at h
   obtain ⟨j', rfl⟩ : ∃ j', j = j' + 1 := ⟨j - 1, by omega⟩
   by_cases hf : JA y = true
   ·rw [if_pos hf] at hp
    obtain ⟨x, f, g1, g2⟩ := yG v e ys (a + (JO y).toNat) pre j' hp m0
    rw [if_pos hf, if_pos hf]; exact ⟨x, f, by rw [List.getElem?_cons_succ]; exact g1, by rw [List.set_cons_succ, ← g2]⟩
   ·rw [if_neg hf] at hp
    cases pre with
    | nil => simp at hp
    | cons u pre =>
     obtain ⟨x, f, g1, g2⟩ := yG v e ys (a + 4) pre j' (by simpa using hp) m0
     rw [if_neg hf, if_neg hf]
     have hpos : 0 < cV ys := Jpv h1
     have e3 : (u :: pre ++ [v]).getD 1 0 = (u :: pre ++ [e]).getD 1 0 := by
      cases pre with
      | nil => simp at hp; omega
      | cons _ _ => rfl
     rw [e3]; exact ⟨x, f, by rw [List.getElem?_cons_succ]; exact g1, by rw [List.set_cons_succ]; exact congrArg _ g2⟩
  ·rw [if_neg h1] at h
   by_cases hf : JA y = true
   ·rw [if_pos hf] at h; omega
   ·rw [if_neg hf] at h hp
    have hj : j = 0 := by omega
    subst hj
    have hc0 : cV ys = 0 := Ji7 m0
    cases pre with
    | nil => simp at hp
    | cons u pre =>
     have hn : pre = [] := List.length_eq_zero_iff.1 (by simp at hp; omega)
     subst hn; rw [if_neg hf, if_neg hf]; refine ⟨y, u, rfl, ?_⟩; rw [j7 ys (a + 4) (([u] ++ [v]).tail) (([u] ++ [e]).tail) m0]; rfl
def prC (q : Ty × Nat × Nat) : List Value := q.1.cells ++ [.int .i64 (q.2.1 : Int), .int .i64 (q.2.2 : Int)]
def XL (l : List (Ty × Nat × Nat)) : List Value := l.flatMap prC
theorem je (q : Ty × Nat × Nat) : (prC q).length = 5 := by unfold prC; rw [List.length_append, Ty.len]; rfl
theorem Jel (l : List (Ty × Nat × Nat)) : (XL l).length = l.length * 5 := Qd je l
theorem Jxg (x : Ty) (f e v : Nat) : (prC (x, f, e)).set 4 (.int .i64 (v : Int)) = prC (x, f, v) := by
 obtain ⟨k, n, p, ins⟩ := x; rfl
theorem Jem : ∀ {l : List (Ty × Nat × Nat)} {j : Nat} {x : Ty} {f e : Nat} (v : Nat), l[j]? = some (x, f, e) → (XL l).set (j * 5 + 4) (.int .i64 (v : Int)) = XL (l.set j (x, f, v))
 | [], _, _, _, _, _, h => by simp at h
 | q :: l, 0, x, f, e, v, h => by
  cases h
  unfold XL
  rw [List.set_cons_zero, List.flatMap_cons, List.flatMap_cons, List.set_append_left _ _ (by rw [je]; decide), Nat.zero_mul, Nat.zero_add, Jxg]
 | q :: l, j + 1, x, f, e, v, h => by
  have ih := Jem (l := l) v nb
  unfold XL at ih ⊢
  rw [List.set_cons_succ, List.flatMap_cons, List.flatMap_cons, List.set_append_right _ _ (by rw [je]; omega), je, show (j + 1) * 5 + 4 - 5 = j * 5 + 4 by omega, ih]
theorem Xv (l : List (Ty × Nat × Nat)) (q : Ty × Nat × Nat) : XL (l ++ [q]) = XL l ++ prC q := by unfold XL; rw [List.flatMap_append]; simp
def QN (k n : Int) (ins : List Ty) (s : BS) : List Nat × Int :=
 if (JM k n ins s).2 ≠ 0 then ([], (JM k n ins s).2)
 else if (s.length : Int) < JV (Kg k ins (JM k n ins s).1) then ([], 2)
 else match Qy s (JV (Kg k ins (JM k n ins s).1)).toNat (Kg k ins (JM k n ins s).1) 0 (JV (Kg k ins (JM k n ins s).1)).toNat false with
  | none => ([], 2)
  | some os => (os, 0)
theorem Jpw {k n : Int} {p : Pl} {ins : List Ty} (ht : Ty.In R (.mk k n p ins)) (hm : m ≤ 1000000) (hx : ∀ i, i < m → VQ k 0 i < ins.length) (rt ri : Nat) :
    Jn1 Tryz.prog 230 [QR ri, QR rt] (jz ri m :: Vs rt (.mk k n p ins) :: R) 0 (nxN (itV k ins) m) (Jfi m) := by
  refine Jdd Tryz.func230 rfl rfl fun q xids w2 XI XF pc hY => kj ?_; intro i hi; refine Nv ?_; refine cD (fun g => ?_) fun g => ?_
  · refine JE 11 rfl ?_
    have hil : i < m := by omega
    refine kI ?_; refine Jkn (XT := XI (i + 1)) (XF := XF) (pc := pc) rfl rfl rfl rfl (hY i (itV k ins i) (i + 1) ⟨hil, rfl, rfl⟩) ?_ ?_ (fun ch hch => Jid fun w1 hs1 => .inr ⟨ch, rfl, hch, hs1.keep⟩)
    all_goals (
     refine H2 ?_; refine JH rfl (fun g => ?_) (fun g => ?_)
     · try exact Bool.noConfusion g
       all_goals try simp only [ZZ] at g
       all_goals (
        refine KK 5 rfl (Jd rfl rfl .nil (fun w1 hs1 => ?_))
        obtain ⟨xs1, hx1⟩ := hs1.now
        exact .inl ⟨⟨_, rfl⟩, hs1.keep, .inr ⟨_, hx1⟩⟩
        skip)
     · try exact Bool.noConfusion g
       all_goals try simp only [ZZ] at g
       all_goals (
        refine kS ?_; refine Nf ?_; exact Nt
        skip)
     skip)
  · refine gn fun w1 hs1 => ?_
    obtain ⟨xs1, hx1⟩ := hs1.now
    exact .inl ⟨⟨_, rfl⟩, hs1.keep, .inl ⟨i, _, (by show i = m; omega), hx1⟩⟩
end Go.Proofs.YteceenlfegnigaaGreatDoor
