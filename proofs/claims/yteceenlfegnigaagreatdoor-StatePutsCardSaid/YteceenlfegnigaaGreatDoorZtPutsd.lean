import Derived.Test.YteceenlfegnigaaGreatDoorZtPutsc
set_option maxRecDepth 100000
namespace Go.Proofs.YteceenlfegnigaaGreatDoor
set_option linter.all false
open Go.SL Go.RowKit Go.Shelf
variable {a : AcL} {af : Array Edge} {at_ : Array TypeId} {cs : Array Value} {Y s : BS} {own rs : Bool} {Q : Exit → Act → World → Prop} {g : FuncId} {dp : Int} {L L' R Rl : Ji} {xs : List (BS × BS)} {pa : List (Nat × Operand)} {caps sp vs : List Value} {α : Type} {ys : List α} {B N b c cap d e i j m r rb rv sz : Nat} {fr : Nat × Nat} {gd : Option (Nat × Bool)} {dst : Option Nat} {pb pi : Pl} {P : Program} {ps : String} {T t x : Ty} {q : Ty × Nat × Nat} {ty : TypeId} {row : Vk} {v y z : Vl} {w : World} {X : XP} {f : α → List Value} {V : α → Value}
theorem Jut {n k : Nat} (hn : n < 18446744073709551616) (hk : k < 9223372036854775808) : Pure Tryz.prog 274 [uV n, .int .i64 (k : Int)].toArray (uV (Jcd n k)) := by
 refine J5 Tryz.func274 rfl rfl fun w => JT ?_
 have hk6 : k % 64 < 64 := Nat.mod_lt _ m6
 refine Jr 9 rfl (Jn (show _ = uV k from congrArg (Value.int .u64) (wrap_u64 m0 m0)) (LR rfl (Vx (op := .and) (b := ((k % 64 : Nat) : Int)) rfl rfl rfl m0 m6 (congrArg (fun z : Nat => (z : Int)) (Nat.and_two_pow_sub_one_eq_mod k 6))) (GT ?_))); refine LR rfl (zf (n := k % 64) (b := ((n * 2 ^ (k % 64) % 18446744073709551616 : Nat) : Int)) rfl rfl rfl mY (Jxv _)) (kz ?_); refine Jn (show _ = uV (64 - k % 64) from congrArg (Value.int .u64) (by rw [wrap_u64 m0 m0]; omega)) (LR rfl (wl (n := 64 - k % 64) rfl rfl rfl mY m0 (vC _ _)) (LR rfl (Vx (op := .or) (b := ((Jcd n k : Nat) : Int)) rfl rfl rfl (Nat.mod_lt _ m6) (Nat.lt_of_le_of_lt (Nat.div_le_self _ _) hn) rfl) ?_)); exact MY
theorem Jat : Pure Tryz.prog 273 [].toArray (.func (.func 282) #[] #[]) := by
 refine J5 Tryz.func273 rfl rfl fun w => JT (KS 11 rfl ?_); exact MK
def Jod (i : Nat) : List Value := [.int .i64 (i : Int), .agg [.int .i64 ((i % 5 : Nat) : Int), .int .i64 ((i / 5 : Nat) : Int)].toArray]
theorem Jau : xl Tryz.prog 282 [] [] 0 (nxN Jod 25) (Jez 25) := by
  refine Wr Tryz.func282 rfl rfl fun q xids w2 XI XF hY => JT (Nd ?_); refine Jw (σ := Nat) (fun i => i ≤ 25) (fun i => [(0, .func (.yield q) #[] #[]), (3, .int .i64 (i : Int))]) (fun _ => []) (fun i => XI i) (fun i => 25 - i) 0 (Nat.zero_le _) (lK rfl) (List.nil_sublist _) (fun _ _ h => h) ?_; intro i hi; refine Nd ?_; refine cD (fun g => ?_) fun g => ?_
  · refine Jr 16 rfl (Jn (show _ = Value.int .i64 ((i % 5 : Nat) : Int) from congrArg (Value.int .i64) (W6 _ 5)) (ko ?_)); refine Jn (show _ = Value.int .i64 ((i / 5 : Nat) : Int) from congrArg (Value.int .i64) nF) (LR rfl (J8 (r := [_, _]) rfl rfl) (W9 (XT := XI (i + 1)) (XF := XF) rfl rfl rfl rfl (hY i (Jod i) (i + 1) ⟨by omega, rfl, rfl⟩) ?_ ?_))
    all_goals (
     refine G0 ?_; refine JA rfl (fun g => ?_) (fun g => ?_)
     · try exact Bool.noConfusion g
       all_goals try simp only [ZZ] at g
       all_goals (
        exact MB
        skip)
     · try exact Bool.noConfusion g
       all_goals try simp only [ZZ] at g
       all_goals (
        refine NT ?_; exact Na
        skip)
     skip)
  · refine kv fun w1 hs1 => ?_
    obtain ⟨xs1, hx1⟩ := hs1.now
    exact ⟨⟨_, rfl⟩, hs1.keep, .inl ⟨i, _, (by show i = 25; omega), hx1⟩⟩
def kO (a : List Nat) : Obj := .cells (a.map uV).toArray 216 (0, 0)
def cO (c : List Nat) : Obj := .cells (c.map uV).toArray 235 (0, 0)
theorem Jj5 {a : List Nat} (ha : SOk 25 a) (r : Nat) : PureM Tryz.prog 272 [.pointer (some ⟨r, 0, none⟩)].toArray (.tuple #[]) r (kO a) (kO (Jjg a)) := by
 refine qO Tryz.func272 rfl rfl fun w => JT ?_
 have hal := ha.1
 obtain ⟨cc, hcc⟩ : ∃ c, c = cS a 25 := ⟨_, rfl⟩
 have hc : SOk 5 cc := by rw [hcc]; exact Jcf ha 25
 have hmx : Jjg a = mS cc a 25 := by rw [hcc]; rfl
 refine N6 ?_; refine LN rfl fun r1 => GS ?_; refine QD (cs := ((cS a 0).map uV).toArray) rfl rfl rfl rfl fun r2 => N5 ?_; refine Hr ?_; refine Yj (τ := Unit) (fun i (s : List Nat) => s = cS a i ∧ i ≤ 25) (fun s => [(r2, cO s)]) (fun _ _ => False) (fun _ => []) [(r1, _), (r, kO a)] (cS a 0) rfl rfl Jh0 Jau mw rfl me rfl ⟨rfl, by decide⟩ ?_ ?_ ?_
 rintro q Xr Xb w3 i _ _ s ⟨hi, rfl, rfl⟩ ⟨hs, -⟩ Kr hKr; refine inR ?_
 have hsk : SOk 5 s := by rw [hs]; exact Jcf ha i
 have hsl := hsk.1
 refine gU ?_; refine LN rfl fun r2 => ?_
 refine Ng ?_; refine kS ?_; clear hKr; refine JS 1 rfl (JI 11 m5 m5 ?_)
 refine NI ?_; refine Jb rfl rfl rfl (JL (j := i % 5) (m := 1) (off' := i % 5) rfl rfl rfl rfl m0 m0 m0) (GP ?_); refine gp ?_; refine NZ ?_; refine Nh ?_; refine Jb rfl rfl rfl (KG rfl (J2 (k := 1) rfl) rfl (KT (by rw [hal]; omega))) (Jb rfl rfl rfl (Vx (op := .xor) (b := ((s.getD (i % 5) 0 ^^^ a.getD i 0 : Nat) : Int)) rfl rfl rfl (hsk.get _) (ha.get _) rfl) (Jb rfl rfl rfl (JL (j := i % 5) (m := 1) (off' := i % 5) rfl rfl rfl rfl m0 m0 m0) (JY (KR (k := 1) (off := i % 5) (xs := s.map uV) (ys := (cS a (i + 1)).map uV) rfl rfl rfl rfl rfl rfl nk (WB (by rw [hs]; rfl)) rfl (gG ?_))))); exact QQ (cS a (i + 1)) ⟨rfl, by omega⟩ rfl
 rintro D i s hfi ⟨hs, -⟩
 have hi25 : i = 25 := hfi
 subst hi25; rw [← hcc] at hs
 have hs := hs.symm
 subst hs; refine gqo 4 rfl (Hr ?_); refine Wp [3, 0, 1, 2] m6 rfl (Yj (τ := Unit) (fun i (s : List Nat) => s = mS cc a i ∧ i ≤ 25) (fun s => [(r, kO s)]) (fun _ _ => False) (fun _ => []) [(D, _), (r2, cO cc), (r1, _)] (a) rfl rfl Jh0 Jau mw rfl me rfl ⟨rfl, by decide⟩ ?_ ?_ ?_)
 rintro q Xr Xb w3 i _ _ s ⟨hi, rfl, rfl⟩ ⟨hs, -⟩ Kr hKr; refine inR ?_
 have hsk : SOk 25 s := by rw [hs]; exact Jg0 hc ha i
 have hsl := hsk.1
 refine gU ?_; refine LN rfl fun r3 => ?_
 refine Ng ?_; refine kS ?_; clear hKr; refine G3 ?_
 refine GB ?_; refine Goc 4 [0] rfl rfl (JI 21 m5 m5 (Jb rfl rfl rfl (Jd rfl (J2 (k := 2) rfl) rfl rfl) (NZ ?_))); refine Nh ?_; refine GP ?_; refine NZ ?_; refine Qe (show _ = Value.int .i64 ((i % 5 + 5 : Nat) : Int) from congrArg (Value.int .i64) mb) (Mz ?_); refine Qe (show _ = Value.int .i64 ((i % 5 + 5 - 1 : Nat) : Int) from congrArg (Value.int .i64) mb) (Mz ?_); refine Qe (show _ = Value.int .i64 (((i % 5 + 5 - 1) % 5 : Nat) : Int) from congrArg (Value.int .i64) mz) (Jb rfl rfl rfl (JL (j := (i % 5 + 5 - 1) % 5) (m := 1) (off' := (i % 5 + 5 - 1) % 5) rfl rfl rfl rfl m0 m0 m0) (Jb rfl rfl rfl (KG rfl (J2 (k := 1) rfl) rfl (KT (by rw [hc.1]; omega))) (NZ ?_))); refine Qe mK (Mz ?_); refine Qe mE (Jb rfl rfl rfl (JL (j := (i % 5 + 1) % 5) (m := 1) (off' := (i % 5 + 1) % 5) rfl rfl rfl rfl m0 m0 m0) (Jb rfl rfl rfl (KG rfl (J2 (k := 1) rfl) rfl (KT (by rw [hc.1]; omega))) (Qd rfl rfl rfl (enters_of Tryz.func274 m5 rfl) (Jut (k := 1) (hc.get _) m6) (Jb rfl rfl rfl (Vx (op := .xor) (b := ((cc.getD ((i % 5 + 5 - 1) % 5) 0 ^^^ Jcd (cc.getD ((i % 5 + 1) % 5) 0) 1 : Nat) : Int)) rfl rfl rfl (hc.get _) (vI (hc.get _) 1) rfl) (Jb rfl rfl rfl (Vx (op := .xor) (b := ((s.getD i 0 ^^^ (cc.getD ((i % 5 + 5 - 1) % 5) 0 ^^^ Jcd (cc.getD ((i % 5 + 1) % 5) 0) 1) : Nat) : Int)) rfl rfl rfl (hsk.get _) (WI (hc.get _) (vI (hc.get _) 1)) rfl) (Mz ?_)))))); refine Nh ?_; refine JY (KR (k := 1) (off := i) (xs := s.map uV) (ys := (mS cc a (i + 1)).map uV) rfl rfl rfl rfl rfl rfl nk (WB (by rw [hs]; rfl)) rfl (gG ?_)); exact QQ (mS cc a (i + 1)) ⟨rfl, by omega⟩ rfl
 rintro D2 i s hfi ⟨hs, -⟩
 have hi25 : i = 25 := hfi
 subst hi25; refine qN 1 rfl (H2 ?_); refine QK (k := 2) rfl rfl (Jj rfl rfl .nil (fun w1 hs1 => ?_)); exact ⟨rfl, _, List.mem_cons_of_mem _ (by rw [hmx, ← hs]; exact List.mem_cons_self), hs1⟩
 exact kw
 ·exact kw
theorem Jss {a : List Nat} (ha : SOk 25 a) {n : Nat} (hn : n < 18446744073709551616) {by_ : List Nat} (hbl : by_.length = 25) (hby : ∀ i, by_.getD i 0 < 9223372036854775808) (r : Nat) :
  PureM Tryz.prog 260 [.pointer (some ⟨r, 0, none⟩), uV n, .agg (by_.map iV).toArray].toArray (.tuple #[]) r (kO a) (kO (wx by_ a n)) := by
 refine qO Tryz.func260 rfl rfl fun w => JT ?_
 obtain ⟨m, hm⟩ : ∃ m, m = Jjg a := ⟨_, rfl⟩
 have hmk : SOk 25 m := by rw [hm]; exact xO ha
 have hml := hmk.1
 have hbk := Jcg by_ hmk 25
 obtain ⟨b, hb⟩ : ∃ b, b = rS m by_ 25 := ⟨_, rfl⟩
 have hbk : SOk 25 b := by rw [hb]; exact Jcg by_ hmk 25
 have hbln := hbk.1
 have hra : wx by_ a n = Jg2 (xS b m 25) n := by rw [hb, hm]; rfl
 refine N6 ?_; refine LN rfl fun r1 => KO (cs := (by_.map iV).toArray) rfl rfl rfl rfl fun r2 => GS ?_; refine LR rfl (Jd rfl (kn 1 rfl) rfl rfl) (Jb5 (k := 2) rfl rfl rfl (enters_of Tryz.func272 m5 rfl) rfl (Jj5 ha r) rfl ?_); rw [← hm]; refine GS ?_; refine QD (cs := (z25.map uV).toArray) rfl rfl rfl rfl fun r3 => N5 ?_; refine Hr ?_; refine Yj (τ := Unit) (fun i (s : List Nat) => s = rS m by_ i ∧ i ≤ 25) (fun s => [(r3, kO s)]) (fun _ _ => False) (fun _ => []) [(r2, _), (r1, _), (r, kO m)] (z25) rfl rfl Jh0 Jau mw rfl me rfl ⟨rfl, by decide⟩ ?_ ?_ ?_
 rintro q Xr Xb w3 i _ _ s ⟨hi, rfl, rfl⟩ ⟨hs, -⟩ Kr hKr; refine inR ?_
 have hsk : SOk 25 s := by rw [hs]; exact Jcg by_ hmk i
 have hsl := hsk.1
 refine gU ?_; refine LN rfl fun r2 => ?_
 refine Ng ?_; refine kS ?_; clear hKr; refine JS 2 rfl (JI 6 m5 m5 ?_)
 refine NI ?_
 refine Jb rfl rfl rfl (JL (j := 1) rfl rfl rfl rfl rfl mC ma) (Jb rfl rfl rfl (Jd rfl (kn 0 rfl) rfl rfl) (Jb rfl rfl rfl (JH rfl) (Nz ?_))); refine gM ?_; refine JI 19 m5 m5 (Mx ?_); refine NZ ?_; refine Qe (show _ = Value.int .i64 ((2 * (i % 5) : Nat) : Int) from congrArg (Value.int .i64) mb) (NZ ?_); refine Qe (show _ = Value.int .i64 ((3 * (i / 5) : Nat) : Int) from congrArg (Value.int .i64) mb) (Mz ?_); refine Qe (show _ = Value.int .i64 ((2 * (i % 5) + 3 * (i / 5) : Nat) : Int) from congrArg (Value.int .i64) mb) (Mz ?_); refine Qe (show _ = Value.int .i64 (((2 * (i % 5) + 3 * (i / 5)) % 5 : Nat) : Int) from congrArg (Value.int .i64) mz) (Mz ?_); refine Qe (show _ = Value.int .i64 ((5 * ((2 * (i % 5) + 3 * (i / 5)) % 5) : Nat) : Int) from congrArg (Value.int .i64) mb) (Mz ?_); refine Qe (show _ = Value.int .i64 ((i / 5 + 5 * ((2 * (i % 5) + 3 * (i / 5)) % 5) : Nat) : Int) from congrArg (Value.int .i64) mb) (Jb rfl rfl rfl (Jd rfl (J2 (k := 1) rfl) rfl rfl) (NZ ?_)); refine Nh ?_; refine Jb rfl rfl rfl (KG rfl (J2 (k := 2) rfl) rfl (KT (by rw [hml]; omega))) (Mx ?_); refine Nh ?_; refine Jb rfl rfl rfl (KG rfl (J2 (k := 0) rfl) rfl (Jlx (by rw [hbl]; omega))) (Qd rfl rfl rfl (enters_of Tryz.func274 m5 rfl) (Jut (k := by_.getD i 0) (hmk.get _) (hby i)) (Jb rfl rfl rfl (JL (j := (i / 5 + 5 * ((2 * (i % 5) + 3 * (i / 5)) % 5))) (m := 1) (off' := (i / 5 + 5 * ((2 * (i % 5) + 3 * (i / 5)) % 5))) rfl rfl rfl rfl m0 m0 m0) (JY (KR (k := 1) (off := i / 5 + 5 * ((2 * (i % 5) + 3 * (i / 5)) % 5)) (xs := s.map uV) (ys := (rS m by_ (i + 1)).map uV) rfl rfl rfl rfl rfl rfl nk (WB (by rw [hs]; rfl)) rfl (gG ?_))))); exact QQ (rS m by_ (i + 1)) ⟨rfl, by omega⟩ rfl
 rintro D i s hfi ⟨hs, -⟩
 have hi25 : i = 25 := hfi
 subst hi25; rw [← hb] at hs
 have hs := hs.symm
 subst hs; refine gqo 5 rfl (Hr ?_); refine Wp [4, 0, 1, 2, 3] m6 rfl (Yj (τ := Unit) (fun i (s : List Nat) => s = xS b m i ∧ i ≤ 25) (fun s => [(r, kO s)]) (fun _ _ => False) (fun _ => []) [(D, _), (r3, kO b), (r2, _), (r1, _)] (m) rfl rfl Jh0 Jau mw rfl me rfl ⟨rfl, by decide⟩ ?_ ?_ ?_)
 rintro q Xr Xb w3 i _ _ s ⟨hi, rfl, rfl⟩ ⟨hs, -⟩ Kr hKr; refine inR ?_
 have hsk : SOk 25 s := by rw [hs]; exact Jg1 hbk hmk i
 have hsl := hsk.1
 refine gU ?_; refine LN rfl fun r3 => ?_
 refine Ng ?_; refine kS ?_; clear hKr; refine JS 2 rfl (JI 8 m5 m5 ?_)
 refine NI ?_; refine Mx ?_
 refine NI ?_; refine Mz ?_; refine Qe (show _ = Value.int .i64 ((i - i % 5 : Nat) : Int) from congrArg (Value.int .i64) mb) (Jb rfl rfl rfl (JH rfl) (Nz ?_)); refine gM ?_; refine JI 24 m5 m5 (Jb rfl rfl rfl (Jd rfl (J2 (k := 3) rfl) rfl rfl) (N8 ?_)); refine Nh ?_; refine Gr ?_; refine Mx ?_; refine NZ ?_; refine Qe mK (Mz ?_); refine Qe mE (Mz ?_); refine Qe (show _ = Value.int .i64 ((i - i % 5 + (i % 5 + 1) % 5 : Nat) : Int) from congrArg (Value.int .i64) mb) (Jb rfl rfl rfl (JL (j := (i - i % 5 + (i % 5 + 1) % 5)) (m := 1) (off' := (i - i % 5 + (i % 5 + 1) % 5)) rfl rfl rfl rfl m0 m0 m0) (Gr ?_)); refine Jb rfl rfl rfl (Jrh rfl (hbk.get _)) (Mx ?_); refine NZ ?_; refine Qe (show _ = Value.int .i64 ((i % 5 + 2 : Nat) : Int) from congrArg (Value.int .i64) mb) (Mz ?_); refine Qe (show _ = Value.int .i64 (((i % 5 + 2) % 5 : Nat) : Int) from congrArg (Value.int .i64) mz) (Mz ?_); refine Qe (show _ = Value.int .i64 ((i - i % 5 + (i % 5 + 2) % 5 : Nat) : Int) from congrArg (Value.int .i64) mb) (Jb rfl rfl rfl (JL (j := (i - i % 5 + (i % 5 + 2) % 5)) (m := 1) (off' := (i - i % 5 + (i % 5 + 2) % 5)) rfl rfl rfl rfl m0 m0 m0) (Gr ?_)); refine Jb rfl rfl rfl (Vx (op := .and) (b := (((18446744073709551615 ^^^ b.getD (i - i % 5 + (i % 5 + 1) % 5) 0) &&& b.getD (i - i % 5 + (i % 5 + 2) % 5) 0 : Nat) : Int)) rfl rfl rfl (WI m6 (hbk.get _)) (hbk.get _) rfl) (Jb rfl rfl rfl (Vx (op := .xor) (b := ((Jvo b i : Nat) : Int)) rfl rfl rfl (hbk.get _) (Jce (hbk.get _)) rfl) (Mz ?_)); refine Nh ?_; refine JY (KR (k := 1) (off := i) (xs := s.map uV) (ys := (xS b m (i + 1)).map uV) rfl rfl rfl rfl rfl rfl nk (WB (by rw [hs]; rfl)) rfl (gG ?_)); exact QQ (xS b m (i + 1)) ⟨rfl, by omega⟩ rfl
 rintro D2 i s hfi ⟨hs, -⟩
 have hi25 : i = 25 := hfi
 subst hi25
 have hsk : SOk 25 s := by rw [hs]; exact Jg1 hbk hmk 25
 have hsl := hsk.1
 refine Za 2 rfl (JI 8 m5 m5 (Jb rfl rfl rfl (Jd rfl (kn 5 rfl) rfl rfl) (Mz ?_)))
 refine Hn ?_; refine GP ?_; refine Mx ?_; refine Jb rfl rfl rfl (Vx (op := .xor) (b := ((s.getD 0 0 ^^^ n : Nat) : Int)) rfl rfl rfl (hsk.get _) (hn) rfl) (Mz ?_)
 refine Hn ?_; refine JY (KR (k := 1) (off := 0) (xs := s.map uV) (ys := (Jg2 s n).map uV) rfl rfl rfl rfl rfl rfl nk (WB rfl) rfl (Jy 1 rfl (H2 ?_))); refine QK (k := 2) rfl rfl (Jj rfl rfl .nil (fun w1 hs1 => ?_)); exact ⟨rfl, _, List.mem_cons_of_mem _ (by rw [hra, ← hs]; exact List.mem_cons_self), hs1⟩
 exact kw
 ·exact kw
theorem Jst : Pure Tryz.prog 258 [].toArray (.agg (turnsL.map iV).toArray) := by
 refine J5 Tryz.func258 rfl rfl fun w => Mw fun r1 => ?_; refine GS ?_; refine LR rfl (J8 (r := turnsL.map iV) rfl m5) (Jk (k := 0) (n := 25) (ys := turnsL.map iV) rfl rfl rfl rfl rfl rfl rfl rfl rfl (Jy 3 rfl (Jj rfl rfl (.cons (Jt (vs := turnsL.map iV) rfl (kn 0 rfl) rfl rfl) .nil) (fun w1 hs1 => ?_)))); exact MA
theorem Jj6 : Pure Tryz.prog 259 [].toArray (.agg (numsL.map uV).toArray) := by
 refine J5 Tryz.func259 rfl rfl fun w => Mw fun r1 => ?_; refine GS ?_; refine LR rfl (J8 (r := numsL.map uV) rfl m5) (Jk (k := 0) (n := 24) (ys := numsL.map uV) rfl rfl rfl rfl rfl rfl rfl rfl rfl (Jy 3 rfl (Jj rfl rfl (.cons (Jt (vs := numsL.map uV) rfl (kn 0 rfl) rfl rfl) .nil) (fun w1 hs1 => ?_)))); exact MA
theorem Joe (i : Nat) : turnsL.getD i 0 < 9223372036854775808 := by
 by_cases h : i < 25
 ·have : turnsL.all (fun x => decide (x < 9223372036854775808)) = true := by decide
  have hm : turnsL.getD i 0 ∈ turnsL := by simp [List.getD_eq_getElem?_getD, show i < turnsL.length from h]
  exact of_decide_eq_true (List.all_eq_true.1 this _ hm)
 ·rw [List.getD_eq_getElem?_getD, List.getElem?_eq_none (by simpa [turnsL] using h)]; decide
theorem Jj7 {a : List Nat} (ha : SOk 25 a) : Pure Tryz.prog 238 [.agg (a.map uV).toArray].toArray (.agg ((zo a).map uV).toArray) := by
 refine J5 Tryz.func238 rfl rfl fun w => JT ?_
 have hal := ha.1
 obtain ⟨tu, htu⟩ : ∃ t, t = turnsL := ⟨_, rfl⟩
 have htul : tu.length = 25 := by rw [htu]; rfl
 have htub : ∀ i, tu.getD i 0 < 9223372036854775808 := by rw [htu]; exact Joe
 obtain ⟨nu, hnu⟩ : ∃ t, t = numsL := ⟨_, rfl⟩
 have hnuk : SOk 24 nu := by rw [hnu]; exact numsL_ok
 have hnul := hnuk.1
 have hPt : Pure Tryz.prog 258 [].toArray (.agg (tu.map iV).toArray) := by rw [htu]; exact Jst
 have hPn : Pure Tryz.prog 259 [].toArray (.agg (nu.map uV).toArray) := by rw [hnu]; exact Jj6
 refine N6 ?_; refine KO (cs := (a.map uV).toArray) rfl rfl rfl rfl fun r1 => QD (cs := (z25.map uV).toArray) rfl rfl rfl rfl fun r2 => GS ?_; refine LR rfl (Jg (xs := a.map uV) (n := 25) rfl (kn 1 rfl) rfl rfl (by rw [List.length_map, hal])) (QD (cs := (z25.map uV).toArray) rfl rfl rfl rfl fun r3 => Jk (k := 0) (n := 25) (ys := a.map uV) rfl rfl rfl rfl rfl (by rw [List.length_map, hal]) rfl (Zb _) rfl (GS ?_)); refine J6 rfl rfl rfl (enters_of Tryz.func258 m5 rfl) hPt (QD (cs := ((List.replicate 25 0).map iV).toArray) rfl rfl rfl rfl fun r4 => Jk (k := 0) (n := 25) (ys := tu.map iV) rfl rfl rfl rfl rfl (by rw [List.length_map, htul]) rfl (by simp [iV, QL, List.all_map, List.all_eq_true]) rfl (N5 ?_)); refine J6 rfl rfl rfl (enters_of Tryz.func259 m5 rfl) hPn (kA ?_); refine Jw (σ := Nat) (fun i => i ≤ 24) (fun i => [(2, .pointer (some ⟨r2, 0, none⟩)), (3, .pointer (some ⟨r3, 0, none⟩)), (4, .pointer (some ⟨r4, 0, none⟩)), (9, .agg (nu.map uV).toArray), (10, .int .i64 (i : Int))]) (fun i => [(r4, .cells (tu.map iV).toArray 229 (0, 0)), (r3, kO (j9 a i)), (r2, .cells (z25.map uV).toArray 188 (0, 0)), (r1, .cells (a.map uV).toArray 188 (0, 0))]) (fun _ _ _ => True) (fun i => 24 - i) 0 (Nat.zero_le _) (lK rfl) (List.Sublist.refl _) (fun _ _ h => h) ?_; intro i hi; refine Nd ?_; refine cD (fun g => ?_) fun g => ?_
 refine gU ?_; refine LR rfl (Jlb (j := i) rfl rfl rfl rfl rfl rfl m0 (Jlj (KT (by rw [hnul]; omega)))) (N5 ?_); refine LR rfl (Jg (xs := tu.map iV) (n := 25) rfl (kn 0 rfl) rfl rfl (by rw [List.length_map, htul])) (Jb5 (k := 1) rfl rfl rfl (enters_of Tryz.func260 m5 rfl) rfl (Jss (Yq ha i) (n := nu.getD i 0) (hnuk.get i) htul htub r3) rfl (N5 ?_)); refine My ?_; exact Jo (i + 1) m0 m0 (lK rfl) (by rw [show j9 a (i + 1) = wx tu (j9 a i) (nu.getD i 0) from by rw [htu, hnu]; rfl]; exact List.Sublist.refl _) (fun _ _ h => h)
 ·refine Nd ?_
  have hi24 : 24 = i := by omega
  subst hi24; refine Hf ?_; refine LR rfl (Jg (xs := (j9 a 24).map uV) (n := 25) rfl (kn 1 rfl) rfl rfl (by rw [List.length_map, (Yq ha 24).1])) (Jk (k := 2) (n := 25) (ys := (j9 a 24).map uV) rfl rfl rfl rfl rfl (by rw [List.length_map, (Yq ha 24).1]) rfl (Zb _) rfl (Jy 3 rfl (Jj rfl rfl (.cons (Jt (vs := (j9 a 24).map uV) rfl (kn 2 rfl) rfl (by rw [List.length_map, (Yq ha 24).1]; rfl)) .nil) (fun w1 hs1 => ?_)))); exact MA
theorem Jdm {l : List UInt8} (h : j < l.length) : (l.map bV)[j]? = some (.int .u8 ((l.getD j 0).toNat : Nat)) := by
 simp [h, bV, List.getD_eq_getElem?_getD]
theorem Jx8 {n : Nat} (hn : n ≤ 1099511627776) : Pure Tryz.prog 237 [.int .i64 (n : Int)].toArray (.tuple #[.string (bs (vn n)), .int .i64 0]) := by
 refine J5 Tryz.func237 rfl rfl fun w => JT ?_
 obtain ⟨k, hk⟩ : ∃ k, k = 135 - n % 136 := ⟨_, rfl⟩
 have hn1 : n % 136 < 136 := Nat.mod_lt _ m6
 obtain ⟨x, hx⟩ : ∃ x : UInt8, x = (1 :: List.replicate k 0 : List UInt8).getD k 0 := ⟨_, rfl⟩
 have hxl := x.toNat_lt
 have hpl : (1 :: List.replicate k 0 : List UInt8).set k (UInt8.ofNat (x.toNat ||| 128)) = vn n := by
  unfold vn
  cases k with
  | zero => rw [if_pos m0, hx]; rfl
  | succ k =>
   rw [if_neg m0, hx]
   have e1 : (1 :: List.replicate (k + 1) 0 : List UInt8).getD (k + 1) 0 = 0 := by simp [List.getD_eq_getElem?_getD]
   rw [e1, show 134 - n % 136 = k from by omega]; simp only [List.set_cons_succ]
   congr 1
   rw [List.replicate_succ', List.set_append_right _ _ me, List.length_replicate, Nat.sub_self]; rfl
 refine JS 17 rfl (cD (fun g => ?_) fun g => ?_)
 refine KS 8 rfl (MC fun w1 hs1 => ?_)
 first | (exact ⟨rfl, hs1.keep⟩) | (exfalso; omega)
 ·refine gU ?_; refine Jn (show _ = Value.int .i64 ((n % 136 : Nat) : Int) from congrArg (Value.int .i64) mz) (WR rfl (Jn (show _ = Value.int .i64 ((k + 1 : Nat) : Int) from congrArg (Value.int .i64) mb) (W1 (n := k + 1) (b := 1) rfl rfl rfl rfl rfl rfl rfl rfl rfl m0 m0 fun r2 => gB ?_))); refine LR rfl (Ki (j := 0) (m := 1) (off' := 0) rfl rfl rfl rfl rfl m0 rfl) (KR (k := 0) (off := 0) (xs := List.replicate (k + 1) (.int .u8 0)) (ys := (1 :: List.replicate k 0 : List UInt8).map bV) rfl rfl rfl rfl rfl rfl me (by rw [List.replicate_succ]; simp [bV]) rfl (gB ?_)); refine NK ?_; refine WR rfl (Jn (show _ = Value.int .i64 ((k : Nat) : Int) from congrArg (Value.int .i64) mb) (LR rfl (Ki (j := k) (m := 1) (off' := k) rfl rfl rfl rfl rfl m0 m0) (LR rfl (KG rfl (kn 0 rfl) rfl (Jdm me)) ?_))); rw [← hx]
  refine LR rfl (vF (op := .or) (b := ((x.toNat ||| 128 : Nat) : Int)) rfl rfl rfl hxl m6 rfl) ?_; refine Jn (show _ = bV (UInt8.ofNat (x.toNat ||| 128)) from Jgm (Nat.or_lt_two_pow (n := 8) hxl m6)) ?_; refine LR rfl (Ki (j := k) (m := 1) (off' := k) rfl rfl rfl rfl rfl m0 m0) ?_; refine KR (k := 0) (off := k) (xs := (1 :: List.replicate k 0 : List UInt8).map bV) (ys := (vn n).map bV) rfl rfl rfl rfl rfl rfl me (by rw [← hpl, List.map_set]) rfl ?_; refine N5 ?_; refine LR rfl (QG (b := vn n) (row := some (r2, k + 1, [])) (e := 5) (show _ = some (Jx (vn n).length (some (r2, k + 1, []))) from by rw [jA, show 136 - n % 136 = k + 1 from by omega]; rfl) ⟨by simp, by simp [jA]; omega⟩ (fun p hp => .inl M5) rfl rfl rfl) ?_; refine kj ?_; refine MC fun w1 hs1 => ?_
  first | (exact ⟨rfl, hs1.keep⟩) | (exfalso; omega)
def chL (rb n cap : Nat) (p : Nat × Nat) : Ji := [(p.2, .cells #[.int .i64 136] 3 (0, 0)), (p.1, .cells #[.slice (some ⟨rb, 0, none⟩) n cap] 55 (0, 0))]
theorem Jsu (rb n cap : Nat) : PureE (α := Nat × Nat) Tryz.prog 236 [.slice (some ⟨rb, 0, none⟩) n cap, .int .i64 136].toArray (fun p => .func (.func 257) #[] #[.pointer (some ⟨p.1, 0, none⟩), .pointer (some ⟨p.2, 0, none⟩)]) (chL rb n cap) := by
 refine Vw Tryz.func236 rfl rfl fun w => ML fun r1 r2 => ?_; refine Goc 10 [0] rfl rfl (JA rfl (fun h4 => ?_) (fun h4 => ?_))
 exact absurd h4 m6
 ·try simp only [ZZ] at h4
  refine gD ?_; exact Nl
def Jh5 (rb j : Nat) : List Value := [.slice (some ⟨rb, 136 * j, none⟩) 136 136]
theorem Jsv {n : Nat} (hn : n = 136 * N) (hcap : n ≤ cap) (hlim : n ≤ 2199023255552) (p1 p2 : Nat) : xl Tryz.prog 257 [.pointer (some ⟨p1, 0, none⟩), .pointer (some ⟨p2, 0, none⟩)] (chL rb n cap (p1, p2)) 0 (nxN (Jh5 rb) N) (Jez N) := by
  refine Wr Tryz.func257 rfl rfl fun q xids w2 XI XF hY => JT (Nd ?_); refine Jw (σ := Nat) (fun i => i ≤ N) (fun i => [(0, .func (.yield q) #[] #[]), (1, .pointer (some ⟨p1, 0, none⟩)), (2, .pointer (some ⟨p2, 0, none⟩)), (4, .int .i64 ((136 * i : Nat) : Int))]) (fun _ => []) (fun i => XI i) (fun i => N - i) 0 (Nat.zero_le _) (lK rfl) (List.nil_sublist _) (fun _ _ h => h) ?_; intro i hi; refine gD ?_; refine gi ?_; refine NK ?_; refine Nw ?_; refine cD (fun g => ?_) fun g => ?_
  · refine kF ?_; refine HF ?_; refine Jb rfl rfl rfl (JO (kl := some (136 * i)) (kh := none) (km := none) (sz := 1) (m := 136 * i) (q := n) (z := cap) rfl rfl rfl ⟨_, rfl⟩ trivial trivial rfl rfl rfl m0 hcap (Nat.le_refl _) (fun _ => rfl) rfl) (Jb rfl rfl rfl (KH rfl rfl) (Jb rfl rfl rfl (Jl4 (r := 136) rfl rfl (by rw [if_neg m0])) (Nz ?_))); refine N5 ?_; refine gi ?_; refine LS 4 [] rfl rfl (Jn mH (kz ?_)); refine Jn mH ?_
    refine LR rfl (JO (kl := some (136 * i)) (kh := some (136 * i + 136)) (km := some (136 * i + 136)) (sz := 1) (m := 136 * i) (q := 136 * i + 136) (z := 136 * i + 136) (off' := 136 * i) rfl rfl rfl ⟨_, rfl⟩ ⟨_, rfl⟩ ⟨_, rfl⟩ rfl rfl rfl m0 (Nat.le_refl _) m0 (fun h => by cases h) mn) ?_; refine Jn (show _ = Value.slice (some ⟨rb, 136 * i, none⟩) 136 136 from by congr 1 <;> omega) ?_; refine W9 (XT := XI (i + 1)) (XF := XF) rfl rfl rfl rfl (hY i (Jh5 rb i) (i + 1) ⟨by omega, rfl, rfl⟩) ?_ ?_
    all_goals (
     refine G0 ?_; refine JA rfl (fun g => ?_) (fun g => ?_)
     · try exact Bool.noConfusion g
       all_goals try simp only [ZZ] at g
       all_goals (
        exact MB
        skip)
     · try exact Bool.noConfusion g
       all_goals try simp only [ZZ] at g
       all_goals (
        refine G4 ?_; refine gh ?_; refine WR rfl (Jn (show _ = Value.int .i64 ((136 * (i + 1) : Nat) : Int) from congrArg (Value.int .i64) mb) (GU ?_)); exact Na
        skip)
     skip)
  · exact gH
theorem Jof {a : List Nat} (h : i < 32) : ((jB a i ++ List.replicate (32 - i) 0).map bV).set i (bV (UInt8.ofNat (a.getD (i / 8) 0 / 2 ^ (i % 8 * 8) % 256))) = (jB a (i + 1) ++ List.replicate (32 - (i + 1)) 0).map bV := by
 rw [← List.map_set, List.set_append_right _ _ (by rw [WJ]; exact Nat.le_refl _), WJ, Nat.sub_self, show 32 - i = (32 - (i + 1)) + 1 from by omega, List.replicate_succ, List.set_cons_zero, jB, List.append_assoc]
 rfl
theorem Jsw {t : List UInt8} {k : Nat} (h : 136 * j + i < t.length) : (t.map bV ++ List.replicate k (Value.int .u8 0))[136 * j + i]? = some (.int .u8 (((t.drop (136 * j)).getD i 0).toNat : Nat)) := by
 rw [List.getElem?_append_left Mg, Jdm h]
 simp [List.getD_eq_getElem?_getD]
theorem Jdn {s : List UInt8} (hs : s.length ≤ 1099511627776) : Pure Tryz.prog 174 [.string (bs s)].toArray (.string (bs (WS s))) := by
 refine J5 Tryz.func174 rfl rfl fun w => JT ?_
 have hpl := jA s.length
 obtain ⟨t, ht⟩ : ∃ t, t = s ++ vn s.length := ⟨_, rfl⟩
 obtain ⟨N, hN⟩ : ∃ N, N = t.length / 136 := ⟨_, rfl⟩
 have htl : t.length = 136 * N := by have := Jfc s; rw [← ht] at this; omega
 have hlim : t.length ≤ 2199023255552 := by rw [ht, List.length_append]; omega
 have hkec : WS s = jB (Jci t N) 32 := by unfold WS; rw [← ht, ← hN]
 refine Jr 8 rfl (g6 ?_); refine J6 rfl rfl rfl (enters_of Tryz.func237 m5 rfl) (Jx8 hs) (JM 9 rfl (QD (cs := (z25.map uV).toArray) rfl rfl rfl rfl fun r1 => GT ?_)); refine LR rfl (Vy rfl rfl m0) ?_; rw [← ht]; refine XO rfl rfl rfl rfl rfl rfl fun rb kb => Vp rfl rfl rfl (enters_of Tryz.func236 m5 rfl) (Jsu rb t.length (t.length + kb)) fun pp => ?_
 obtain ⟨p1, p2⟩ := pp
 change HL _ _ _ [(p2, _), (p1, _), (rb, _), (r1, _)] _ _ _ _; refine Nw ?_; refine Wp [3, 0, 1, 2] m6 rfl (Yj (τ := Unit) (fun j (s : List Nat) => s = Jci t j ∧ j ≤ N) (fun s => [(r1, kO s)]) (fun _ _ => False) (fun _ => []) [(p2, _), (p1, _), (rb, _)] z25 rfl rfl (enters_of Tryz.func257 m5 rfl) (Jsv (rb := rb) (cap := t.length + kb) htl m0 hlim p1 p2) mw rfl (by simp [chL]) rfl ⟨rfl, Nat.zero_le _⟩ ?_ ?_ ?_)
 rintro q Xr Xb w3 jj _ _ a ⟨hi, rfl, rfl⟩ ⟨hsa, -⟩ Kr hKr; refine inR ?_
 have hak : SOk 25 a := by rw [hsa]; exact xQ t jj
 obtain ⟨u, hu⟩ : ∃ u, u = t.drop (136 * jj) := ⟨_, rfl⟩
 have habk := xP u hak
 refine KS 3 rfl (hKr _ _ (JT ?_)); clear hKr; refine G4 ?_; refine NK ?_; refine kA ?_; refine Jw (σ := Nat) (fun i => i ≤ 136) (fun i => [(5, .pointer (some ⟨r1, 0, none⟩)), (23, .slice (some ⟨rb, 136 * jj, none⟩) 136 136), (24, .int .i64 136), (25, .int .i64 (i : Int))]) (fun i => [(r1, kO (abS a u i))]) (fun _ => Xb) (fun i => 136 - i) 0 (Nat.zero_le _) (lK rfl) (List.Sublist.refl _) (fun _ _ h => h) ?_; intro i hi; refine Nd ?_; refine cD (fun g => ?_) fun g => ?_
 refine Jr 7 rfl (LR rfl (Ki (j := i) (m := 1) (off' := 136 * jj + i) rfl rfl rfl rfl rfl m0 m0) (LR rfl (KG rfl (J2 (k := 2) rfl) rfl (Jsw m0)) ?_)); rw [← hu]; refine kA ?_; refine JI 12 m5 m5 (NZ ?_); refine Qe mJ (kC ?_); refine Jb rfl rfl rfl (KG rfl (kn 0 rfl) rfl (KT (by rw [(habk i).1]; omega))) (NZ ?_); refine Qe (show _ = uV (u.getD i 0).toNat from congrArg (Value.int .u64) (wrap_u64 (z := ((u.getD i 0).toNat : Int)) m0 (by have := Vs (u.getD i 0); omega))) (NZ ?_); refine Qe mI (Mz ?_); refine Qe mL (Jb rfl rfl rfl (zf (n := i % 8 * 8) rfl rfl rfl mY (xC (wp (Vs _) m0))) (Jb rfl rfl rfl (Vx (op := .xor) (b := (((abS a u i).getD (i / 8) 0 ^^^ (u.getD i 0).toNat * 2 ^ (i % 8 * 8) : Nat) : Int)) rfl rfl rfl ((habk i).get _) (wp (Vs _) m0) rfl) (kC ?_))); refine JY (KR (k := 0) (off := i / 8) (xs := (abS a u i).map uV) (ys := (abS a u (i + 1)).map uV) rfl rfl rfl rfl rfl rfl (by rw [List.length_map, (habk i).1]; omega) (WB rfl) rfl ?_); exact G5
 refine kF ?_
 have hi136 : 136 = i := by omega
 subst hi136; refine Hf ?_; refine LR rfl (Jg (xs := (abS a u 136).map uV) (n := 25) rfl (kn 0 rfl) rfl rfl (by rw [List.length_map, (habk 136).1])) (J6 rfl rfl rfl (enters_of Tryz.func238 m5 rfl) (Jj7 (habk 136)) (Jk (k := 0) (n := 25) (ys := (zo (abS a u 136)).map uV) rfl rfl rfl rfl rfl (by rw [List.length_map, (Jch (habk 136)).1]) (by rw [List.size_toArray, List.length_map, (habk 136).1]) (Zb _) rfl (Jy 2 rfl (QQ (Jci t (jj + 1)) ⟨rfl, by omega⟩ ?_)))); rw [show Jci t (jj + 1) = zo (abS a u 136) from by rw [hu, hsa]; rfl]; rfl
 rintro D jj a hfi ⟨hsa, -⟩
 have hjN : jj = N := hfi
 have hak : SOk 25 a := by rw [hsa]; exact xQ t jj
 have hkec2 : WS s = jB a 32 := by rw [hkec, hsa, hjN]
 refine gqo 4 rfl (W1 (n := 32) (b := 1) rfl rfl rfl rfl rfl rfl rfl rfl rfl m6 m6 fun r2 => GT ?_); refine NK ?_; refine kA ?_; refine Jw (σ := Nat) (fun i => i ≤ 32) (fun i => [(5, .pointer (some ⟨r1, 0, none⟩)), (9, .slice (some ⟨r2, 0, none⟩) 32 32), (47, .int .i64 32), (48, .int .i64 (i : Int))]) (fun i => [(r2, .cells ((jB a i ++ List.replicate (32 - i) 0).map bV).toArray 5 (0, 0)), (D, .deferred (some [])), (r1, kO a)]) (fun _ _ _ => True) (fun i => 32 - i) 0 (Nat.zero_le _) (lK rfl) (.cons_cons _ (.cons_cons _ (.cons_cons _ (List.nil_sublist _)))) (fun _ _ h => h) ?_; intro i hi; refine Nd ?_; refine cD (fun g => ?_) fun g => ?_
 refine Jr 15 rfl (Jn mJ (LR rfl (JL (j := i / 8) (m := 1) (off' := i / 8) rfl rfl rfl rfl m0 m0 m0) (LR rfl (KG rfl (kn 2 rfl) rfl (KT (by rw [hak.1]; omega))) (ko ?_)))); refine Jn mI (WR rfl (Jn mL (LR rfl (wl (n := i % 8 * 8) rfl rfl rfl mY m0 (vC _ _)) (WR rfl (Jn (show _ = bV (UInt8.ofNat (a.getD (i / 8) 0 / 2 ^ (i % 8 * 8) % 256)) from jz _) (LR rfl (Ki (j := i) (m := 1) (off' := i) rfl rfl rfl rfl rfl m0 m0) ?_)))))); refine KR (k := 0) (off := i) (xs := (jB a i ++ List.replicate (32 - i) 0).map bV) (ys := (jB a (i + 1) ++ List.replicate (32 - (i + 1)) 0).map bV) rfl rfl rfl rfl rfl rfl (by simp [WJ]; omega) (Jof m0) rfl ?_; exact G5
 refine Nd ?_
 have hi32 : 32 = i := by omega
 subst hi32; refine N6 ?_; refine LR rfl (QG (b := jB a 32) (row := some (r2, 32, [])) (e := 5) (show _ = some (Jx (jB a 32).length (some (r2, 32, []))) from by rw [WJ]; rfl) ⟨by simp [WJ], by simp [WJ]⟩ (fun p hp => .inl M5) rfl rfl rfl) (gA ?_); refine QK (k := 1) rfl rfl (N2 fun w1 hs1 => ?_); exact ⟨by rw [hkec2]; rfl, hs1.keep⟩
 ·exact kw
def tXY : Nat → Nat × Nat
 | 0 => (1, 0)
 | t + 1 => ((tXY t).2, (2 * (tXY t).1 + 3 * (tXY t).2) % 5)
def tX (t : Nat) : Nat := (tXY t).1
def tY (t : Nat) : Nat := (tXY t).2
def tS (a : List Nat) : Nat → List Nat
 | 0 => a
 | t + 1 => (tS a t).set (tX t + 5 * tY t) (Jcd ((tS a t).getD (tX t + 5 * tY t) 0) ((t + 1) * (t + 2) / 2))
abbrev VA (r : Nat) : Value := .pointer (some ⟨r, 0, none⟩)
def W8 (l : List BS) : List Value := l.map Js
theorem Jsx (l : List BS) : (W8 l).length = l.length := by unfold W8; rw [List.length_map]
theorem Jav {l : List BS} (h : l[i]? = some s) : (W8 l)[i]? = some (Js s) := by unfold W8; rw [List.getElem?_map, h]; rfl
theorem Jsy (l : List BS) : (W8 l).all QL = true := by
 rw [List.all_eq_true]; intro x hx
 obtain ⟨b, _, rfl⟩ := List.mem_map.1 hx
 rfl
theorem Jf3 (n : Nat) (row : Vk) : (Jx n row).cells = #[Jx n row] := by cases row <;> rfl
theorem Jj8 (n : Nat) (row : Vk) : QL (Jx n row) = true := by cases row <;> rfl
theorem Jf4 (h : s.length ≤ 32) : Pure Tryz.prog 175 [Js s].toArray (Js (ZO s)) := by
 unfold ZO
 refine J5 Tryz.func175 rfl rfl fun w => kd ?_; refine g6 ?_
 refine WR rfl ?_; refine Jn (show _ = Value.int .i64 ((32 - s.length : Nat) : Int) from by rw [wrap_i64 m0 m0]; congr 1 <;> omega) ?_; refine gF ?_; exact MY
theorem Jog {l : List BS} {p : Pl} (hl : l.length ≤ 100000) (hs : Seg R l.length (W8 l) p) :
  PureT (α := { row : Vk // rowOk 1 l.length (W8 l) row }) Tryz.prog 176 [KB l.length p].toArray (fun x => Jx l.length x.1) [] (fun x => JJ 9 (W8 l) x.1) R := by
 cases p with
 | none =>
  have h0 : l = [] := List.length_eq_zero_iff.1 hs
  subst h0; refine J4 Tryz.func176 rfl rfl fun w => Gk ?_; refine cD (fun g => ?_) fun g => ?_
  exact Gh
  try exact Bool.noConfusion g
 | some q =>
  refine J4 Tryz.func176 rfl rfl fun w => Gk ?_; refine JA rfl (fun g => ?_) (fun g => ?_)
  try exact Bool.noConfusion g
  ·refine gD ?_; refine X6 rfl rfl rfl rfl fun r1 => QV rfl (wH (k := 0) (b := 16) (sz := 1) rfl rfl rfl rfl rfl rfl hs oR rfl rfl rfl rfl rfl m6 (by rw [Jsx, Nat.mul_one]) (Jsy l) m0 m0 fun row hrow => (Jy 4 rfl ?_)); exact kX
theorem Jdo (n : Nat) (row : Vk) : PureE (α := Nat) Tryz.prog 177 [Jx n row].toArray (fun r => .func (.func 239) #[] #[VA r]) (fun r => [(r, .cells #[Jx n row] 109 (0, 0))]) := by
 refine Vw Tryz.func177 rfl rfl fun w => gz ?_; refine KO (cs := #[Jx n row]) rfl rfl rfl (Jf3 n row) fun r1 => N5 ?_; refine g7 ?_; refine gA ?_; refine N2 fun w1 hs1 => ?_; exact ⟨r1, rfl, hs1⟩
def Juu (l : List BS) : Nat → List Value → Ji → Nat → Prop := fun i v B i' => 2 * i + 1 < l.length ∧ i' = i + 1 ∧ v = [Js (l.getD (2 * i) []), Js (l.getD (2 * i + 1) [])] ∧ B = []
theorem zH {l : List BS} : ∀ i v B i', Juu l i v B i' → v.length = 2 := by rintro _ _ _ _ ⟨_, _, rfl, _⟩; rfl
theorem yj {l : List BS} (h : i < l.length) : l[i]? = some (l.getD i []) := by rw [List.getD_eq_getElem?_getD, List.getElem?_eq_getElem h]; rfl
theorem Jdp {l : List BS} (hl : l.length ≤ 1000000) (hrow : rowOk 1 l.length (W8 l) row) (r : Nat) :
    Jlg Tryz.prog 239 [VA r] ((r, .cells #[Jx l.length row] 109 (0, 0)) :: JJ 9 (W8 l) row) 0 (Juu l) (fun i => ¬ 2 * i + 1 < l.length) := by
  have hs : Seg ((r, .cells #[KB l.length (QN row)] 109 (0, 0)) :: JJ 9 (W8 l) row) l.length (W8 l) (QN row) := (KC hrow m6).mono fun q hq => List.mem_cons_of_mem _ hq
  rw [← V4 _ _ hrow.zero]; refine Jc0 Tryz.func239 rfl rfl fun q xids w2 XI XF hY => JT (Nd ?_); refine Jw (σ := Nat) (fun i => 2 * i ≤ l.length + 1) (fun i => [(0, .func (.yield q) #[] #[]), (1, VA r), (3, .int .i64 ((2 * i : Nat) : Int))]) (fun _ => []) (fun i => XI i) (fun i => l.length + 1 - 2 * i) 0 m0 (lK rfl) (List.Sublist.refl _) (fun _ _ h => h) ?_; intro i hi1; refine G4 ?_; refine Jn n6 (gh ?_); refine MV ?_; refine Nw ?_; refine cD (fun g => ?_) fun g => ?_
  · refine kF ?_; refine JI 10 m5 m5 (Mx ?_); refine gp ?_; refine Mx ?_
    refine Jb rfl rfl rfl (Jf (j := (2 * i)) rfl hs rfl rfl rfl mc m0) (Jb rfl rfl rfl (ZB oR rfl hs m0 rfl (Jav (yj (i := 2 * i) m0))) (gp ?_)); refine NZ ?_; refine Qe n6 ?_
    refine Jb rfl rfl rfl (Jf (j := (2 * i + 1)) rfl hs rfl rfl rfl mc m0) (Jb rfl rfl rfl (ZB oR rfl hs m0 rfl (Jav (yj (i := 2 * i + 1) m0))) (JY (yX (B := []) (XT := XI (i + 1)) (XF := XF) rfl rfl rfl rfl (hY i [Js (l.getD (2 * i) []), Js (l.getD (2 * i + 1) [])] [] (i + 1) ⟨by omega, rfl, rfl, rfl⟩) oN ?_ ?_)))
    all_goals (
     refine G0 ?_; refine JA rfl (fun g => ?_) (fun g => ?_)
     · try exact Bool.noConfusion g
       all_goals try simp only [ZZ] at g
       all_goals (
        exact MB
        skip)
     · try exact Bool.noConfusion g
       all_goals try simp only [ZZ] at g
       all_goals (
        refine gU ?_; refine Jn (show _ = Value.int .i64 ((2 * (i + 1) : Nat) : Int) from by rw [wrap_i64 m0 m0]; congr 1 <;> omega) ?_; refine GU ?_; exact MU
        skip)
     skip)
  · refine kv fun w1 hs1 => ?_
    obtain ⟨xs1, hx1⟩ := hs1.now
    exact ⟨⟨_, rfl⟩, hs1.keep, .inl ⟨i, _, by omega, hx1⟩⟩
theorem Joh {k : Nat} : 2 ^ k < m ↔ k < lg m := by
 constructor
 ·intro h
  rcases Nat.lt_or_ge k (lg m) with h1 | h1
  ·exact h1
  ·have h2 := Jhk m
   have h3 : 2 ^ lg m ≤ 2 ^ k := Nat.pow_le_pow_right m6 h1
   omega
 ·exact Jup
theorem zI (l : List BS) : ∀ {i : Nat}, 2 * i + 1 < l.length → (SL.pairUp l).take (i + 1) = (SL.pairUp l).take i ++ [WS (l.getD (2 * i) [] ++ l.getD (2 * i + 1) [])] := by
 induction l using SL.pairUp.induct with
 | case1 a b l ih =>
  intro i hi
  cases i with
  | zero => rw [SL.pairUp]; rfl
  | succ i =>
   rw [SL.pairUp, List.take_succ_cons, List.take_succ_cons, ih (by simp only [List.length_cons] at hi; omega), show 2 * (i + 1) = 2 * i + 1 + 1 by omega, show 2 * i + 1 + 1 + 1 = 2 * i + 1 + 1 + 1 by rfl]
   rfl
 | case2 l h =>
  intro i hi
  match l, h with
  | [], _ => simp at hi
  | [a], _ => simp at hi
  | a :: b :: l, h => exact absurd rfl (h a b l)
theorem vf (l : List BS) (z : BS) : (Qv l z).length % 2 = 0 := by rw [X8]; omega
theorem yl {l : List BS} {z : BS} (h : ∀ x ∈ l, x.length = 32) (hz : z.length = 32) : ∀ x ∈ Qv l z, x.length = 32 := by
 intro x hx
 unfold Qv at hx
 split at hx
 ·rcases List.mem_append.1 hx with hx | hx
  ·exact h x hx
  ·rw [List.mem_singleton.1 hx]; exact hz
 ·exact h x hx
theorem jP {l : List BS} (h : ∀ x ∈ l, x.length = 32) (hi : i < l.length) : (l.getD i []).length = 32 := h _ (List.mem_of_getElem? (yj hi))
theorem Jdq {n : Nat} (h : n ≤ 65536) : IntKind.i64.wrap ((n : Int) * 2) = ((n * 2 : Nat) : Int) := by
 rw [wrap_i64 m0 m0]; omega
structure TreeI (l0 : List BS) (m : Nat) (k : Nat) (ls : List BS) (row : Vk) (z : BS) : Prop where
  le : k ≤ lg m
  ok : rowOk 1 ls.length (W8 ls) row
  eq : VJ (lg m - k) ls z = Vc l0 m
  len : ls.length ≤ 2 ^ (lg m - k)
  mem : ∀ x ∈ ls, x.length = 32
  zl : z.length = 32
set_option maxHeartbeats 1000000 in
theorem vO {l : List BS} {p : Pl} (hl : l.length ≤ m) (hm2 : m ≤ 65536) (hs : Seg R l.length (W8 l) p) (h32 : ∀ s ∈ l, s.length = 32) :
  PureR Tryz.prog 134 [KB l.length p, .int .i64 (m : Int)].toArray (Js (Vc l m)) R := by
 have hlg : lg m ≤ 16 := Jxz (by simpa using hm2)
 have h0 := Y9 hl
 refine Ja Tryz.func134 rfl rfl fun w => GY ?_; refine KA rfl rfl rfl (enters_of Tryz.func176 m5 rfl) (Jog m0 hs) oR fun x => ?_
 obtain ⟨row, hrow⟩ := x
 refine Ks (List.perm_append_comm (l₂ := [])) ?_; change HL _ _ ((11, Jx l.length row) :: _) (JJ 9 (W8 l) row) _ _ _ _; refine N5 ?_; refine J6 rfl rfl rfl Jnt (Jf4 (s := []) m6) (Jn (show _ = Js z32 from rfl) (JR 10 rfl (Jm2 (σ := Nat × List BS × Vk × BS × List Nat) (fun q => q.2.2.2.2.map QW ++ []) (fun q => TreeI l m q.1 q.2.1 q.2.2.1 q.2.2.2.1) (fun q => [(0, Jx q.2.1.length q.2.2.1), (1, .int .i64 (m : Int)), (5, Js q.2.2.2.1), (6, .int .i64 ((2 ^ q.1 : Nat) : Int))]) (fun q => WX q.2.2.2.2 ++ JJ 9 (W8 q.2.1) q.2.2.1) (fun _ _ _ => True) (fun q => lg m - q.1) (0, l, row, z32, []) rfl ⟨Nat.zero_le _, hrow, h0, Nat.le_trans hl (Jhk m), h32, rfl⟩ (lK rfl) (List.Sublist.refl _) (fun _ _ h => h) ?_))); rintro ⟨k, ls, row, z, Ds⟩ hi; refine inK ?_; simp only at hi; change HC _ (Ds.map QW ++ []) [(0, Jx ls.length row), (1, _), (5, Js z), (6, .int .i64 ((2 ^ k : Nat) : Int))] (WX Ds ++ JJ _ (W8 ls) row) _ _ _; refine JS 8 rfl (cD (fun g => ?_) fun g => ?_)
 ·refine Nd ?_
  have hk : k < lg m := Joh.1 m0
  obtain ⟨K, hK⟩ : ∃ K, lg m - k = K + 1 := ⟨lg m - k - 1, by omega⟩
  have heq := hi.eq
  have hlen := hi.len
  rw [hK, VJ] at heq; rw [hK, Nat.pow_succ] at hlen
  have hK16 : 2 ^ K ≤ 65536 := by have := Nat.pow_le_pow_right (n := 2) (i := K) (j := 16) m6 m0; simpa using this
  have hzl := hi.zl
  have hk16 : 2 ^ k ≤ 65536 := by have := Nat.pow_le_pow_right (n := 2) (i := k) (j := 16) m6 m0; simpa using this
  refine N6 ?_; refine LR rfl (WA rfl hi.ok.zero rfl) (WR rfl (Jn (show _ = Value.int .i64 ((ls.length % 2 : Nat) : Int) from congrArg (Value.int .i64) (W6 _ 2)) (JR 3 rfl ?_))); refine cD (fun g => ?_) fun g => ?_
  ·refine G3 ?_; refine JB (vs := [_]) (zs := [_]) (r := [_]) rfl rfl rfl rfl rfl rfl rfl rfl rfl mq rfl fun r1 => JF (L0 := _ :: WX Ds) (xs := W8 ls) (row := row) (n := ls.length) (sz := 1) (b := 16) (news := [_]) (List.perm_append_comm (l₁ := _ :: WX Ds)) rfl rfl rfl rfl (kn 0 rfl) rfl rfl rfl rfl rfl m6 rfl rfl rfl m6 hi.ok m0 m0 fun ra cap sp hra => kA ?_
   (have e : Qv ls z = ls ++ [z] := by unfold Qv; rw [if_pos m0]
    refine Jrz (List.perm_append_comm (l₁ := [_])) (Jr1 (L' := WX Ds ++ JJ 9 (W8 ls ++ [Js z]) (some (ra, cap, sp))) (.cons _ (List.Sublist.refl _)) ?_); change HC _ _ ((0, Jx (ls.length + 1) (some (ra, cap, sp))) :: _) _ _ _ _
    generalize hn2 : ls.length + 1 = n2 at hra ⊢
    generalize hc2 : W8 ls ++ [Js z] = xs2 at hra ⊢
    generalize (some (ra, cap, sp) : Vk) = row2 at hra ⊢
    obtain rfl : n2 = (Qv ls z).length := by rw [e, ← hn2, List.length_append]; rfl
    obtain rfl : xs2 = W8 (Qv ls z) := by rw [e, ← hc2]; unfold W8; rw [List.map_append]; rfl)
   have hm2e := yl hi.mem hi.zl
   have hev := vf ls z
   have hl2 := X8 ls z
   obtain ⟨ls2, hls2⟩ : ∃ x, x = Qv ls z := ⟨_, rfl⟩
   rw [← hls2] at hm2e hev hl2 hra heq ⊢
   have hl2b : ls2.length ≤ 2 ^ K * 2 := by omega
   refine NG fun r1 rb => ?_; refine ql (τ := Unit) (fun i (s : Nat × List Value × Vk) => 2 * i ≤ ls2.length ∧ s.1 = i ∧ s.2.1 = W8 ((SL.pairUp ls2).take i) ∧ rowOk 1 i s.2.1 s.2.2) (fun s => (r1, .cells #[Jx s.1 s.2.2] 109 (0, 0)) :: JJ 9 s.2.1 s.2.2) (fun _ _ => False) (fun _ => []) (WX Ds ++ ((rb, .cells #[Jx ls2.length row2] 109 (0, 0)) :: JJ 9 (W8 ls2) row2)) (0, [], none) rfl rfl (enters_of Tryz.func239 m5 rfl) (Jdp m0 hra rb) zH rfl (fun q hq => .inl (List.mem_append_right _ hq)) rfl ⟨Nat.zero_le _, rfl, rfl, rfl, rfl⟩ ?_ ?_ ?_
   rintro q Xr Xb w3 i _ _ _ ⟨n, xs, row3⟩ ⟨hii, rfl, rfl, rfl⟩ ⟨h2i, hn, hxs, hr3⟩ Kr hKr; refine inR ?_
   simp only at hn hxs hr3; rw [← hn] at hr3; refine KS 8 rfl (hKr _ _ (JT ?_)); clear hKr; exact kR
   rintro D i ⟨n, xs, row3⟩ hfi ⟨h2i, hn, hxs, hr3⟩
   simp only at hn hxs hr3
   exact Ht
   exact kw
  ·refine Gt ?_
   (have e : Qv ls z = ls := by unfold Qv; rw [if_neg m0]
    have hra := hi.ok
    generalize row = row2 at hra ⊢
    generalize hn2 : ls.length = n2 at hra ⊢
    generalize hc2 : W8 ls = xs2 at hra ⊢
    obtain rfl : n2 = (Qv ls z).length := by rw [e, ← hn2]
    obtain rfl : xs2 = W8 (Qv ls z) := by rw [e, ← hc2])
   have hm2e := yl hi.mem hi.zl
   have hev := vf ls z
   have hl2 := X8 ls z
   obtain ⟨ls2, hls2⟩ : ∃ x, x = Qv ls z := ⟨_, rfl⟩
   rw [← hls2] at hm2e hev hl2 hra heq ⊢
   have hl2b : ls2.length ≤ 2 ^ K * 2 := by omega
   refine NG fun r1 rb => ?_; refine ql (τ := Unit) (fun i (s : Nat × List Value × Vk) => 2 * i ≤ ls2.length ∧ s.1 = i ∧ s.2.1 = W8 ((SL.pairUp ls2).take i) ∧ rowOk 1 i s.2.1 s.2.2) (fun s => (r1, .cells #[Jx s.1 s.2.2] 109 (0, 0)) :: JJ 9 s.2.1 s.2.2) (fun _ _ => False) (fun _ => []) (WX Ds ++ ((rb, .cells #[Jx ls2.length row2] 109 (0, 0)) :: JJ 9 (W8 ls2) row2)) (0, [], none) rfl rfl (enters_of Tryz.func239 m5 rfl) (Jdp m0 hra rb) zH rfl (fun q hq => .inl (List.mem_append_right _ hq)) rfl ⟨Nat.zero_le _, rfl, rfl, rfl, rfl⟩ ?_ ?_ ?_
   rintro q Xr Xb w3 i _ _ _ ⟨n, xs, row3⟩ ⟨hii, rfl, rfl, rfl⟩ ⟨h2i, hn, hxs, hr3⟩ Kr hKr; refine inR ?_
   simp only at hn hxs hr3; rw [← hn] at hr3; refine KS 8 rfl (hKr _ _ (JT ?_)); clear hKr; exact kR
   rintro D i ⟨n, xs, row3⟩ hfi ⟨h2i, hn, hxs, hr3⟩
   simp only at hn hxs hr3
   exact Ht
   exact kw
 ·refine JS 7 rfl ?_
  have hkl : ¬ k < lg m := fun h => by have := Joh.2 h; omega
  obtain rfl : k = lg m := by have := hi.le; omega
  have heq := hi.eq
  have hlen := hi.len
  rw [Nat.sub_self] at heq hlen; refine N6 ?_; refine LR rfl (WA rfl hi.ok.zero rfl) (Nw ?_); refine cD (fun g => ?_) fun g => ?_
  refine KS 8 rfl (wO Ds (Mv fun w1 hs1 => ?_))
  (obtain rfl : ls = [] := List.eq_nil_of_length_eq_zero m0
   rw [← heq]; rfl)
  ·refine Gt ?_
   obtain ⟨s0, hls1⟩ : ∃ s0, ls = [s0] := by
    match ls, hlen with
    | [a], _ => exact ⟨a, rfl⟩
    | [], _ => exact absurd rfl m8
    | _ :: _ :: _, h => simp at h
   refine N6 ?_; refine LR rfl (Jf (p := QN row) (j := 0) (show _ = some (KB ls.length (QN row)) from by rw [V4 _ _ hi.ok.zero]; rfl) (KC (e := 9) hi.ok m6) rfl rfl rfl rfl m0) (LR rfl (ZB (p := QN row) (fun q hq => Or.inl (List.mem_append_right _ hq)) rfl (KC (e := 9) hi.ok m6) m0 rfl (Jav (show ls[0]? = some s0 from by rw [hls1]; rfl))) (gA ?_)); refine wO Ds (Mv fun w1 hs1 => ?_); rw [← heq, hls1]; rfl
abbrev fV1 (f : FuncId) : Value := .func (.func f) #[] #[]
def Yf (root : BS) (n : Nat) : BS := WS (root ++ ZO (j3 n 8))
theorem le8 {n : Nat} (h : n < 18446744073709551616) : zG n 8 = (j3 n 8, 0) := by
 unfold zG
 rw [if_neg]
 ·rfl
 ·have := (Jh4 (n := n) (k := 8) h m6).2 mV
  omega
theorem Joi {root : BS} (hr : root.length ≤ 1000) {n : Nat} (hn : n ≤ 9223372036854775807) : Pure Tryz.prog 129 [Js root, .int .i64 (n : Int)].toArray (Js (Yf root n)) := by
 have hk := Jdn (s := root ++ ZO (j3 n 8)) (by rw [List.length_append, WH (by rw [VN]; decide)]; omega)
 change Pure _ _ _ (Js (Yf root n)) at hk
 have hp := WH (s := j3 n 8) (by rw [VN]; decide)
 generalize Yf root n = z at hk
 refine J5 Tryz.func129 rfl rfl fun w => kd ?_; refine Jn (show _ = uV n from congrArg (Value.int .u64) (wrap_u64 (z := (n : Int)) m0 m0)) (J6 rfl rfl rfl (enters_of Tryz.func166 m5 rfl) (Jdk (n := n) m0 8) (Jn (show _ = Value.tuple #[Js (j3 n 8), .int .i64 0] from by rw [le8 m0]; rfl) (JM 11 rfl (J6 rfl rfl rfl Jnt (Jf4 (s := j3 n 8) (by rw [VN]; decide)) (LR rfl (Vy (a := root) (b := ZO (j3 n 8)) rfl rfl m0) (J6 rfl rfl rfl Jc8 hk ?_)))))); exact MY
theorem Zm (l : List BS) (s : BS) : W8 (l ++ [s]) = W8 l ++ [Js s] := by unfold W8; rw [List.map_append]; rfl
theorem Yt (h : i < Y.length) : (Y.map bV)[i]? = some (bV (Y.getD i 0)) := by
 rw [List.getElem?_map, List.getD_eq_getElem?_getD, List.getElem?_eq_getElem h]; rfl
def YD (xs : BS) : Nat → BS
 | 0 => xs
 | i + 1 => ((YD xs i).set i ((YD xs i).getD (xs.length - 1 - i) 0)).set (xs.length - 1 - i) ((YD xs i).getD i 0)
theorem Yu (xs : BS) : ∀ i, (YD xs i).length = xs.length
 | 0 => rfl
 | i + 1 => by rw [YD, List.length_set, List.length_set, Yu xs i]
theorem getD_set {b : UInt8} (hi : i < Y.length) : (Y.set i b).getD j 0 = if i = j then b else Y.getD j 0 := by
 rw [List.getD_eq_getElem?_getD, List.getElem?_set, List.getD_eq_getElem?_getD]
 split
 ·first | rfl | (rw [if_pos hi]; rfl) | simp [hi]
 ·rfl
theorem jQ (xs : BS) : ∀ {i j : Nat}, 2 * i ≤ xs.length → j < xs.length → (YD xs i).getD j 0 = if j < i ∨ xs.length - 1 - j < i then xs.getD (xs.length - 1 - j) 0 else xs.getD j 0
 | 0, j, _, hj => by rw [YD, if_neg m0]
 | i + 1, j, hi, hj => by
  have h1 := Yu xs i
  have ga := jQ xs (i := i) (j := xs.length - 1 - i) m0 m0
  have gb := jQ xs (i := i) (j := i) m0 m0
  have gj := jQ xs (i := i) (j := j) m0 hj
  rw [if_neg m0] at ga gb; rw [YD, getD_set (by rw [List.length_set, h1]; omega), getD_set (by rw [h1]; omega), ga, gb, gj]
  by_cases e1 : xs.length - 1 - i = j
  ·rw [if_pos e1, if_pos m0]
   congr 1; omega
  ·rw [if_neg e1]
   by_cases e2 : i = j
   ·rw [if_pos e2, if_pos m0]
    congr 1; omega
   ·rw [if_neg e2]
    by_cases e3 : j < i ∨ xs.length - 1 - j < i
    ·rw [if_pos e3, if_pos m0]
    ·rw [if_neg e3, if_neg m0]
theorem Jdr {xs : BS} (h1 : 2 * i ≤ xs.length) (h2 : xs.length ≤ 2 * i + 1) : YD xs i = xs.reverse := by
 apply List.ext_getElem?
 intro j
 by_cases hj : j < xs.length
 ·have e1 : (YD xs i)[j]? = some ((YD xs i).getD j 0) := by rw [List.getD_eq_getElem?_getD, List.getElem?_eq_getElem (by rw [Yu]; exact hj)]; rfl
  rw [e1, jQ xs h1 hj, List.getElem?_reverse hj]
  have e2 : xs[xs.length - 1 - j]? = some (xs.getD (xs.length - 1 - j) 0) := by rw [List.getD_eq_getElem?_getD, List.getElem?_eq_getElem m0]; rfl
  rw [e2]
  by_cases e3 : j < i ∨ xs.length - 1 - j < i
  ·rw [if_pos e3]
  ·rw [if_neg e3, show xs.length - 1 - j = j by omega]
 ·rw [List.getElem?_eq_none (by rw [Yu]; omega), List.getElem?_eq_none (by rw [List.length_reverse]; omega)]
theorem jR {b : UInt8} (h : i < Y.length) : (Y.map bV ++ sp).toArray.setIfInBounds i (bV b) = ((Y.set i b).map bV ++ sp).toArray := by
 rw [List.setIfInBounds_toArray, List.set_append_left _ _ Mg, List.map_set]
section
variable {c : Cx} {l : Kj} {L E : Ji} {X : XP} {Q : Exit → Act → World → Prop} {d : List Deferred}
variable {ops : Array Oper} {rest : List Nat} {i k : Nat} {v : Value} {o : Oper} {tb : j7} {S : Ji} {T : Ji → Act → Prop}
theorem ZH {t : TypeId} {x y : Operand} {q off : Nat} {cs' : Array Value} {e : TypeId} {E' : Ji} (hko : Wl ops.toList k = some ⟨none, .store t x y, ty, ps, af, gd⟩) (hg : Kg l ops ⟨none, .store t x y, ty, ps, af, gd⟩ = some true) (hA : tb k = .turn)
  (hx : JZ l x = some (.pointer (some ⟨r, off, none⟩))) (hk : E[q]? = some (r, .cells cs e fr)) (hy : JZ l y = some v) (ht : KF c.P t = some 1) (ho : QL v = true) (hfr : frB fr off = false) (hc : (cs[off]?).isSome = true)
  (hcs : cs.setIfInBounds off v = cs') (hL : E.set q (r, .cells cs' e fr) = E') (hS : SubS S E')
  (h : HB c d l E' X S ops tb rest T) : HB c d l E X S ops tb (k :: rest) T :=
 ww hko hg rfl hA (fun a w hf hs => ⟨w.setCell ⟨r, off, none⟩ v, by
  simp only [execOp]; rw [hf.eval hx, hf.eval hy]
  obtain ⟨old, hold⟩ := Option.isSome_iff_exists.1 hc
  have h1 := run_store c.P w ⟨r, off, none⟩ v .plain (by rw [XL]; exact ho)
  rw [VY (hs.get hk), hold, qi (hs.get hk) hfr] at h1
  have hcell : v.cells = #[v] := by cases v <;> first | rfl | cases ho
  simp [Instr.storeAt, Instr.sureAddr, Sem.run_bind, Result.andThen, storeVar, Vu ht, hcell, storeCells, Addr.add, h1], by
  subst hL; subst hcs
  exact hs.set hk (Keep.setCell r off v) (Go.SL.heap_setCell_same v (hs.get hk))⟩) hS h
end
section
variable {c : Cx} {l : Kj} {L : Ji} {X : XP} {d : List Deferred} {i : Nat} {ps : String} {af : Array Edge} {gd : Option (Nat × Bool)} {ty : TypeId}
theorem vg {x : Operand} {b : List UInt8} {n : Nat} {e src dst : TypeId} (hx : JZ l x = some (.slice (some ⟨r, 0, none⟩) n cap)) (hk : known c L r (.cells cs e fr)) (hn : n = b.length) (ht : cs.toList.take b.length = b.map bV)
  (hs : Kl c.P src = some e) (he : c.P.underlying e = some (.int .u8)) (hd : wj c.P dst = true) :
  Jz c d l L X ⟨some i, .convert src dst x, ty, ps, af, gd⟩ (.string (bs b)) := fun a' w hf hst => by
 subst hn; simp only [execOp]; rw [hf.eval hx]
 have hget := hst.known hk
 have hl := qM (P := c.P) (xs := b.map bV) hget (by rw [List.length_map]; exact ht)
 rw [List.length_map] at hl; simp only [Sem.run_bind]; rw [run_convert_bytes_string w src dst e _ _ _ (Ka hs) he (Vh hd)]; rw [run_bytesToString w _ _ _ (b.map fun x => ((x.toNat : Nat) : Int)) M1]
 have := Zy b []
 rw [show (bs [] : ByteArray) = ByteArray.empty from rfl] at this; rw [this]
 rfl
end
theorem Jj9 {xs : BS} (hfr : ∀ q, q < xs.length → frB fr q = false) (hc : xs.length ≤ cap) (hx : xs.length ≤ 9223372036854775807) : PureT (α := Unit) Tryz.prog 170 [.slice (some ⟨r, 0, none⟩) xs.length cap].toArray (fun _ => .tuple #[])
  [(r, .cells (xs.map bV ++ sp).toArray 5 fr)] (fun _ => [(r, .cells (xs.reverse.map bV ++ sp).toArray 5 fr)]) [] := by
 refine J4 Tryz.func170 rfl rfl fun w => JT (G3 ?_); refine NK ?_; refine WR rfl (Jn (show _ = Value.int .i64 ((xs.length : Int) - 1) from congrArg (Value.int .i64) (wrap_i64 m0 m0)) (JR 5 rfl ?_)); refine Jw (σ := Nat) (fun i => 2 * i ≤ xs.length + 1 ∧ 2 * i ≤ xs.length) (fun i => [(0, .slice (some ⟨r, 0, none⟩) xs.length cap), (2, .int .i64 (i : Int)), (3, .int .i64 ((xs.length : Int) - 1 - (i : Int)))]) (fun i => [(r, .cells ((YD xs i).map bV ++ sp).toArray 5 fr)]) (fun _ _ _ => True) (fun i => xs.length - i) 0 ⟨by omega, by omega⟩ (.cons rfl (.cons rfl (.cons nY .nil))) (List.Sublist.refl _) (fun _ _ h => h) ?_; rintro i ⟨hi1, hi2⟩; refine JS 8 rfl (cD (fun g => ?_) fun g => ?_)
 ·refine JS 4 rfl ?_
  have hii : i + 1 ≤ xs.length - i := by omega
  obtain ⟨Y, hY⟩ : ∃ Y, Y = YD xs i := ⟨_, rfl⟩
  have hYl : Y.length = xs.length := by rw [hY]; exact Yu xs i
  refine MR ?_; refine Jm (k := 6) rfl rfl rfl rfl rfl (fun _ _ => Ki (j := (xs.length - 1 - i)) (m := 1) (off' := (xs.length - 1 - i)) rfl rfl rfl rfl m0 m0 m0) ?_; refine KW (k := 7) rfl rfl rfl rfl rfl (Jd rfl (kn 0 rfl) rfl (vz (xs := Y.map bV) (v := bV (Y.getD (xs.length - 1 - i) 0)) (Yt m0))) ?_; refine N9 ?_; refine ZH (k := 13) (q := 0) (cs' := ((Y.set i (Y.getD (xs.length - 1 - i) 0)).map bV ++ sp).toArray) rfl rfl rfl rfl rfl rfl rfl rfl (hfr _ m0) nD (jR m0) rfl (fun _ h => nomatch h) ?_; refine Jm (k := 14) rfl rfl rfl rfl rfl (fun _ _ => Ki (j := (xs.length - 1 - i)) (m := 1) (off' := (xs.length - 1 - i)) rfl rfl rfl rfl m0 m0 m0) ?_; refine ZH (k := 15) (q := 0) (cs' := ((YD xs (i + 1)).map bV ++ sp).toArray) rfl rfl rfl rfl rfl rfl rfl rfl (hfr _ m0) nD Ma rfl (fun _ h => nomatch h) ?_; refine Kz ?_; refine gB ?_; refine Jh m0 m0 ?_; refine JM 2 rfl ?_; refine Jn (show _ = Value.int .i64 ((xs.length : Int) - 1 - ((i + 1 : Nat) : Int)) from by rw [wrap_i64 m0 m0]; congr 1 <;> omega) ?_; exact gV
 ·refine kv fun w1 hs1 => ?_; exact ⟨(), rfl, by rw [← Jdr (xs := xs) (i := i) m0 m0]; exact hs1⟩
theorem Jya (w : List Nat) : leW w 32 = (Zz w 32).reverse := by unfold leW; rw [List.take_of_length_le (by rw [List.length_reverse, VM]; exact Nat.le_refl _)]
theorem Jds (t : Ty) (hv : v.In R) : Pure Tryz.prog 125 [t.val, v.val].toArray (Js (leW v.num 32)) := by
 obtain ⟨k, n, p, ins⟩ := t
 cases hv with
 | @mk a b c d bits pb items pi pick ha hb hc hd hlb hsb hl hs hp hi =>
 have hw : WOk [a, b, c, d] := ⟨rfl, fun x hx => by simp at hx; rcases hx with rfl | rfl | rfl | rfl <;> assumption⟩
 show Pure _ _ _ (Js (leW [a, b, c, d] 32))
 rw [Jya]
 have hfx := YB hw
 have hlen := VM [a, b, c, d] 32
 generalize Zz [a, b, c, d] 32 = B at hfx hlen
 refine J5 Tryz.func125 rfl rfl fun w => ML fun r1 r2 => ?_; refine XN 7 [0] rfl rfl (J6 rfl rfl rfl Jhs hfx (XO rfl rfl rfl rfl rfl rfl fun rb kb => gB ?_)); refine Vn (T := [(rb, .cells (B.map bV ++ List.replicate kb (Value.int .u8 0)).toArray 5 (B.length + kb, B.length + kb + 1))]) (L0 := [(r2, _), (r1, _)]) (Rl := []) (List.Perm.refl _) rfl rfl rfl (enters_of Tryz.func170 m5 rfl) (Jj9 (fun q hq => by simp [frB, Nat.blt, Nat.ble]; omega) m0 m0) oN fun u => ?_; change HL _ _ _ ((rb, _) :: (r2, _) :: (r1, _) :: []) _ _ _ _; refine N5 ?_; refine LR rfl (vg (b := B.reverse) rfl (kn 0 rfl) (by rw [List.length_reverse]) nw rfl rfl rfl) ?_; exact MY
def rootM : Array MapEntry := #[⟨.int .i64 1, .func (.func 125) #[] #[], 0⟩, ⟨.int .i64 2, .func (.func 125) #[] #[], 1⟩, ⟨.int .i64 3, .func (.func 126) #[] #[], 2⟩, ⟨.int .i64 4, .func (.func 128) #[] #[], 3⟩,
 ⟨.int .i64 5, .func (.func 130) #[] #[], 4⟩, ⟨.int .i64 6, .func (.func 132) #[] #[], 5⟩, ⟨.int .i64 7, .func (.func 133) #[] #[], 6⟩, ⟨.int .i64 8, .func (.func 136) #[] #[], 7⟩]
theorem Jka : ∀ e ∈ rootM.toList, isI e.key := by
 intro e he
 unfold rootM at he
 simp at he
 rcases he with rfl | rfl | rfl | rfl | rfl | rfl | rfl | rfl <;> exact ⟨_, rfl⟩
theorem Jdt {a b : Bool} (h : a = b) : Value.bool a = Value.bool b := by rw [h]
abbrev pB (own : Bool) (r : Nat) : Value := .pointer (if own then some ⟨r, 0, none⟩ else none)
def yT (r : Nat) (s : BS) (row : Vk) (own : Bool) : Nat × Obj := (r, .cells #[pB own r, Jx s.length row] 127 (0, 0))
def WZ (r : Nat) (s : BS) (row : Vk) (own : Bool) : Ji := yT r s row own :: JJ 5 (s.map bV) row
def bOk (s : BS) (row : Vk) : Prop := rowOk 1 s.length (s.map bV) row ∧ (s = [] → row = none)
theorem Jdu (r : Nat) (own : Bool) (v : Value) : PureT (α := Unit) Tryz.prog 156 [VA r].toArray (fun _ => .tuple #[]) [(r, .cells #[pB own r, v] 127 (0, 0))] (fun _ => [(r, .cells #[pB true r, v] 127 (0, 0))]) [] := by
 cases own with
 | false =>
  refine J4 Tryz.func156 rfl rfl fun w => JT (G4 ?_); refine LR rfl (Jd (v := .pointer none) rfl (kn 0 rfl) rfl rfl) (LR rfl (Jm4 rfl rfl rfl rfl) (gM ?_)); refine cD (fun g => ?_) fun g => ?_
  refine G3 ?_; refine LR rfl (Jft (sz := 2) rfl (kn 0 rfl) rfl rfl rfl m6 me) (LR rfl (Jfu rfl rfl (Tryz.func192) m5 rfl rfl rfl) (LR rfl (Jag rfl (kn 0 rfl) rfl rfl rfl m5) (JM 2 rfl (Kh (k := 0) (cs' := #[VA r, v]) rfl rfl rfl rfl rfl rfl rfl rfl rfl rfl (Jy 1 rfl ?_))))); exact HH
  try exact Bool.noConfusion g
 | true =>
  refine J4 Tryz.func156 rfl rfl fun w => JT (G4 ?_); refine LR rfl (Jd (v := VA r) rfl (kn 0 rfl) rfl rfl) (LR rfl (Jm5 rfl rfl rfl rfl) (gM ?_)); refine JA rfl (fun g => ?_) (fun g => ?_)
  try exact Bool.noConfusion g
  ·refine G4 ?_; refine LR rfl (Jd (v := VA r) rfl (kn 0 rfl) rfl rfl) (QV rfl (LR rfl (Jm3 rfl rfl rfl rfl) (JR 2 rfl ?_))); refine JA rfl (fun g => ?_) (fun g => ?_)
   try exact Bool.noConfusion g
   ·try simp only [ZZ] at g
    refine KS 1 rfl ?_; exact HH
theorem Jaw (r : Nat) (s : BS) (row : Vk) (own : Bool) : PureT (α := Unit) Tryz.prog 156 [VA r].toArray (fun _ => .tuple #[]) [yT r s row own] (fun _ => [yT r s row true]) [] := Jdu r own _
theorem vP  {s2 : BS} (hb : bOk s row) (hl : s.length + s2.length ≤ 1000000) :
  PureT (α := { x : Vk // bOk (s ++ s2) x }) Tryz.prog 101 [VA r, Js s2].toArray (fun _ => .tuple #[.int .i64 (s2.length : Int), .nilIface]) (WZ r s row own) (fun x => WZ r (s ++ s2) x.1 true) [] := by
 refine J4 Tryz.func101 rfl rfl fun w => JT ?_
 unfold WZ
 refine Jr 9 rfl (Vn (T := [yT r s row own]) (L0 := JJ 5 (s.map bV) row) (Rl := []) (List.Perm.refl _) rfl rfl rfl (enters_of Tryz.func156 m5 rfl) (Jaw r s row own) oN fun u => ?_); change HL _ _ _ (yT r s row true :: JJ 5 (s.map bV) row) _ _ _ _; refine JM 8 rfl (LR rfl (Jd (v := Jx s.length row) rfl (kn 0 rfl) rfl rfl) (QV rfl (Jfs (e := 5) (s := s) (s2 := s2) (row := row) (L0 := [yT r s row true]) (List.perm_append_comm (l₁ := [_])) rfl rfl rfl rfl rfl rfl rfl rfl rfl hb.1 hb.2 m0 fun row2 h1 h2 => (Ks List.perm_append_comm ?_)))); change HL _ _ _ ((r, .cells #[pB true r, Jx s.length row] 127 (0, 0)) :: JJ 5 ((s ++ s2).map bV) row2) _ _ _ _; refine JM 2 rfl (Kh (k := 0) (cs' := #[pB true r, Jx (s ++ s2).length row2]) rfl rfl rfl rfl rfl (Jj8 _ _) rfl rfl rfl rfl (N5 ?_)); refine g6 ?_; refine kj ?_; refine MC fun w1 hs1 => ?_; exact ⟨⟨row2, h1, h2⟩, rfl, hs1⟩
theorem Jwf (r : Nat) (own : Bool) (hb : bOk s row) : PureR Tryz.prog 102 [VA r].toArray (.int .i64 (s.length : Int)) [yT r s row own] := by
 refine Ja Tryz.func102 rfl rfl fun w => JT (Jr 10 rfl (LR rfl (Jd (v := Jx s.length row) rfl (J2 (k := 0) rfl) rfl rfl) (LR rfl (WA rfl hb.1.zero rfl) ?_))); exact MY
theorem Jf5 (hb : bOk s row) (hl : s.length ≤ 1000000) :
  PureT (α := Unit) Tryz.prog 103 [VA r].toArray (fun _ => Js s) (WZ r s row own) (fun _ => []) [] := by
 have hcap : ∀ q cap sp, row = some (q, cap, sp) → cap ≠ 0 := by
  rintro q cap sp rfl h0
  obtain ⟨⟨h1, h2⟩, h3⟩ := hb
  have h4 : s.length = 0 := by omega
  have := h3 (List.eq_nil_of_length_eq_zero h4)
  cases this
 refine J4 Tryz.func103 rfl rfl fun w => JT ?_
 unfold WZ
 refine Nd ?_
 refine JU [] [(0, .pure), (1, .pure), (2, .pure), (4, .pure), (5, .pure), (6, .pure), (7, .pure), (9, .pure)] 10 [0, 1, 2, 3, 4, 5, 6, 7, 8, 9] m5 m5 m7 (Ho ?_); refine Jm (k := 1) rfl rfl rfl rfl rfl (fun _ hS => (J1 rfl rfl rfl)) ?_
 refine Nx ?_; refine KW (k := 3) rfl rfl rfl rfl rfl (Jd (v := Jx s.length row) rfl (kn 0 rfl) rfl rfl) (Jm (k := 4) rfl rfl rfl rfl rfl (fun _ _ => Jaf rfl hcap) (Jm (k := 5) rfl rfl rfl rfl rfl (fun _ hS => (Je rfl)) (Jm (k := 6) rfl rfl rfl rfl rfl (fun _ hS => (J1 rfl rfl rfl)) ?_)))
 refine gt ?_; refine KW (k := 8) rfl rfl rfl rfl rfl (Jd (v := Jx s.length row) rfl (kn 0 rfl) rfl rfl) (Jm (k := 9) rfl rfl rfl rfl rfl (fun _ _ => WA rfl hb.1.zero rfl) (Kz (vp (e := 5) (s := s) (row := row) (L0 := [yT r s row own]) (List.perm_append_comm (l₁ := [_])) rfl rfl rfl rfl rfl rfl hb.1 hb.2 m0 (gA ?_)))); refine N2 fun w1 hs1 => ?_; exact ⟨(), rfl, hs1.weakL (List.nil_sublist _)⟩
theorem Jax (x : Ty) : WN x = if JC x then JV x else 4 := rfl
theorem vQ (ht : t.In R) : PureR Tryz.prog 165 [t.val].toArray (.tuple #[.int .i64 (WN t), .bool (JC t)]) R := by
 have h1 := Jar ht
 have h2 := Jfz ht
 unfold ws at h2
 rw [Jax]
 generalize JC t = b at h1 h2 ⊢
 generalize JV t = z at h2 ⊢
 obtain ⟨k, n, p, ins⟩ := t
 refine Ja Tryz.func165 rfl rfl fun w => Mw fun r1 => ?_; refine GT ?_; refine MD ?_; refine Jc rfl rfl rfl Jnq h1 oR (gM ?_); refine cD (fun g => ?_) fun g => ?_
 refine N6 ?_; refine MD ?_; refine Jc rfl rfl rfl Jnr h2 oR (Jy 6 rfl (Nc fun w1 hs1 => ?_))
 simp_all [JK]
 ·refine KS 9 rfl (Nc fun w1 hs1 => ?_)
  simp_all [JK]
theorem Juw {k n : Int} {p : Pl} {ins : List Ty} {pick : Int} (ht : Ty.In R (.mk k n p ins)) (hp8 : k = 8 → 0 ≤ pick) (hx : VX k pick i < ins.length) : PureR Tryz.prog 231 [Ty.val (.mk k n p ins), .int .i64 pick, .int .i64 (i : Int)].toArray (JE k pick ins i).val R := by
 have hty := Qp hx
 cases ht with
 | @mk k n p ins hk hn hlt hst hit =>
 obtain ⟨X, hX⟩ : ∃ X, X = JE k pick ins i := ⟨_, rfl⟩
 rw [← hX] at hty ⊢; refine Ja Tryz.func231 rfl rfl fun w => ML fun r1 r2 => ?_; refine Goc 16 [1] rfl rfl (cD (fun g => ?_) fun g => ?_)
 refine Wt 5 [1] rfl rfl (LR rfl (Jf (j := VX k pick i) rfl hst rfl rfl rfl (by unfold VX; rw [if_pos m8]) hx) ?_); exact NL
 ·refine Nd ?_; refine cD (fun g => ?_) fun g => ?_
  refine Wt 5 [1] rfl rfl (LR rfl (Jf (j := VX k pick i) rfl hst rfl rfl rfl (by unfold VX; rw [if_neg m8, if_pos m8]; have := hp8 m8; omega) hx) ?_); exact NL
  ·refine Wt 7 [1] rfl rfl (LR rfl (Jf (j := VX k pick i) rfl hst rfl rfl rfl (by unfold VX; rw [if_neg m8, if_neg m8]; rfl) hx) (LR rfl (KV oR rfl hst hty.1 rfl rfl) (Jk (k := 0) (n := 3) (ys := X.cells) rfl rfl rfl rfl rfl X.len rfl X.one rfl (Jy 3 rfl (Jj rfl rfl (.cons (Jt (vs := X.cells) rfl (kn 0 rfl) rfl (by rw [X.len]; rfl)) .nil) (fun w1 hs1 => ?_)))))); exact MA
def Kv (k : Int) (ins : List Ty) (m : Nat) : List Ty := (List.range m).map fun i => JE k 0 ins i
theorem V5 : ∀ a b : List Ty, Ke (a ++ b) = Ke a + Ke b
 | [], b => by rw [List.nil_append, Ke, Int.zero_add]
 | x :: xs, b => by rw [List.cons_append, Ke, Ke, V5 xs b, Int.add_assoc]
theorem Jkb (k : Int) (ins : List Ty) (i : Nat) : Ke (Kv k ins (i + 1)) = Ke (Kv k ins i) + WN (JE k 0 ins i) := by
 unfold Kv
 rw [List.range_succ, List.map_append, V5, List.map_cons, List.map_nil, Ke, Ke, Int.add_zero]
theorem vR (x : Ty) : 1 ≤ WN x ∧ WN x ≤ 2251799813685248 := by
 unfold WN
 split
 ·rename_i h
  obtain ⟨h1, h2⟩ := Xm.1 h
  have h3 := xH x 0 (Int.le_refl _) h1 h2
  have h4 := Jl7 (show (5 - (0 : Int)).toNat ≤ 5 by decide)
  omega
 ·omega
theorem jS : ∀ l : List Ty, 0 ≤ Ke l ∧ Ke l ≤ 2251799813685248 * l.length
 | [] => by rw [Ke]; simp
 | x :: xs => by
  have h1 := vR x
  have h2 := jS xs
  rw [Ke, List.length_cons]; omega
theorem X9 (k : Int) (ins : List Ty) (m : Nat) : (Kv k ins m).length = m := by unfold Kv; rw [List.length_map, List.length_range]
def jb (r : Nat) (m : Int) : Nat × Obj := (r, .cells #[.int .i64 m] 3 (0, 0))
theorem Jay (t : Ty) (m : Int) : PureE (α := Nat × Nat) Tryz.prog 164 [t.val, .int .i64 m].toArray (fun p => .func (.func 230) #[] #[VA p.2, VA p.1]) (fun p => [jb p.2 m, VK p.1 t]) := by
 obtain ⟨k, n, p, ins⟩ := t
 refine Vw Tryz.func164 rfl rfl fun w => ML fun r1 r2 => ?_; refine N5 ?_; exact Nl
def itV (k : Int) (ins : List Ty) (i : Nat) : List Value := [.int .i64 (i : Int), (JE k 0 ins i).val]
theorem Jh6 {k n : Int} {p : Pl} {ins : List Ty} (ht : Ty.In R (.mk k n p ins)) (hm : m ≤ 1000000) (hx : ∀ i, i < m → VX k 0 i < ins.length) (rt ri : Nat) :
    xl Tryz.prog 230 [VA ri, VA rt] (jb ri m :: VK rt (.mk k n p ins) :: R) 0 (nxN (itV k ins) m) (Jez m) := by
  refine Wr Tryz.func230 rfl rfl fun q xids w2 XI XF hY => Nq ?_; intro i hi; refine Nd ?_; refine cD (fun g => ?_) fun g => ?_
  · refine JS 11 rfl ?_
    have hil : i < m := by omega
    refine NO ?_; refine W9 (XT := XI (i + 1)) (XF := XF) rfl rfl rfl rfl (hY i (itV k ins i) (i + 1) ⟨hil, rfl, rfl⟩) ?_ ?_
    all_goals (
     refine G0 ?_; refine JA rfl (fun g => ?_) (fun g => ?_)
     · try exact Bool.noConfusion g
       all_goals try simp only [ZZ] at g
       all_goals (
        exact MB
        skip)
     · try exact Bool.noConfusion g
       all_goals try simp only [ZZ] at g
       all_goals (
        refine G4 ?_; refine NF ?_; exact MU
        skip)
     skip)
  · refine kv fun w1 hs1 => ?_
    obtain ⟨xs1, hx1⟩ := hs1.now
    exact ⟨⟨_, rfl⟩, hs1.keep, .inl ⟨i, _, (by show i = m; omega), hx1⟩⟩
theorem Jdv {k n : Int} {p : Pl} {ins : List Ty} (ht : Ty.In R (.mk k n p ins)) (hm : m ≤ 600) (hx : ∀ i, i < m → VX k 0 i < ins.length) : PureR Tryz.prog 163 [Ty.val (.mk k n p ins), .int .i64 (m : Int)].toArray (.int .i64 (Ke (Kv k ins m))) R := by
 have hti := fun i h => ht.sub _ (Qp (hx i h)).2
 refine Ja Tryz.func163 rfl rfl fun w => Mw fun r1 => ?_; refine N5 ?_; refine LN rfl fun r2 => ?_
 refine Ng ?_; refine XN 7 [1] rfl rfl (Vp rfl rfl rfl Jns (Jay (.mk k n p ins) (m : Int)) fun pp => ?_)
 obtain ⟨ra, rb⟩ := pp
 change HL _ _ _ (jb rb m :: VK ra (.mk k n p ins) :: _) _ _ _ _; refine Nw ?_; refine Wp [2, 0, 1, 3] (L' := [_, _, _, _]) m6 rfl ?_
 refine Xj (τ := Unit) (fun i (s : Nat) => i ≤ m ∧ i = s) (fun s => [(r2, .cells #[.int .i64 (Ke (Kv k ins s))] 3 (0, 0))]) (fun _ _ => False) (fun _ => []) [jb rb m, VK ra (.mk k n p ins), _] 0 rfl rfl Jnx (Jh6 ht m0 hx ra rb) mw rfl (fun q hq => by rcases List.mem_cons.1 hq with rfl | hq; exact .inl me; rcases List.mem_cons.1 hq with rfl | hq; exact .inl me; exact .inr hq) rfl ⟨Nat.zero_le _, rfl⟩ ?_ ?_ ?_
 rintro q Xr Xb w3 i _ _ s ⟨hii, rfl, rfl⟩ ⟨him, rfl⟩ Kr hKr; refine inR ?_
 have hti1 := hti i hii
 have hb1 := vR (JE k 0 ins i)
 have hb2 := jS (Kv k ins i)
 rw [X9] at hb2
 unfold itV
 refine Hf ?_; refine LN rfl fun r3 => GK ?_; clear hKr; refine G3 ?_; refine NY ?_; refine Jc rfl rfl rfl Jhu (vQ hti1) (fun q hq => Or.inr (List.mem_append_right _ hq)) (JM 8 rfl (LR rfl (Jd (v := .int .i64 (Ke (Kv k ins i))) rfl (kn 1 rfl) rfl rfl) (ko ?_))); refine Jn (show _ = Value.int .i64 (Ke (Kv k ins (i + 1))) from by rw [Jkb]; exact congrArg (Value.int .i64) (wrap_i64 m0 m0)) (Kh (k := 1) (cs' := #[.int .i64 (Ke (Kv k ins (i + 1)))]) rfl rfl rfl rfl rfl rfl rfl rfl rfl rfl (gG ?_)); refine QQ (i + 1) ⟨by omega, rfl⟩ rfl
 rintro D i s hfi ⟨him, rfl⟩
 obtain rfl : m = i := Eq.symm hfi
 refine gqo 4 rfl (LR rfl (Jd (v := .int .i64 (Ke (Kv k ins m))) rfl (kn 1 rfl) rfl rfl) (gA ?_)); refine H2 ?_; exact MK
 ·exact kw
theorem Jdw (hl : s.length ≤ 1000000) : Pure Tryz.prog 114 [Js s].toArray (Js s.reverse) := by
 refine J5 Tryz.func114 rfl rfl fun w => GY ?_; refine XO rfl rfl rfl rfl rfl rfl fun rb kb => ?_
 obtain ⟨sp, hsp⟩ : ∃ sp, sp = List.replicate kb (Value.int .u8 0) := ⟨_, rfl⟩
 rw [← hsp]
 obtain ⟨fr, hfr⟩ : ∃ fr : Nat × Nat, fr = (s.length + kb, s.length + kb + 1) := ⟨_, rfl⟩
 rw [← hfr]
 have hfz : ∀ q, q < s.length → frB fr q = false := fun q hq => by rw [hfr]; simp [frB, Nat.blt, Nat.ble]; omega
 refine GT ?_; refine NK ?_; refine WR rfl (Jn (show _ = Value.int .i64 ((s.length : Int) - 1) from congrArg (Value.int .i64) (wrap_i64 m0 m0)) (JR 5 rfl ?_)); refine Jw (σ := Nat) (fun i => 2 * i ≤ s.length + 1 ∧ 2 * i ≤ s.length) (fun i => [(3, .slice (some ⟨rb, 0, none⟩) s.length (s.length + kb)), (4, .int .i64 (i : Int)), (5, .int .i64 ((s.length : Int) - 1 - (i : Int)))]) (fun i => [(rb, .cells ((YD s i).map bV ++ sp).toArray 5 fr)]) (fun _ _ _ => True) (fun i => s.length - i) 0 ⟨by omega, by omega⟩ (.cons rfl (.cons rfl (.cons nY .nil))) (List.Sublist.refl _) (fun _ _ h => h) ?_; rintro i ⟨hi1, hi2⟩; refine JS 8 rfl (cD (fun g => ?_) fun g => ?_)
 ·refine JS 4 rfl ?_
  have hii : i + 1 ≤ s.length - i := by omega
  obtain ⟨Y, hY⟩ : ∃ Y, Y = YD s i := ⟨_, rfl⟩
  have hYl : Y.length = s.length := by rw [hY]; exact Yu s i
  refine MR ?_; refine Jm (k := 6) rfl rfl rfl rfl rfl (fun _ _ => Ki (j := (s.length - 1 - i)) (m := 1) (off' := (s.length - 1 - i)) rfl rfl rfl rfl m0 m0 m0) ?_; refine KW (k := 7) rfl rfl rfl rfl rfl (Jd rfl (kn 0 rfl) rfl (vz (xs := Y.map bV) (v := bV (Y.getD (s.length - 1 - i) 0)) (Yt m0))) ?_; refine N9 ?_; refine ZH (k := 13) (q := 0) (cs' := ((Y.set i (Y.getD (s.length - 1 - i) 0)).map bV ++ sp).toArray) rfl rfl rfl rfl rfl rfl rfl rfl (hfz _ m0) nD (jR m0) rfl (fun _ h => nomatch h) ?_; refine Jm (k := 14) rfl rfl rfl rfl rfl (fun _ _ => Ki (j := (s.length - 1 - i)) (m := 1) (off' := (s.length - 1 - i)) rfl rfl rfl rfl m0 m0 m0) ?_; refine ZH (k := 15) (q := 0) (cs' := ((YD s (i + 1)).map bV ++ sp).toArray) rfl rfl rfl rfl rfl rfl rfl rfl (hfz _ m0) nD Ma rfl (fun _ h => nomatch h) ?_; refine Kz ?_; refine gB ?_; refine Jh m0 m0 ?_; refine JM 2 rfl ?_; refine Jn (show _ = Value.int .i64 ((s.length : Int) - 1 - ((i + 1 : Nat) : Int)) from by rw [wrap_i64 m0 m0]; congr 1 <;> omega) ?_; exact gV
 ·refine Nd ?_; rw [Jdr (xs := s) (i := i) m0 m0]; refine N6 ?_; refine LR rfl (vg (b := s.reverse) rfl (kn 0 rfl) (by rw [List.length_reverse]) nw rfl rfl rfl) ?_; exact MY
theorem zJ {b : UInt8} : (Y.map bV).toArray.setIfInBounds i (bV b) = ((Y.set i b).map bV).toArray := by
 rw [List.setIfInBounds_toArray, List.map_set]
theorem Jh7 (x : UInt8) (hm : m < 8) : Value.int .u8 ((x.toNat ||| 2 ^ m : Nat) : Int) = bV (UInt8.ofNat (x.toNat ||| 2 ^ m)) := Jgm (Jul (Vs x) hm)
theorem Joj (hm : m < 8) : IntKind.u8.wrap (1 * ((2 ^ m : Nat) : Int)) = ((2 ^ m : Nat) : Int) := by
 have h : 2 ^ m ≤ 128 := Nat.pow_le_pow_right (n := 2) (i := m) (j := 7) m6 m0
 generalize 2 ^ m = q at h ⊢
 rw [Int.one_mul]; exact xj m0 m0
theorem Jok {l : List Bool} (hl : l.length ≤ 1000000) (eg : Enters Tryz.prog g) (hg : ∀ i, i < l.length → PureR Tryz.prog g (Value.int .i64 (i : Int) :: caps).toArray (.bool (l.getD i false)) R) :
  PureR Tryz.prog 116 [.int .i64 (l.length : Int), .func (.func g) #[] caps.toArray].toArray (Js (VC l)) R := by
 obtain ⟨N, hN⟩ : ∃ N, N = (l.length + 7) / 8 := ⟨_, rfl⟩
 have hpB : VC l = KM l N l.length := by rw [hN]; rfl
 refine Ja Tryz.func116 rfl rfl fun w => kd ?_; refine kG fun rm => ?_; refine JR 11 rfl (Jw (σ := Nat) (fun i => i ≤ l.length) (fun i => [(1, .func (.func g) #[] caps.toArray), (5, .slice (some ⟨rm, 0, none⟩) N N), (12, .int .i64 (l.length : Int)), (13, .int .i64 (i : Int))]) (fun i => [(rm, .cells ((KM l N i).map bV).toArray 5 (0, 0))]) (fun _ _ _ => True) (fun i => l.length - i) 0 (Nat.zero_le _) (lK rfl) (List.Sublist.refl _) (fun _ _ h => h) ?_); intro i hi1; refine Nd ?_; refine cD (fun h7 => ?_) fun h7 => ?_
 ·refine kF ?_
  have hil : i < l.length := by omega
  have hi8 : i / 8 < N := by omega
  refine Jr 9 rfl (Jc rfl rfl rfl eg (hg i hil) oR (gM ?_)); refine cD (fun h11 => ?_) fun h11 => ?_
  ·have hbt : l.getD i false = true := by assumption
   have hst1 : KM l N (i + 1) = (KM l N i).set (i / 8) (UInt8.ofNat (((KM l N i).getD (i / 8) 0).toNat ||| 2 ^ (i % 8))) := by rw [KM, if_pos hbt]
   obtain ⟨Y, hY⟩ : ∃ Y, Y = KM l N i := ⟨_, rfl⟩
   have hYl : Y.length = N := by rw [hY]; exact Vq l N i
   rw [← hY] at hst1 ⊢
   refine Ns ?_; refine WE (show _ = Value.int .i64 ((i / 8 : Nat) : Int) from congrArg (Value.int .i64) nQ) (NA ?_); refine WE (show _ = Value.int .i64 ((i % 8 : Nat) : Int) from congrArg (Value.int .i64) nQ) (Jm (k := 7) rfl rfl rfl rfl rfl (fun _ _ => zf (n := i % 8) (b := ((2 ^ (i % 8) : Nat) : Int)) rfl rfl rfl (show _ ≤ 8 from by omega) (Joj m0)) (MW ?_)); refine GU ?_; exact MU
  ·refine G4 ?_; refine NF ?_
   (have hst0 : KM l N (i + 1) = KM l N i := by rw [KM, if_neg my]
    exact Jo (i + 1) m0 m0 (lK rfl) (by rw [hst0]; exact List.Sublist.refl _) (fun _ _ h => h))
 ·refine Nd ?_
  obtain rfl : i = l.length := by omega
  refine N6 ?_; refine LR rfl (QG (b := KM l N l.length) (row := some (rm, N, [])) (e := 5) nU ⟨by rw [List.length_map]; omega, by rw [Vq]; simp⟩ (fun p hp => .inl mA) rfl rfl rfl) (HO fun w1 hs1 => ?_); rw [hpB]; rfl
theorem Jzp  {a : Nat} {bits : List Bool} {items : List Vl} {pick : Int} (hsb : Seg R bits.length (Qx bits) pb) (hl : bits.length ≤ 9223372036854775807) (rv : Nat) (hi : i < bits.length) :
  PureR Tryz.prog 117 [.int .i64 (i : Int), VA rv].toArray (.bool (bits.getD i false)) (WY rv (.mk a b c d bits pb items pi pick) :: R) := by
 have hsb := hsb.mono (R' := WY rv (.mk a b c d bits pb items pi pick) :: R) fun q hq => List.mem_cons_of_mem _ hq
 have hy : bits[i]? = some (bits.getD i false) := by rw [List.getD_eq_getElem?_getD, List.getElem?_eq_getElem hi]; rfl
 generalize bits.getD i false = y at hy ⊢
 refine Ja Tryz.func117 rfl rfl fun w => GY ?_; refine gh ?_; refine Hy ?_; exact MY
theorem Jzq  {a : Nat} {bits : List Bool} {items : List Vl} {pick : Int} (hsb : Seg R bits.length (Qx bits) pb) (hl : bits.length ≤ 9223372036854775807) (rn rv : Nat) (hi : i < (bits ++ [true]).length) :
  PureR Tryz.prog 118 [.int .i64 (i : Int), VA rn, VA rv].toArray (.bool ((bits ++ [true]).getD i false)) (jb rn bits.length :: WY rv (.mk a b c d bits pb items pi pick) :: R) := by
 have hsb := hsb.mono (R' := jb rn bits.length :: WY rv (.mk a b c d bits pb items pi pick) :: R) fun q hq => List.mem_cons_of_mem _ (List.mem_cons_of_mem _ hq)
 rw [List.length_append] at hi; simp only [List.length_cons, List.length_nil] at hi
 by_cases he : i = bits.length
 have hv : (bits ++ [true]).getD i false = true := by rw [List.getD_eq_getElem?_getD, List.getElem?_append_right m0, he, Nat.sub_self]; rfl
 rw [hv]; refine Hx fun w => ?_; refine WR rfl (Jn (show _ = Value.bool true from Jdt (Jzb (by rw [he]))) (Jy 11 rfl ?_)); exact MK
 ·have hy : bits[i]? = some (bits.getD i false) := by rw [List.getD_eq_getElem?_getD, List.getElem?_eq_getElem m0]; rfl
  have hv : (bits ++ [true]).getD i false = bits.getD i false := by rw [List.getD_eq_getElem?_getD, List.getElem?_append_left m0, List.getD_eq_getElem?_getD]
  rw [hv]
  generalize bits.getD i false = y at hy ⊢
  have hne : ((i : Int) == (bits.length : Int)) = false := by simp; omega
  refine Hx fun w => ?_; refine WR rfl (Jn (show _ = Value.bool false from Jdt (hne)) (JM 2 rfl ?_)); refine gi ?_; refine Hy ?_; refine kj ?_; exact MK
theorem vT {k : Int} (h8 : k ≠ 8) (pick : Int) (ins : List Ty) (i : Nat) : JE k pick ins i = JE k 0 ins i := by
 unfold JE VX; split
 ·rfl
 ·simp [h8]
theorem Jaz {k : Int} (h8 : k ≠ 8) (pick : Int) (ins : List Ty) : ∀ (l : List Vl) (i : Nat), KZ l k pick ins i = KZ l k 0 ins i
 | [], i => by rw [KZ, KZ]
 | x :: xs, i => by rw [KZ, KZ, Jaz h8 pick ins xs (i + 1), vT h8]
theorem Jdx {k : Int} (ins : List Ty) : ∀ (l : List Vl) (i : Nat), (KZ l k 0 ins i).map Prod.fst = (List.range' i l.length).map fun j => JE k 0 ins j
 | [], i => by rw [KZ]; rfl
 | x :: xs, i => by
  rw [KZ, List.map_cons, Jdx ins xs (i + 1), List.length_cons, List.range'_succ, List.map_cons]
theorem Jdy (k : Int) (ins : List Ty) (l : List Vl) : (KZ l k 0 ins 0).map Prod.fst = Kv k ins l.length := by
 rw [Jdx]; unfold Kv; rw [List.range_eq_range']
theorem Jsz (A : List α) (x : α) (B : List α) : (A ++ x :: B).Perm (B ++ (A ++ [x])) := by
 rw [show A ++ x :: B = (A ++ [x]) ++ B by simp]; exact List.perm_append_comm
def zK (l : List (Ty × BS)) : Nat := (l.map fun p => p.2.length + 4).sum
theorem ym (p : Ty × BS) (l : List (Ty × BS)) : zK (p :: l) = p.2.length + 4 + zK l := by unfold zK; rw [List.map_cons, List.sum_cons]
theorem Ja0 : bOk [] none := ⟨⟨rfl, rfl⟩, fun _ => rfl⟩
set_option maxHeartbeats 1000000 in
theorem Jwh {k n : Int} {p : Pl} {ins : List Ty} {items : List Vl} (ht : Ty.In R (.mk k n p ins)) (hs : Seg R items.length (Qi items) pi) (hl : items.length ≤ 600) (hx : ∀ i, i < items.length → VX k 0 i < ins.length)
  (hb : ∀ (i : Nat) x, items[i]? = some x → PureR Tryz.prog 77 [(JE k 0 ins i).val, x.val].toArray (Js (Vr x (JE k 0 ins i))) R) (hB : zK (KZ items k 0 ins 0) ≤ B) (hB2 : B ≤ 900000) :
  PureR Tryz.prog 119 [Ty.val (.mk k n p ins), KB items.length pi].toArray (Js (YC (Ke (Kv k ins items.length)).toNat (KZ items k 0 ins 0) [] [])) R := by
 have hti := fun i h => ht.sub _ (Qp (hx i h)).2
 have hbg := Jdv ht hl hx
 have hbl := jS (Kv k ins items.length)
 rw [X9] at hbl
 obtain ⟨H, hH⟩ : ∃ H, H = (Ke (Kv k ins items.length)).toNat := ⟨_, rfl⟩
 have hHi : Ke (Kv k ins items.length) = (H : Int) := by omega
 have hHb : H ≤ 1351079888211148800 := by omega
 rw [hHi] at hbg; rw [← hH]
 obtain ⟨TOT, hTOT⟩ : ∃ T, T = YC H (KZ items k 0 ins 0) [] [] := ⟨_, rfl⟩
 rw [← hTOT]; refine Ja Tryz.func119 rfl rfl fun w => ML fun r1 r2 => ?_; refine N5 ?_; refine LN rfl fun r3 => LN rfl fun r4 => XN 6 [3, 2] rfl rfl (MV ?_); refine Jc rfl rfl rfl (enters_of Tryz.func163 m5 rfl) hbg oR (LN rfl fun r5 => ?_)
 refine Ng ?_; refine XN 7 [4, 3] rfl rfl (MV ?_); refine Vp rfl rfl rfl Jns (Jay (.mk k n p ins) (items.length : Int)) fun pp => ?_
 obtain ⟨ra, rb⟩ := pp
 change HL _ _ _ (jb rb items.length :: VK ra (.mk k n p ins) :: _) _ _ _ _; refine Nw ?_; refine Wp [4, 3, 0, 1, 2, 5, 6] (L' := [yT r3 [] none false, yT r4 [] none false, jb rb items.length, VK ra (.mk k n p ins), _, _, _]) m6 rfl ?_
 refine Xj (τ := Unit) (fun i (s : BS × BS × Vk × Vk × Bool × Bool) => i ≤ items.length ∧ YC H (KZ (items.drop i) k 0 ins i) s.1 s.2.1 = TOT ∧ bOk s.1 s.2.2.1 ∧ bOk s.2.1 s.2.2.2.1 ∧ s.1.length + s.2.1.length + zK (KZ (items.drop i) k 0 ins i) ≤ B) (fun s => WZ r3 s.1 s.2.2.1 s.2.2.2.2.1 ++ WZ r4 s.2.1 s.2.2.2.1 s.2.2.2.2.2) (fun _ _ => False) (fun _ => []) [jb rb items.length, VK ra (.mk k n p ins), _, _, _] ([], [], none, none, false, false) rfl rfl Jnx (Jh6 ht m0 hx ra rb) mw rfl (fun q hq => by rcases List.mem_cons.1 hq with rfl | hq; exact .inl me; rcases List.mem_cons.1 hq with rfl | hq; exact .inl me; exact .inr hq) rfl ⟨Nat.zero_le _, hTOT.symm, Ja0, Ja0, by simpa using hB⟩ ?_ ?_ ?_
 ·rintro q Xr Xb w3 i _ _ ⟨f, th, row1, row2, own1, own2⟩ ⟨hii, rfl, rfl⟩ ⟨him, hinv, hb1, hb2, hlen⟩ Kr hKr; refine inR ?_
  simp only at hinv hb1 hb2 hlen
  have hti1 := hti i hii
  have hix := XX hii
  have hbi := hb i _ hix.1
  rw [Yn hix.1, KZ, YC] at hinv; rw [Yn hix.1, KZ, ym] at hlen
  obtain ⟨S, hS⟩ : ∃ S, S = Vr (XW items i) (JE k 0 ins i) := ⟨_, rfl⟩
  simp only [← hS] at hinv hlen; rw [← hS] at hbi
  have hle4 := Jdl (H + th.length)
  unfold itV
  refine gU ?_; refine QD (cs := #[.int .i64 0, .int .i64 0, .slice none 0 0]) rfl rfl rfl rfl fun r9 => GK ?_; clear hKr; refine JS 2 rfl (JI 7 m5 m5 (Jb rfl rfl rfl (Jg (xs := (JE k 0 ins i).cells) (n := 3) rfl (kn 0 rfl) rfl rfl (JE k 0 ins i).len) (Jb rfl rfl rfl (Jd (v := KB items.length pi) rfl (J2 (k := 3) rfl) rfl rfl) (Mx ?_))))
  refine gZ ?_; refine Jb rfl rfl rfl (QH (fun q hq => Or.inr (List.mem_append_right _ hq)) rfl hs hix.1 rfl rfl) (Xy rfl rfl rfl Jv5 hbi (fun q hq => Or.inr (List.mem_append_right _ hq)) (Nz ?_)); refine N5 ?_; refine NY ?_; refine Jc rfl rfl rfl Jhu (vQ hti1) (fun q hq => Or.inr (List.mem_append_right _ hq)) (JR 12 rfl (cD (fun g => ?_) fun g => ?_))
  refine G3 ?_; refine Vn (T := WZ r3 f row1 own1) (L0 := (r9, .cells (JE k 0 ins i).cells.toArray 76 (0, 0)) :: WZ r4 th row2 own2) (Rl := []) List.perm_middle.symm rfl rfl rfl Jhr (vP hb1 (s2 := S) m0) oN fun x => ?_
  obtain ⟨row1x, hb1x⟩ := x
  refine kj ?_
  (rw [if_pos m8] at hinv
   refine jH (L' := WZ r3 (f ++ S) row1x true ++ WZ r4 th row2 own2) ((List.Sublist.refl _).append (.cons _ (List.Sublist.refl _))) ?_
   exact QQ (f ++ S, th, row1x, row2, true, own2) ⟨by omega, hinv, hb1x, hb2, by simp only [List.length_append]; omega⟩ rfl)
  ·refine Gt ?_; refine JI 10 m5 m5 (Jb rfl rfl rfl (Jd (v := .int .i64 (H : Int)) rfl (J2 (k := 2) rfl) rfl rfl) (Xy rfl rfl rfl (enters_of Tryz.func102 m5 rfl) (Jwf r4 own2 hb2) (fun q hq => Or.inl (by rw [List.mem_singleton.1 hq]; exact List.mem_cons_of_mem _ (List.mem_append_right _ List.mem_cons_self))) ?_))
   refine Mz ?_; refine Qe (show _ = Value.int .i64 ((H + th.length : Nat) : Int) from by rw [wrap_i64 m0 m0]; congr 1 <;> omega) ?_; refine Mz ?_; refine Qe (show _ = uV (H + th.length) from congrArg (Value.int .u64) (wrap_u64 m0 m0)) ?_; refine Qd rfl rfl rfl (enters_of Tryz.func166 m5 rfl) (Jdk (n := H + th.length) m0 4) ?_; refine H0 ?_; refine N5 ?_; refine Vn (T := WZ r3 f row1 own1) (L0 := (r9, .cells (JE k 0 ins i).cells.toArray 76 (0, 0)) :: WZ r4 th row2 own2) (Rl := []) List.perm_middle.symm rfl rfl rfl Jhr (vP hb1 (s2 := (zG (H + th.length) 4).1) m0) oN fun x => ?_
   obtain ⟨row1x, hb1x⟩ := x
   refine GS ?_; refine Vn (T := WZ r4 th row2 own2) (L0 := WZ r3 (f ++ (zG (H + th.length) 4).1) row1x true ++ [(r9, .cells (JE k 0 ins i).cells.toArray 76 (0, 0))]) (Rl := []) (Jsz _ _ _) rfl rfl rfl Jhr (vP hb2 (s2 := S) m0) oN fun x => ?_
   obtain ⟨row2x, hb2x⟩ := x
   refine Jy 2 rfl ?_
   (rw [if_neg (by rw [Bool.not_eq_true]; assumption)] at hinv
    refine xo List.perm_append_comm (jH (L' := WZ r3 (f ++ (zG (H + th.length) 4).1) row1x true ++ WZ r4 (th ++ S) row2x true) ((List.sublist_append_left _ _).append (List.Sublist.refl _)) ?_)
    exact QQ (f ++ (zG (H + th.length) 4).1, th ++ S, row1x, row2x, true, true) ⟨by omega, hinv, hb1x, hb2x, by simp only [List.length_append]; omega⟩ rfl)
 rintro D i ⟨f, th, row1, row2, own1, own2⟩ hfi ⟨him, hinv, hb1, hb2, hlen⟩
 simp only at hinv hb1 hb2 hlen
 have hin : i = items.length := hfi
 rw [hin, List.drop_length, KZ, YC] at hinv; refine gqo 4 rfl (Vn (T := WZ r3 f row1 own1) (L0 := _ :: (WZ r4 th row2 own2 ++ [jb rb items.length, VK ra (.mk k n p ins), _, _, _])) (Rl := []) (by rw [List.append_assoc]; exact List.perm_middle.symm) rfl rfl rfl Jnm (Jf5 hb1 m0) oN fun u1 => Vn (T := WZ r4 th row2 own2) (L0 := _ :: [jb rb items.length, VK ra (.mk k n p ins), _, _, _]) (Rl := []) List.perm_middle.symm rfl rfl rfl Jnm (Jf5 hb2 m0) oN fun u2 => LR rfl (Vy (a := f) (b := th) rfl rfl m0) (gA ?_)); refine H2 ?_; refine N2 fun w1 hs1 => ?_; exact ⟨by rw [← hinv]; rfl, hs1.keep⟩
 ·exact kw
theorem Xn {a : Nat} {bits : List Bool} {items : List Vl} {pick k n : Int} {p : Pl} {ins : List Ty} (h : Ko (.mk a b c d bits pb items pi pick) (.mk k n p ins) = 0) :
  ¬ ((k = 4 ∧ n < items.length) ∨ (k = 6 ∧ n < bits.length)) ∧ zC k n ins.length (.mk a b c d bits pb items pi pick) = true ∧ Qr items k pick ins 0 = 0 := by
 rw [Ko] at h
 split at h
 ·cases h
 ·rename_i h1
  split at h
  ·cases h
  ·rename_i h2
   exact ⟨h1, by simpa using h2, h⟩
theorem Wg : ∀ {l : List Vl} {k pick : Int} {ins : List Ty} {i j : Nat} {x : Vl}, Qr l k pick ins i = 0 → l[j]? = some x → Ko x (JE k pick ins (i + j)) = 0
 | [], _, _, _, _, _, _, _, h => by simp at h
 | y :: ys, k, pick, ins, i, j, x, h0, h => by
  rw [Qr] at h0
  split at h0
  ·rename_i h1
   cases j with
   | zero => simp at h; subst h; exact h1
   | succ j =>
    rw [List.getElem?_cons_succ] at h
    have := Wg h0 h
    rwa [show i + 1 + j = i + (j + 1) by omega] at this
  ·rename_i h1; exact absurd h0 h1
theorem Jol : ∀ {l : List Vl} {x : Vl}, x ∈ l → wV x ≤ wL l
 | y :: ys, x, h => by
  rw [wL]
  rcases List.mem_cons.1 h with rfl | h
  ·omega
  ·have := Jol h; omega
theorem Jf6 {a : Nat} {bits : List Bool} {items : List Vl} {pick : Int} {x : Vl} (h : x ∈ items) : wV x ≤ wV (.mk a b c d bits pb items pi pick) := by
 have := Jol h
 rw [wV]; omega
theorem Jdz (items : List Vl) (k pick : Int) (ins : List Ty) : ∀ (l : List Vl) (i : Nat), zK (KZ l k pick ins i) ≤ 40 * wL l
 | [], i => by rw [KZ, wL]; exact Nat.zero_le _
 | x :: xs, i => by
  rw [KZ, wL, ym]
  have h1 := yi x (JE k pick ins i)
  have h2 := Jdz items k pick ins xs (i + 1)
  simp only
  omega
theorem Jkc {z : Int} (h1 : 0 ≤ z) (h2 : z < 256) : Value.int .u8 (IntKind.u8.wrap z) = bV (UInt8.ofNat z.toNat) := by
 rw [xj h1 m0, ← Jgm m0, Int.toNat_of_nonneg h1]
theorem Js0 {l : List Vl} {k pick : Int} {ins : List Ty} (h : l.length = 1) : ((KZ l k pick ins 0).headD (default, [])).2 = Vr (XW l 0) (JE k pick ins 0) := by
 match l, h with
 | [x], _ => rw [KZ]; rfl
theorem Jd0 {a : Nat} {bits : List Bool} {items : List Vl} {pick k n : Int} {p : Pl} {ins : List Ty} (hc : V7 (.mk k n p ins) dp = 0) (h : Ko (.mk a b c d bits pb items pi pick) (.mk k n p ins) = 0) :
  items.length ≤ 512 ∧ bits.length ≤ 512 ∧ (k = 1 → 1 ≤ n ∧ n ≤ 32) ∧ (k = 8 → items.length = 1 ∧ 0 ≤ pick ∧ pick < ins.length ∧ ins.length ≤ 8) := by
 obtain ⟨h1, h2, _⟩ := Xn h
 obtain ⟨hk, hf, _, _⟩ := QT hc
 rw [Qq k n ins.length a b c d bits pb items pi pick _ rfl] at h2; simp only [Qg] at h2
 unfold Kk at hf
 have h9 : k = 1 ∨ k = 2 ∨ k = 3 ∨ k = 4 ∨ k = 5 ∨ k = 6 ∨ k = 7 ∨ k = 8 := by omega
 rcases h9 with rfl | rfl | rfl | rfl | rfl | rfl | rfl | rfl
 all_goals generalize items.length = I at *
 all_goals generalize bits.length = J at *
 all_goals generalize ins.length = K at *
 all_goals simp at h1 h2 hf ⊢
 all_goals omega
section
variable {c : Cx} {l : Kj} {L E : Ji} {X : XP} {Q : Exit → Act → World → Prop} {d : List Deferred}
variable {ops : Array Oper} {rest : List Nat} {i k : Nat} {v : Value} {o : Oper} {tb : j7} {S : Ji} {T : Ji → Act → Prop}
theorem VL {t : TypeId} {n : Nat} {vs : Kj} {r zs : List Value} {z : Value} (hk : Wl ops.toList k = some ⟨some i, .buildSlice t n pa.toArray, ty, ps, af, gd⟩) (hg : Kg l ops ⟨some i, .buildSlice t n pa.toArray, ty, ps, af, gd⟩ = some true) (hi : Nat.ble (i + 1) c.n = true)
  (hA : tb k = .grow (Wb (slV n) (.cells r.toArray e (0, 0))))
  (hp : W0 l pa = some vs) (ht : Kl c.P t = some e) (hz : QC c.P e = some z) (hs : KF c.P e = some sz) (hzs : z.cells.size = sz) (hb : Nat.ble (n * sz) 16777216 = true) (h0 : Nat.ble 1 (n * sz) = true)
  (hmk : (madeCells z.cells (n * sz)).toList = zs) (hf : YL (fun i => some (i * sz, sz)) zs (Qy vs) = some r)
  (h : ∀ q, HB c d ((i, .slice (some ⟨q, 0, none⟩) n n) :: l) ((q, .cells r.toArray e (0, 0)) :: E) X S ops tb rest T) : HB c d l E X S ops tb (k :: rest) T :=
 Jmc (V := slV n) hk hg rfl hi hA (fun a w hfr => by
  have h1 := Vg hfr hp
  have h2 : (pa.toArray.map fun (p : Nat × Operand) => (p.1, a.eval p.2)) = vs.toArray := by
   apply Array.toList_inj.1; rw [Array.toList_map]; simpa using h1
  rw [Qt] at hf; subst hmk
  have h3 := Vv ht hz hs hzs (Nat.le_of_ble_eq_true hb) (Nat.le_of_ble_eq_true h0) hf w
  rw [← h2] at h3; refine gu ?_
  have h4 : (Instr.buildSlice t n (pa.toArray.map fun (i, x) => (i, a.eval x))).run c.P w = .ok (.slice (some ⟨w.heap.size, 0, none⟩) n n) (w.alloc (.cells r.toArray e)) := h3
  rw [h4]; rfl) h
end
section
variable {a b c d : Nat} {bits : List Bool} {pb : Pl} {items : List Vl} {pi : Pl} {pick k n : Int} {p : Pl} {ins : List Ty}
theorem QR : Vr (.mk a b c d bits pb items pi pick) (.mk k n p ins) = if k = 1 then leW [a, b, c, d] n.toNat else if k = 2 then leW [a, b, c, d] 1 else if k = 5 then VC bits else if k = 6 then VC (bits ++ [true])
  else if k = 8 then UInt8.ofNat pick.toNat :: ((KZ items k pick ins 0).headD (default, [])).2 else YC (Ke ((KZ items k pick ins 0).map Prod.fst)).toNat (KZ items k pick ins 0) [] [] := by rw [Vr]; rfl
end
set_option maxHeartbeats 1000000 in
theorem Js1 (hv : v.In R) : ∀ (t : Ty) (dp : Int), t.In R → V7 t dp = 0 → Ko v t = 0 → wV v ≤ 20000 → PureR Tryz.prog 77 [t.val, v.val].toArray (Js (Vr v t)) R := by
 induction hv with
 | @mk a b c d bits pb items pi pick ha hb hc hd hlb hsb hl hs hp hi ih =>
 intro t dp ht hck hfit hw
 have ht0 := ht
 cases ht with
 | @mk k n p ins hk hn hlt hst hit =>
 obtain ⟨hk8, ho, h6, hci⟩ := QT hck
 obtain ⟨hf1, hf2, hf3⟩ := Xn hfit
 obtain ⟨m1, m2, m3, m4⟩ := Jd0 hck hfit
 have hxl : ∀ i, i < items.length → VX k pick i < ins.length := fun i hi => q5 (v := .mk a b c d bits pb items pi pick) hck hf2 hi
 have hwd : WOk [a, b, c, d] := ⟨rfl, fun x hx => by simp at hx; rcases hx with rfl | rfl | rfl | rfl <;> assumption⟩
 have hfx := YB hwd
 have hlen32 : (Zz [a, b, c, d] 32).reverse.length = 32 := by rw [List.length_reverse, VM]
 have hpt := Jdw (s := Zz [a, b, c, d] 32) (by rw [VM]; decide)
 have hle : ∀ m, leW [a, b, c, d] m = ((Zz [a, b, c, d] 32).reverse.take m).drop 0 := fun m => by rw [List.drop_zero]; rfl
 have hrow : ¬ k = 1 → ¬ k = 2 → ¬ k = 5 → ¬ k = 6 → ¬ k = 8 → PureR Tryz.prog 119 [Ty.val (.mk k n p ins), KB items.length pi].toArray (Js (Vr (.mk a b c d bits pb items pi pick) (.mk k n p ins))) R := fun h1 h2 h5 h6 h8 => by
  have hx0 : ∀ i, i < items.length → VX k 0 i < ins.length := fun i hi => by have := hxl i hi; unfold VX at this ⊢; rw [if_neg h8] at this ⊢; exact this
  have hwl : wL items ≤ wV (.mk a b c d bits pb items pi pick) := by rw [wV]; omega
  have := Jwh (B := 800000) ht0 hs m0 hx0 (fun i x hxi => by
   have hm := List.mem_of_getElem? hxi
   have hlt3 := (List.getElem?_eq_some_iff.1 hxi).1
   have hty := (Qp (hx0 i hlt3)).2
   have hg := Wg hf3 hxi
   rw [Nat.zero_add, vT h8] at hg
   exact ih x hm _ (dp + 1) (hit _ hty) (hci _ hty) hg (Nat.le_trans (Jf6 hm) hw)) (by have := Jdz items k 0 ins items 0; omega) m6
  rw [QR, if_neg h1, if_neg h2, if_neg h5, if_neg h6, if_neg h8, Jaz h8, Jdy]; exact this
 refine Ja Tryz.func77 rfl rfl fun w => ML fun r1 r2 => ?_; refine XN 7 [0] rfl rfl (LR rfl (Ju rfl hsb rfl) (LN rfl fun r3 => ?_))
 refine Ng ?_; refine Goc 16 [2] rfl rfl (cD (fun h6 => ?_) fun h6 => ?_)
 refine JS 1 rfl ?_
 have hn1 := m3 m8
 refine JI 8 m5 m5 ?_
 refine gC ?_; refine Jb rfl rfl rfl (Jl (vs := [_, _, _, _]) rfl (kn 1 rfl) rfl rfl rfl rfl) (Qd rfl rfl rfl Jhs hfx (Qd rfl rfl rfl Jno hpt ?_))
 refine gC ?_; refine Jb rfl rfl rfl (Jd rfl (kn 2 rfl) rfl rfl) (Jb rfl rfl rfl (V9 (kl := none) (kh := some (.i64, n)) (m := 0) (n := n.toNat) rfl rfl rfl rfl rfl (by show n = ((n.toNat : Nat) : Int); omega) (Nat.zero_le _) (by rw [hlen32]; omega) rfl) ?_); rw [← hle]; refine Nz ?_; refine kj ?_; refine Mv fun w1 hs1 => ?_; rw [QR, if_pos m8]; rfl
 ·refine Nd ?_; refine cD (fun g => ?_) fun g => ?_
  refine Wt 4 [1] rfl rfl (J6 rfl rfl rfl Jhs hfx (J6 rfl rfl rfl Jno hpt (LR rfl (V9 (kl := none) (kh := some (.i64, 1)) (m := 0) (n := 1) rfl rfl rfl rfl rfl (by show (1 : Int) = ((1 : Nat) : Int); omega) (Nat.zero_le _) (by rw [hlen32]; omega) rfl) ?_))); rw [← hle]; refine Jy 6 rfl (Mv fun w1 hs1 => ?_); rw [QR, if_neg m8, if_pos m8]; rfl
  ·refine Nd ?_; refine cD (fun g => ?_) fun g => ?_
   refine N6 ?_; refine LR rfl (Jd rfl (kn 0 rfl) rfl rfl) (g7 ?_); refine Jc (Rl := WY r2 (.mk a b c d bits pb items pi pick) :: R) rfl rfl rfl (enters_of Tryz.func116 m5 rfl) (Jok (caps := [VA r2]) m0 (enters_of Tryz.func117 m5 rfl) (fun i hi => Jzp hsb m0 r2 hi)) (fun q hq => (List.mem_cons.1 hq).elim (fun h => .inl (by rw [h]; exact List.mem_cons_of_mem _ List.mem_cons_self)) .inr) (Jy 6 rfl (Mv fun w1 hs1 => ?_)); rw [QR, if_neg m8, if_neg m8, if_pos m8]; rfl
   ·refine Nd ?_; refine cD (fun g => ?_) fun g => ?_
    refine Hc ?_; refine Jn (show _ = Value.int .i64 (((bits ++ [true]).length : Nat) : Int) from by rw [wrap_i64 m0 m0]; congr 1; rw [List.length_append]; rfl) (g7 ?_)
    refine Jc (Rl := jb r3 bits.length :: WY r2 (.mk a b c d bits pb items pi pick) :: R) rfl rfl rfl (enters_of Tryz.func116 m5 rfl) (Jok (caps := [VA r3, VA r2]) (by rw [List.length_append]; simp; omega) (enters_of Tryz.func118 m5 rfl) (fun i hi => Jzq hsb m0 r3 r2 hi)) (fun q hq => by rcases List.mem_cons.1 hq with rfl | hq; exact .inl List.mem_cons_self; rcases List.mem_cons.1 hq with rfl | hq; exact .inl (List.mem_cons_of_mem _ List.mem_cons_self); exact .inr hq) ?_; refine Jy 6 rfl ?_; refine Mv fun w1 hs1 => ?_; rw [QR, if_neg m8, if_neg m8, if_neg m8, if_pos m8]; rfl
    ·refine Nd ?_; refine cD (fun g => ?_) fun g => ?_
     refine JS 1 rfl ?_
     have hk0 : k = 8 := by assumption
     have h81 := (m4 hk0).1
     have hx8 := XX (l := items) (i := 0) m0
     have hty8 := Qp (hxl 0 m0)
     have hix8 : VX k pick 0 = pick.toNat := by unfold VX; rw [if_neg m0, if_pos hk0]
     rw [hix8] at hty8
     have hg8 := Wg hf3 hx8.1
     have hw8 := Nat.le_trans (Jf6 (a := a) (b := b) (c := c) (d := d) (bits := bits) (pb := pb) (pi := pi) (pick := pick) hx8.2) hw
     have hrec := ih _ hx8.2 (JE k pick ins 0) (dp + 1) (hit _ hty8.2) (hci _ hty8.2) hg8 hw8
     have hpl8 := yi (XW items 0) (JE k pick ins 0)
     refine JU [] [(0, .pure), (2, .pure), (3, .grow (Wb (slV 1) (.cells #[bV (UInt8.ofNat pick.toNat)] 5 (0, 0)))), (5, .pure), (7, .pure), (9, .pure), (11, .pure), (13, .pure), (16, .pure), (17, .pure)] 18 [0, 1, 2, 5, 6, 7, 8, 9, 10, 11, 12, 13, 14, 15, 3, 4, 16, 17] m5 m5 m7 ?_
     refine GF ?_; refine Jm (k := 2) rfl rfl rfl rfl rfl (fun _ hS => (J1 rfl rfl rfl)) (WE (show _ = bV (UInt8.ofNat pick.toNat) from Jkc (m4 m8).2.1 Mb) ?_)
     refine Jm (k := 5) rfl rfl rfl rfl rfl (fun _ hS => (J7 rfl rfl rfl)) (KW (k := 6) rfl rfl rfl rfl rfl (Jd rfl (kn 2 rfl) rfl rfl) ?_)
     refine gt ?_; refine KW (k := 8) rfl rfl rfl rfl rfl (Jd rfl (kn 1 rfl) rfl rfl) (Jm (k := 9) rfl rfl rfl rfl rfl (fun _ hS => (Jf (j := pick.toNat) rfl hst rfl rfl rfl Mb Mb)) (KW (k := 10) rfl rfl rfl rfl rfl (KV oR rfl hst hty8.1 rfl rfl) ?_))
     refine GQ ?_; refine KW (k := 12) rfl rfl rfl rfl rfl (Jd rfl (kn 1 rfl) rfl rfl) ?_
     refine Jm (k := 13) rfl rfl rfl rfl rfl (fun _ hS => (Jf (j := 0) rfl hs rfl rfl rfl mc m0)) (KW (k := 14) rfl rfl rfl rfl rfl (QH oR rfl hs hx8.1 rfl rfl) (Ql (k := 15) rfl rfl rfl rfl rfl Jv5 hrec oR (VL (k := 3) (n := 1) (sz := 1) (vs := [_]) (zs := [_]) (r := [bV (UInt8.ofNat pick.toNat)]) rfl rfl rfl rfl rfl rfl rfl rfl rfl rfl rfl mq rfl fun rv => KW (k := 4) rfl rfl rfl rfl rfl (QG (b := [UInt8.ofNat pick.toNat]) (row := some (rv, 1, [])) (e := 5) rfl ⟨rfl, rfl⟩ (fun p hp => .inl nn) rfl rfl rfl) (Jm (k := 16) rfl rfl rfl rfl rfl (fun _ hS => (Vy (a := [UInt8.ofNat pick.toNat]) (b := Vr (XW items 0) (JE k pick ins 0)) rfl rfl (by simp only [List.length_cons, List.length_nil]; omega))) (Jm (k := 17) rfl rfl rfl rfl rfl (fun _ hS => (JH rfl)) (Kz (kj ?_))))))); refine Mv fun w1 hs1 => ?_; rw [QR, if_neg m8, if_neg m8, if_neg m8, if_neg m8, if_pos m8, Js0 h81]; rfl
     ·refine G4 ?_; refine H5 ?_
      refine LS 2 [1] rfl rfl (Jc rfl rfl rfl (enters_of Tryz.func119 m5 rfl) (hrow m8 m8 m8 m8 m8) oR (HO fun w1 hs1 => ?_))
      rfl
theorem YE (h : Vt t v = 0) : V7 t 0 = 0 ∧ Ko v t = 0 := by
 unfold Vt at h
 split at h
 ·rename_i h1; exact ⟨h1, h⟩
 ·rename_i h1; exact absurd h h1
theorem Js2 (t : Ty) (h : wV v ≤ 20000) : (Vr v t).length ≤ 800000 := by have := yi v t; omega
theorem Jom (ht : t.In R) (hv : v.In R) (hw : wV v ≤ 20000) : PureR Tryz.prog 52 [t.val, v.val].toArray (ja (jO t v)) R := by
 have h1 := Jn8 ht hv
 have h2 := fun h => Js1 hv t 0 ht (YE (t := t) (v := v) h).1 (YE h).2 hw
 have hlb := Js2 t hw
 unfold jO
 generalize Vt t v = e at h1 h2 ⊢
 generalize Vr v t = s at h2 hlb ⊢
 obtain ⟨k, n, p, ins⟩ := t
 obtain ⟨a, b, c, d, bits, pb, items, pi, pick⟩ := v
 refine Ja Tryz.func52 rfl rfl fun w => ML fun r1 r2 => ?_; refine XN 9 [1, 0] rfl rfl (Jc rfl rfl rfl (enters_of Tryz.func76 m5 rfl) h1 oR (He ?_)); refine cD (fun g => ?_) fun g => ?_
 exact HR
 ·refine Wt 6 [1, 0] rfl rfl (Jc rfl rfl rfl Jv5 (h2 m0) oR (GT ?_)); refine g6 ?_; refine Nw ?_; refine cD (fun g => ?_) fun g => ?_
  refine KS 8 rfl (Nc fun w1 hs1 => ?_); rw [if_neg m0, if_pos m0]; rfl
  ·refine KS 10 rfl (Nc fun w1 hs1 => ?_); rw [if_neg m0, if_neg m0]; rfl
section
variable {c : Cx} {l : Kj} {L : Ji} {X : XP} {d : List Deferred} {i : Nat} {ps : String} {af : Array Edge} {gd : Option (Nat × Bool)} {ty : TypeId}
theorem Jd1 {x : Operand} {b : List UInt8} {off n : Nat} {e src dst : TypeId} (hx : JZ l x = some (.slice (some ⟨r, off, none⟩) n cap)) (hk : known c L r (.cells cs e fr)) (hn : n = b.length) (ht : (cs.toList.drop off).take b.length = b.map bV)
  (hs : Kl c.P src = some e) (he : c.P.underlying e = some (.int .u8)) (hd : wj c.P dst = true) :
  Jz c d l L X ⟨some i, .convert src dst x, ty, ps, af, gd⟩ (.string (bs b)) := fun a' w hf hst => by
 subst hn; simp only [execOp]; rw [hf.eval hx]
 have hget := hst.known hk
 have hl : (loadCells ⟨r, off, none⟩ (b.map bV).length).run c.P w = .ok (b.map bV).toArray w := run_loadCells_list w ⟨r, off, none⟩ (b.map bV) fun j v hj => by
  have hlt := (List.getElem?_eq_some_iff.1 hj).1
  rw [List.length_map] at hlt
  have hj2 : cs[off + j]? = some v := by
   rw [← ht, List.getElem?_take, if_pos hlt, List.getElem?_drop] at hj
   simpa using hj
  rw [jw, VY hget]; exact hj2
 rw [List.length_map] at hl; simp only [Sem.run_bind]; rw [run_convert_bytes_string w src dst e _ _ _ (Ka hs) he (Vh hd)]; rw [run_bytesToString w _ _ _ (b.map fun x => ((x.toNat : Nat) : Int)) M1]
 have := Zy b []
 rw [show (bs [] : ByteArray) = ByteArray.empty from rfl] at this; rw [this]
 rfl
end
def XA (s : BS) (i : Nat) : BS := (s.drop (32 * i)).take 32
def Ja1 (s : BS) : Nat := (s.length + 31) / 32
def yn (s : BS) (m : Nat) : List BS := (List.range m).map fun i => ZO (XA s i)
def YF (s : BS) : List BS := yn s (Ja1 s)
theorem Jon (s : BS) (m : Nat) : (yn s m).length = m := by unfold yn; rw [List.length_map, List.length_range]
theorem Zn (s : BS) : (YF s).length = Ja1 s := Jon _ _
theorem YH (s : BS) (i : Nat) : (XA s i).length = min 32 (s.length - 32 * i) := by unfold XA; rw [List.length_take, List.length_drop]
theorem Jkd (s : BS) (i : Nat) : W8 (yn s (i + 1)) = W8 (yn s i) ++ [Js (ZO (XA s i))] := by
 unfold yn
 rw [List.range_succ, List.map_append, List.map_cons, List.map_nil, Zm]
theorem ZI (s : BS) : ∀ x ∈ YF s, x.length = 32 := by
 intro x hx
 unfold YF yn at hx
 obtain ⟨i, _, rfl⟩ := List.mem_map.1 hx
 exact WH (by rw [YH]; omega)
theorem Joo (s : BS) (i : Nat) (sp : List Value) : ((s.map bV ++ sp).toArray.toList.drop (32 * i)).take (XA s i).length = (XA s i).map bV := by
 simp only [List.toList_toArray]; rw [YH]
 by_cases h : 32 * i ≤ s.length
 ·rw [List.drop_append_of_le_length Mg, List.take_append_of_le_length nL]
  unfold XA
  rw [List.map_take, List.map_drop]
  rcases Nat.le_total 32 (s.length - 32 * i) with h2 | h2
  ·rw [Nat.min_eq_left h2]
  ·rw [Nat.min_eq_right h2, List.take_of_length_le nL, List.take_of_length_le nL]
 ·unfold XA
  rw [show s.length - 32 * i = 0 by omega, Nat.min_zero, List.take_zero, List.drop_of_length_le m0]; rfl
def chM (rb n cap : Nat) (p : Nat × Nat) : Ji := [(p.2, .cells #[.int .i64 32] 3 (0, 0)), (p.1, .cells #[.slice (some ⟨rb, 0, none⟩) n cap] 55 (0, 0))]
theorem Jop (rb n cap : Nat) : PureE (α := Nat × Nat) Tryz.prog 236 [.slice (some ⟨rb, 0, none⟩) n cap, .int .i64 32].toArray (fun p => .func (.func 257) #[] #[VA p.1, VA p.2]) (chM rb n cap) := by
 refine Vw Tryz.func236 rfl rfl fun w => ML fun r1 r2 => ?_; refine Goc 10 [0] rfl rfl (JA rfl (fun h4 => ?_) (fun h4 => ?_))
 exact absurd h4 m6
 ·try simp only [ZZ] at h4
  refine gD ?_; exact Nl
def Jf7 (rb n j : Nat) : List Value := [.slice (some ⟨rb, 32 * j, none⟩) (min 32 (n - 32 * j)) (min 32 (n - 32 * j))]
theorem Joq {n : Nat} (hn : N = (n + 31) / 32) (hcap : n ≤ cap) (hlim : n ≤ 1000000) (p1 p2 : Nat) : xl Tryz.prog 257 [VA p1, VA p2] (chM rb n cap (p1, p2)) 0 (nxN (Jf7 rb n) N) (Jez N) := by
  refine Wr Tryz.func257 rfl rfl fun q xids w2 XI XF hY => JT (Nd ?_); refine Jw (σ := Nat) (fun i => i ≤ N) (fun i => [(0, .func (.yield q) #[] #[]), (1, VA p1), (2, VA p2), (4, .int .i64 ((32 * i : Nat) : Int))]) (fun _ => []) (fun i => XI i) (fun i => N - i) 0 (Nat.zero_le _) (lK rfl) (List.nil_sublist _) (fun _ _ h => h) ?_; intro i hi; refine gD ?_; refine gi ?_; refine NK ?_; refine Nw ?_; refine cD (fun g => ?_) fun g => ?_
  · refine kF ?_
    obtain ⟨M, hM⟩ : ∃ M, M = min 32 (n - 32 * i) := ⟨_, rfl⟩
    have hM1 : M ≤ 32 := by omega
    have hM2 : 0 < M := by omega
    refine HF ?_; refine Jb rfl rfl rfl (JO (kl := some (32 * i)) (kh := none) (km := none) (sz := 1) (m := 32 * i) (q := n) (z := cap) rfl rfl rfl ⟨_, rfl⟩ trivial trivial rfl rfl rfl m0 hcap (Nat.le_refl _) (fun _ => rfl) rfl) (Jb rfl rfl rfl (KH rfl rfl) ?_)
    refine Jb rfl rfl rfl (Jl4 (r := ((M : Nat) : Int)) rfl rfl (by rw [hM]; split <;> omega)) ?_; refine Nz ?_; refine N5 ?_; refine gi ?_; refine GS ?_; refine Jn n5 ?_; refine JM 3 rfl ?_; refine Jn n5 ?_
    refine LR rfl (JO (kl := some (32 * i)) (kh := some (32 * i + M)) (km := some (32 * i + M)) (sz := 1) (m := 32 * i) (q := 32 * i + M) (z := 32 * i + M) (off' := 32 * i) rfl rfl rfl ⟨_, rfl⟩ ⟨_, rfl⟩ ⟨_, rfl⟩ rfl rfl rfl m0 (Nat.le_refl _) m0 (fun h => by cases h) mn) ?_; refine Jn (show _ = Value.slice (some ⟨rb, 32 * i, none⟩) (min 32 (n - 32 * i)) (min 32 (n - 32 * i)) from by congr 1 <;> omega) ?_; refine W9 (XT := XI (i + 1)) (XF := XF) rfl rfl rfl rfl (hY i (Jf7 rb n i) (i + 1) ⟨by omega, rfl, rfl⟩) ?_ ?_
    all_goals (
     refine G0 ?_; refine JA rfl (fun g => ?_) (fun g => ?_)
     · try exact Bool.noConfusion g
       all_goals try simp only [ZZ] at g
       all_goals (
        exact MB
        skip)
     · try exact Bool.noConfusion g
       all_goals try simp only [ZZ] at g
       all_goals (
        refine G4 ?_; refine gh ?_
        refine WR rfl ?_; refine Jn (show _ = Value.int .i64 ((32 * (i + 1) : Nat) : Int) from by rw [wrap_i64 m0 m0]; congr 1 <;> omega) ?_; refine GU ?_; exact Na
        skip)
     skip)
  · exact gH
theorem Jyb (hl : s.length ≤ 1000000) : PureT (α := { row : Vk // rowOk 1 (Ja1 s) (W8 (YF s)) row }) Tryz.prog 172 [Js s].toArray (fun x => Jx (Ja1 s) x.1) [] (fun x => JJ 9 (W8 (YF s)) x.1) [] := by
 obtain ⟨N, hN⟩ : ∃ N, N = Ja1 s := ⟨_, rfl⟩
 have hN2 : N = (s.length + 31) / 32 := hN
 have hC : YF s = yn s N := by rw [hN]; rfl
 rw [hC, ← hN]; refine J4 Tryz.func172 rfl rfl fun w => JT (Jr 7 rfl (LN rfl fun r1 => gB ?_)); refine XO rfl rfl rfl rfl rfl rfl fun rb kb => Vp rfl rfl rfl (enters_of Tryz.func236 m5 rfl) (Jop rb s.length (s.length + kb)) fun pp => ?_
 obtain ⟨p1, p2⟩ := pp
 change HL _ _ _ [(p2, _), (p1, _), (rb, _), (r1, _)] _ _ _ _; refine Nw ?_; refine Wp [3, 0, 1, 2] (L' := [_, _, _, _]) m6 rfl ?_
 refine Xj (τ := Unit) (fun i (q : Nat × Vk) => i ≤ N ∧ i = q.1 ∧ rowOk 1 q.1 (W8 (yn s q.1)) q.2) (fun q => (r1, .cells #[Jx q.1 q.2] 109 (0, 0)) :: JJ 9 (W8 (yn s q.1)) q.2) (fun _ _ => False) (fun _ => []) [(p2, _), (p1, _), (rb, _)] (0, none) rfl rfl (enters_of Tryz.func257 m5 rfl) (Joq (rb := rb) (cap := s.length + kb) hN2 m0 hl p1 p2) mw rfl (fun q hq => .inl (by rcases List.mem_cons.1 hq with rfl | hq; exact List.mem_cons_self; rw [List.mem_singleton.1 hq]; exact List.mem_cons_of_mem _ List.mem_cons_self)) rfl ⟨Nat.zero_le _, rfl, rfl, rfl⟩ ?_ ?_ ?_
 rintro q Xr Xb w3 i _ _ ⟨i2, row⟩ ⟨hii, rfl, rfl⟩ ⟨him, he, hrow⟩ Kr hKr; refine inR ?_
 simp only at he
 obtain rfl := he
 simp only at hrow
 unfold Jf7
 refine KS 3 rfl (hKr _ _ (JT ?_)); clear hKr; refine JS 1 rfl ?_
 have hfull := Jf4 (s := XA s i) (by rw [YH]; omega)
 have hsn := Jkd s i
 obtain ⟨sv, hsv⟩ : ∃ x, x = ZO (XA s i) := ⟨_, rfl⟩
 rw [← hsv] at hfull hsn
 refine JU [] [(1, .pure), (3, .pure), (4, .grow (Wb (slV 1) (.cells #[Js sv] 9 (0, 0))))] 5 [0, 1, 2, 3, 4] m5 m5 m7 (KW (k := 0) rfl rfl rfl rfl rfl (Jd (v := Jx i row) rfl (kn 0 rfl) rfl rfl) (Jm (k := 1) rfl rfl rfl rfl rfl (fun _ hS => (Je rfl)) (KW (k := 2) rfl rfl rfl rfl rfl (Jd1 (b := XA s i) rfl (J2 (k := 2) rfl) (YH s i).symm (Joo s i _) rfl rfl rfl) (WF (k := 3) rfl rfl rfl rfl rfl Jnt hfull (VL (k := 4) (n := 1) (sz := 1) (vs := [_]) (zs := [_]) (r := [Js sv]) rfl rfl rfl rfl rfl rfl rfl rfl rfl rfl rfl mq rfl fun rv => Kz (JF (L0 := [_, _]) (xs := W8 (yn s i)) (row := row) (n := i) (sz := 1) (b := 16) (news := [Js sv]) (List.perm_append_comm (l₁ := [_, _])) rfl rfl rfl rfl (kn 0 rfl) rfl rfl rfl rfl rfl m6 rfl rfl rfl m6 hrow m0 m0 fun ra cap sp hra => Kh (k := 2) (cs' := #[Jx (i + 1) (some (ra, cap, sp))]) rfl rfl rfl rfl rfl rfl rfl rfl rfl rfl (Jy 2 rfl (QE [2, 0] (L' := [_, _]) m6 rfl ?_)))))))); exact QQ (i + 1, some (ra, cap, sp)) ⟨by omega, rfl, by simp only; rw [hsn]; exact hra⟩ (by simp only; rw [hsn]; rfl)
 rintro D i ⟨i2, row⟩ hfi ⟨him, he, hrow⟩
 simp only at he hrow
 obtain rfl : N = i := Eq.symm hfi
 obtain rfl := he
 refine gqo 4 rfl (LR rfl (Jd (v := Jx N row) rfl (kn 1 rfl) rfl rfl) (gA ?_)); refine H2 ?_; refine N2 fun w1 hs1 => ?_; exact ⟨⟨row, hrow⟩, rfl, hs1.weakL (.cons _ (.cons _ (List.sublist_append_left _ _)))⟩
 ·exact kw
theorem Jor {n : Nat} (hn : n ≤ 4611686018427387904) : Pure Tryz.prog 173 [.int .i64 (n : Int)].toArray (.int .i64 (((n + 31) / 32 : Nat) : Int)) := by
 refine J5 Tryz.func173 rfl rfl fun w => ?_; refine kd ?_; refine Jn (show _ = Value.int .i64 ((n + 32 : Nat) : Int) from by rw [wrap_i64 m0 m0]; congr 1 <;> omega) ?_
 refine WR rfl ?_; refine Jn (show _ = Value.int .i64 ((n + 31 : Nat) : Int) from by rw [wrap_i64 m0 m0]; congr 1 <;> omega) ?_; refine WR rfl (Jn (show _ = Value.int .i64 (((n + 31) / 32 : Nat) : Int) from congrArg (Value.int .i64) (QP m0 m6 m0)) (Jy 4 rfl ?_)); exact MK
def XB (x : Ty) : Bool := decide (x.k = 1) || decide (x.k = 2)
def Xi (items : List Vl) (x : Ty) : BS := (items.map fun v => Vr v x).flatten
def Xa (k n : Int) (ins : List Ty) (items : List Vl) (rs : List BS) : BS :=
 if k = 7 then Vc rs ins.length else if XB (ins.getD 0 default) = true then Vc (YF (Xi items (ins.getD 0 default))) ((n.toNat * (JV (ins.getD 0 default)).toNat + 31) / 32) else Vc rs n.toNat
mutual
def Ky : Vl → Ty → BS
 | .mk a b c d bits _ items _ pick, t =>
  if t.k = 1 ∨ t.k = 2 then leW [a, b, c, d] 32 else if t.k = 4 then Yf (Xa t.k t.n t.ins items (Kf items t.k pick t.ins 0)) items.length
  else if t.k = 5 then Vc (YF (VC bits)) ((t.n.toNat + 255) / 256) else if t.k = 6 then Yf (Vc (YF (VC bits)) ((t.n.toNat + 255) / 256)) bits.length
  else if t.k = 8 then Yf ((Kf items t.k pick t.ins 0).headD []) pick.toNat else Xa t.k t.n t.ins items (Kf items t.k pick t.ins 0)
def Kf : List Vl → Int → Int → List Ty → Nat → List BS
 | [], _, _, _, _ => []
 | x :: xs, k, pick, ins, i => Ky x (JE k pick ins i) :: Kf xs k pick ins (i + 1)
end
section
variable {a b c d : Nat} {bits : List Bool} {pb : Pl} {items : List Vl} {pi : Pl} {pick k n : Int} {p : Pl} {ins : List Ty}
theorem WO : Ky (.mk a b c d bits pb items pi pick) (.mk k n p ins) = if k = 1 ∨ k = 2 then leW [a, b, c, d] 32 else if k = 4 then Yf (Xa k n ins items (Kf items k pick ins 0)) items.length
  else if k = 5 then Vc (YF (VC bits)) ((n.toNat + 255) / 256) else if k = 6 then Yf (Vc (YF (VC bits)) ((n.toNat + 255) / 256)) bits.length
  else if k = 8 then Yf ((Kf items k pick ins 0).headD []) pick.toNat else Xa k n ins items (Kf items k pick ins 0) := by rw [Ky]; rfl
end
theorem Wy : ∀ (l : List Vl) (k pick : Int) (ins : List Ty) (i : Nat), (Kf l k pick ins i).length = l.length
 | [], _, _, _, _ => by rw [Kf]; rfl
 | x :: xs, k, pick, ins, i => by rw [Kf, List.length_cons, Wy xs, List.length_cons]
theorem yo {k : Int} (h8 : k ≠ 8) (pick : Int) (ins : List Ty) : ∀ (l : List Vl) (i : Nat), Kf l k pick ins i = Kf l k 0 ins i
 | [], i => by rw [Kf, Kf]
 | x :: xs, i => by rw [Kf, Kf, yo h8 pick ins xs (i + 1), vT h8]
theorem Yv : ∀ {l : List Vl} {k pick : Int} {ins : List Ty} {i : Nat} {s : BS}, s ∈ Kf l k pick ins i → ∃ j x, l[j]? = some x ∧ s = Ky x (JE k pick ins (i + j))
 | [], _, _, _, _, _, h => by rw [Kf] at h; cases h
 | y :: ys, k, pick, ins, i, s, h => by
  rw [Kf] at h
  rcases List.mem_cons.1 h with rfl | h
  ·exact ⟨0, y, rfl, rfl⟩
  ·obtain ⟨j, x, h1, h2⟩ := Yv h
   exact ⟨j + 1, x, h1, by rw [h2, show i + 1 + j = i + (j + 1) by omega]⟩
theorem yp (k : Int) (ins : List Ty) : ∀ {l : List Vl} {i j : Nat} {x : Vl}, l[j]? = some x → (Kf l k 0 ins i).take (j + 1) = (Kf l k 0 ins i).take j ++ [Ky x (JE k 0 ins (i + j))]
 | [], _, _, _, h => by simp at h
 | y :: ys, i, 0, x, h => by
  simp at h; subst h; rw [Kf]; rfl
 | y :: ys, i, j + 1, x, h => by
  rw [List.getElem?_cons_succ] at h; rw [Kf, List.take_succ_cons, List.take_succ_cons, yp k ins h, show i + 1 + j = i + (j + 1) by omega]; rfl
theorem Js3 {k n : Int} {p : Pl} {ins : List Ty} {d : Int} (hk : 1 ≤ k ∧ k ≤ 8) (ho : Kk k n ins.length = true) : V7 (.mk k n p ins) d = if 6 ≤ d then 7 else Yc ins (d + 1) := by
 rw [V7, if_neg m0, if_neg (by rw [ho]; simp)]
theorem zM : ∀ {ins : List Ty} {d : Int}, (∀ x ∈ ins, V7 x d = 0) → Yc ins d = 0
 | [], _, _ => by rw [Yc]
 | x :: xs, d, h => by
  rw [Yc, if_pos (h x List.mem_cons_self)]; exact zM fun y hy => h y (List.mem_cons_of_mem _ hy)
theorem Jke (t : Ty) : ∀ d : Int, V7 t (d + 1) = 0 → V7 t d = 0 := by
 induction t using Ty.ind with
 | h k n p ins ih =>
  intro d h
  obtain ⟨hk, ho, h6, hi⟩ := QT h
  rw [Js3 hk ho, if_neg m0]; exact zM fun x hx => ih x hx (d + 1) (hi x hx)
theorem yq {t : Ty} : ∀ {d : Nat}, V7 t (d : Int) = 0 → V7 t 0 = 0
 | 0, h => h
 | d + 1, h => yq (d := d) (Jke t d (by rw [Int.natCast_add] at h; exact h))
theorem XY {k n : Int} {p : Pl} {ins : List Ty} (h : V7 (.mk k n p ins) 0 = 0) : ∀ x ∈ ins, V7 x 0 = 0 := fun x hx => yq (d := 1) ((QT h).2.2.2 x hx)
theorem ZJ (hc : V7 x 0 = 0) (hp : XB x = true) : JC x = true ∧ 1 ≤ JV x ∧ JV x ≤ 32 ∧ ∀ v : Vl, Ko v x = 0 → ((Vr v x).length : Int) = JV x := by
 obtain ⟨k, n, p, ins⟩ := x
 obtain ⟨hk, hf, _, _⟩ := QT hc
 have hk2 : k = 1 ∨ k = 2 := by
  unfold XB at hp
  rw [Bool.or_eq_true] at hp; exact hp.imp of_decide_eq_true of_decide_eq_true
 unfold Kk at hf
 have hins : ins.length = 0 := by
  rcases hk2 with rfl | rfl
  all_goals generalize ins.length = m at hf ⊢
  all_goals simp at hf
  all_goals omega
 have hi : ins = [] := List.length_eq_zero_iff.1 hins
 subst hi
 rcases hk2 with rfl | rfl
 ·have hn : 1 ≤ n ∧ n ≤ 32 := by simp at hf; omega
  refine ⟨Xm.2 ⟨hc, by rw [WD, ZS]; rfl⟩, by rw [JV, if_pos rfl]; exact hn.1, by rw [JV, if_pos rfl]; exact hn.2, fun v _ => ?_⟩
  obtain ⟨a, b, c, d, bits, pb, items, pi, pick⟩ := v
  rw [QR, if_pos rfl, JV, if_pos rfl, xM _ m0]; omega
 ·refine ⟨Xm.2 ⟨hc, by rw [WD, ZS]; rfl⟩, by rw [JV, if_neg m6, if_pos rfl]; decide, by rw [JV, if_neg m6, if_pos rfl]; decide, fun v _ => ?_⟩
  obtain ⟨a, b, c, d, bits, pb, items, pi, pick⟩ := v
  rw [QR, if_neg m6, if_pos rfl, JV, if_neg m6, if_pos rfl, xM _ m6]
  rfl
theorem jT {x : Ty} {z : Nat} : ∀ {items : List Vl}, (∀ v ∈ items, (Vr v x).length = z) → (Xi items x).length = items.length * z
 | [], _ => by unfold Xi; simp
 | v :: l, h => by
  have ih := jT (items := l) fun y hy => h y (List.mem_cons_of_mem _ hy)
  unfold Xi at ih ⊢
  rw [List.map_cons, List.flatten_cons, List.length_append, ih, h v List.mem_cons_self, List.length_cons, Nat.succ_mul, Nat.add_comm]
theorem yr {a : Nat} {bits : List Bool} {items : List Vl} {pick k n : Int} {p : Pl} {ins : List Ty} (hc : V7 (.mk k n p ins) dp = 0) (h : Ko (.mk a b c d bits pb items pi pick) (.mk k n p ins) = 0) :
  (k = 3 ∨ k = 4 → 1 ≤ n ∧ n ≤ 512 ∧ (items.length : Int) ≤ n ∧ ins.length = 1) ∧ (k = 5 ∨ k = 6 → 1 ≤ n ∧ n ≤ 512 ∧ (bits.length : Int) ≤ n) ∧ (k = 7 → items.length = ins.length ∧ 1 ≤ ins.length ∧ ins.length ≤ 16) := by
 obtain ⟨h1, h2, _⟩ := Xn h
 obtain ⟨hk, hf, _, _⟩ := QT hc
 rw [Qq k n ins.length a b c d bits pb items pi pick _ rfl] at h2; simp only [Qg] at h2
 unfold Kk at hf
 have h9 : k = 1 ∨ k = 2 ∨ k = 3 ∨ k = 4 ∨ k = 5 ∨ k = 6 ∨ k = 7 ∨ k = 8 := by omega
 rcases h9 with rfl | rfl | rfl | rfl | rfl | rfl | rfl | rfl
 all_goals generalize items.length = I at *
 all_goals generalize bits.length = J at *
 all_goals generalize ins.length = K at *
 all_goals simp at h1 h2 hf ⊢
 all_goals omega
theorem q6 {bits : List Bool} {n : Int} (h : (bits.length : Int) ≤ n) : (YF (VC bits)).length ≤ (n.toNat + 255) / 256 := by
 rw [Zn]
 unfold Ja1
 rw [Xl]; omega
theorem Yw (v : Vl) : ∀ (t : Ty) (dp : Nat), V7 t (dp : Int) = 0 → Ko v t = 0 → (Ky v t).length = 32 := by
 induction v using Vl.ind with
 | h a b c d bits pb items pi pick ih =>
 intro t dp hck hfit
 obtain ⟨k, n, p, ins⟩ := t
 obtain ⟨hk8, ho, h6, hci⟩ := QT hck
 obtain ⟨hf1, hf2, hf3⟩ := Xn hfit
 obtain ⟨q1, q2, q3⟩ := yr hck hfit
 have hxl : ∀ i, i < items.length → VX k pick i < ins.length := fun i hi => q5 (v := .mk a b c d bits pb items pi pick) hck hf2 hi
 have hrs : ∀ s ∈ Kf items k pick ins 0, s.length = 32 := fun s hs => by
  obtain ⟨j, x, h1, rfl⟩ := Yv hs
  have hlt := (List.getElem?_eq_some_iff.1 h1).1
  rw [Nat.zero_add]
  have hty := Qp (hxl j hlt)
  exact ih x (List.mem_of_getElem? h1) _ (dp + 1) (hci _ hty.2) (by have := Wg hf3 h1; rwa [Nat.zero_add] at this)
 have hrl := Wy items k pick ins 0
 have hrow : k = 3 ∨ k = 4 ∨ k = 7 → (Xa k n ins items (Kf items k pick ins 0)).length = 32 := fun hk => by
  unfold Xa
  split
  ·rename_i h7
   exact VV (by have := q3 h7; omega) hrs
  ·rename_i h7
   have := q1 m0
   split
   ·rename_i hp
    have hin0 : ins.getD 0 default ∈ ins := by
     match ins, this.2.2.2 with
     | [x], _ => exact List.mem_cons_self
    have hc0 : V7 (ins.getD 0 default) 0 = 0 := XY (yq hck) _ hin0
    obtain ⟨f1, f2, f3, f4⟩ := ZJ hc0 hp
    refine VV ?_ (ZI _); rw [Zn]
    unfold Ja1
    have hz : ∀ v ∈ items, (Vr v (ins.getD 0 default)).length = (JV (ins.getD 0 default)).toNat := fun v hv => by
     obtain ⟨j, hj⟩ := List.getElem?_of_mem hv
     have hg := Wg hf3 hj
     rw [Nat.zero_add] at hg
     have he : JE k pick ins j = ins.getD 0 default := by unfold JE VX; rw [if_neg h7, if_neg m0]
     rw [he] at hg
     have := f4 v hg
     omega
    rw [jT hz]
    have hm : items.length * (JV (ins.getD 0 default)).toNat ≤ n.toNat * (JV (ins.getD 0 default)).toNat := Nat.mul_le_mul_right _ m0
    omega
   ·exact VV m0 hrs
 rw [WO]
 split
 ·exact xM _ (Nat.le_refl _)
 ·split
  ·exact ZC _
  ·split
   ·rename_i h5
    exact VV (q6 (q2 m0).2.2) (ZI _)
   ·split
    ·exact ZC _
    ·split
     ·exact ZC _
     ·exact hrow m0
def Wh (head : Nat) : List (Ty × List UInt8) → Nat → List UInt8
 | [], _ => []
 | (x, s) :: l, n => if JC x then s ++ Wh head l n else (zG (head + n) 4).1 ++ Wh head l (n + s.length)
def Zo : List (Ty × List UInt8) → List UInt8
 | [] => []
 | (x, s) :: l => if JC x then Zo l else s ++ Zo l
theorem Ja2 (head : Nat) : ∀ (l : List (Ty × List UInt8)) (f th : List UInt8), YC head l f th = (f ++ Wh head l th.length) ++ (th ++ Zo l)
 | [], f, th => by rw [YC, Wh, Zo]; simp
 | (x, s) :: l, f, th => by
  rw [YC, Wh, Zo]
  split
  ·rw [Ja2 head l]; simp
  ·rw [Ja2 head l, List.length_append]; simp
theorem Jyc {n : Nat} (h : n < 4294967296) : (zG n 4).1 = j3 n 4 := by
 unfold zG
 rw [if_neg]
 ·rfl
 ·have := (Jh4 (n := n) (k := 4) m0 m6).2 mV
  omega
theorem Jkf {n : Nat} (h : n < 4294967296) : (zG n 4).1.length = 4 := by rw [Jyc h, VN]
def Jh8 (l : List (Ty × List UInt8)) : Prop := ∀ p ∈ l, JC p.1 = true → (p.2.length : Int) = JV p.1
def Jkg : List (Ty × List UInt8) → Nat
 | [] => 0
 | p :: l => p.2.length + 4 + Jkg l
def Zp : List (Ty × List UInt8) → Nat
 | [] => 0
 | (x, s) :: l => if JC x then Zp l else s.length + Zp l
theorem yt : ∀ l : List (Ty × List UInt8), (Zo l).length = Zp l
 | [] => rfl
 | (x, s) :: l => by
  rw [Zo, Zp]
  split
  ·exact yt l
  ·rw [List.length_append, yt l]
def QB (s : List UInt8) (head : Nat) : List Ty → Nat → Nat → Bool → Option (List Nat)
  | [], _, _, op => if op = false ∧ head ≠ s.length then none else some [s.length]
  | x :: xs, at_, last, op => if JC x then QB s head xs (at_ + (JV x).toNat) last op else
      if (op = false ∧ WC ((s.drop at_).take 4) ≠ head) ∨ WC ((s.drop at_).take 4) < last ∨ s.length < WC ((s.drop at_).take 4) then none
      else (QB s head xs (at_ + 4) (WC ((s.drop at_).take 4)) true).map fun r => WC ((s.drop at_).take 4) :: r
def V6 (s : List UInt8) : List Ty → Nat → List Nat → List (List UInt8)
  | [], _, _ => []
  | x :: xs, at_, os => if JC x then (s.drop at_).take (JV x).toNat :: V6 s xs (at_ + (JV x).toNat) os else
      (s.take (os.getD 1 0)).drop (os.getD 0 0) :: V6 s xs (at_ + 4) os.tail
theorem vU : ∀ {ts : List Ty}, (∀ x ∈ ts, JC x = true → 0 ≤ JV x) → 0 ≤ Ke ts
 | [], _ => by rw [Ke]; exact Int.le_refl _
 | x :: xs, h => by
  have h1 := vU (ts := xs) fun y hy => h y (List.mem_cons_of_mem _ hy)
  rw [Ke, WN]
  split
  ·have := h x List.mem_cons_self ‹_›; omega
  ·omega
theorem vV {s : List UInt8} {head : Nat} : ∀ {ts : List Ty} {at_ last : Nat} {op : Bool} {os : List Nat}, QB s head ts at_ last op = some os → last ≤ s.length → (op = false → last = head) → ∃ o r, os = o :: r ∧ last ≤ o ∧ o ≤ s.length ∧ (op = false → o = head)
 | [], at_, last, op, os, h, hl, ho => by
  rw [QB] at h
  split at h
  ·cases h
  ·rename_i h1
   cases h
   refine ⟨s.length, [], rfl, hl, Nat.le_refl _, fun hop => ?_⟩; exact Decidable.byContradiction fun h2 => h1 ⟨hop, fun e => h2 e.symm⟩
 | x :: xs, at_, last, op, os, h, hl, ho => by
  rw [QB] at h
  split at h
  ·exact vV h hl ho
  ·split at h
   ·cases h
   ·rename_i h1
    obtain ⟨r, _, rfl⟩ := Option.map_eq_some_iff.1 h
    refine ⟨_, r, rfl, by omega, by omega, fun hop => ?_⟩; exact Decidable.byContradiction fun h2 => h1 (.inl ⟨hop, h2⟩)
theorem Ja3 {s : List UInt8} {head : Nat} (hs : s.length < 4294967296) (hh : head ≤ s.length) : ∀ {ts : List Ty} {at_ last : Nat} {op : Bool} {os : List Nat}, QB s head ts at_ last op = some os → last ≤ s.length → head ≤ last → (op = false → last = head) →
  (∀ x ∈ ts, JC x = true → 0 ≤ JV x) → (at_ : Int) + Ke ts = head →
  ∀ o r, os = o :: r → Wh head (ts.zip (V6 s ts at_ os)) (o - head) = (s.take head).drop at_ ∧ Zo (ts.zip (V6 s ts at_ os)) = s.drop o ∧ Jh8 (ts.zip (V6 s ts at_ os)) ∧ (V6 s ts at_ os).length = ts.length
 | [], at_, last, op, os, h, hl, hhl, ho, hz, hb, o, r, e => by
  rw [QB] at h
  split at h
  ·cases h
  ·cases h
   cases e
   rw [Ke] at hb
   have ha : at_ = head := by omega
   subst ha; refine ⟨?_, ?_, fun p hp => by simp [V6] at hp, rfl⟩
   ·rw [V6, List.zip_nil_right, Wh, List.drop_of_length_le (by rw [List.length_take]; omega)]
   ·rw [V6, List.zip_nil_right, Zo, List.drop_length]
 | x :: xs, at_, last, op, os, h, hl, hhl, ho, hz, hb, o, r, e => by
  have hz2 : ∀ y ∈ xs, JC y = true → 0 ≤ JV y := fun y hy => hz y (List.mem_cons_of_mem _ hy)
  rw [Ke, WN] at hb; rw [QB] at h
  by_cases hf : JC x = true
  ·rw [if_pos hf] at h hb
   have h0 := hz x List.mem_cons_self hf
   obtain ⟨i1, i2, i3, i4⟩ := Ja3 hs hh h hl hhl ho hz2 m0 o r e
   have hlen : ((s.drop at_).take (JV x).toNat).length = (JV x).toNat := by
    have hbg := vU hz2
    rw [List.length_take, List.length_drop]; omega
   rw [V6, if_pos hf, List.zip_cons_cons, Wh, Zo, if_pos hf, if_pos hf]; refine ⟨?_, i2, ?_, by rw [List.length_cons, i4, List.length_cons]⟩
   ·rw [i1]
    have hbg := vU hz2
    have e2 : (s.drop at_).take (JV x).toNat = ((s.take head).drop at_).take (JV x).toNat := by
     rw [List.drop_take, List.take_take, Nat.min_eq_left m0]
    rw [e2, ← List.drop_drop, List.take_append_drop]
   ·intro p hp
    rcases List.mem_cons.1 hp with rfl | hp
    ·intro _; simp only; rw [hlen]; omega
    ·exact i3 p hp
  ·rw [if_neg hf] at h hb
   split at h
   ·cases h
   ·rename_i h1
    obtain ⟨r2, h2, hr2⟩ := Option.map_eq_some_iff.1 h
    subst hr2
    obtain ⟨rfl, rfl⟩ := List.cons.inj e
    have hbg := vU hz2
    have h4 : ((s.drop at_).take 4).length = 4 := by rw [List.length_take, List.length_drop]; omega
    have hn : WC ((s.drop at_).take 4) ≤ s.length := by omega
    have hnl : last ≤ WC ((s.drop at_).take 4) := by omega
    have hle : j3 (WC ((s.drop at_).take 4)) 4 = (s.drop at_).take 4 := by
     have := Jgu ((s.drop at_).take 4)
     rwa [h4] at this
    generalize hq : WC ((s.drop at_).take 4) = q at *
    obtain ⟨b, r3, rfl, hb1, hb2, _⟩ := vV h2 hn (fun h => by cases h)
    obtain ⟨i1, i2, i3, i4⟩ := Ja3 hs hh h2 hn m0 (fun h => by cases h) hz2 m0 b r3 rfl
    rw [V6, if_neg hf, List.zip_cons_cons, Wh, Zo, if_neg hf, if_neg hf]; simp only [List.tail_cons]
    have hpl : ((s.take b).drop q).length = b - q := by rw [List.length_drop, List.length_take]; omega
    refine ⟨?_, ?_, ?_, by rw [List.length_cons, i4, List.length_cons]⟩
    ·show (zG (head + (q - head)) 4).1 ++ Wh head _ (q - head + ((s.take b).drop q).length) = _
     rw [hpl, show q - head + (b - q) = b - head by omega, i1, show head + (q - head) = q by omega, Jyc m0, hle]
     have e2 : (s.drop at_).take 4 = ((s.take head).drop at_).take 4 := by
      rw [List.drop_take, List.take_take, Nat.min_eq_left m0]
     rw [e2, ← List.drop_drop, List.take_append_drop]
    ·show (s.take b).drop q ++ _ = _
     rw [i2]
     have e3 : s.drop q = (s.drop q).take (b - q) ++ (s.drop q).drop (b - q) := (List.take_append_drop _ _).symm
     rw [e3, List.drop_drop, List.drop_take, show q + (b - q) = b by omega]
    ·intro p hp
     rcases List.mem_cons.1 hp with rfl | hp
     ·intro hff; exact absurd hff hf
     ·exact i3 p hp
theorem Jos (hc : V7 t 0 = 0) : JC t = WD t := by unfold JC; rw [hc]; simp
theorem jU (h : JC t = true) : 1 ≤ JV t := by
 obtain ⟨h1, h2⟩ := Xm.1 h
 exact (xH t 0 (Int.le_refl _) h1 h2).1
mutual
def WU : Vl → Vl
 | .mk a b c d bits _ items _ pick => .mk a b c d bits none (Yx items) none pick
def Yx : List Vl → List Vl
 | [] => []
 | x :: xs => WU x :: Yx xs
end
theorem Wi : ∀ l : List Vl, Yx l = l.map WU
 | [] => by rw [Yx]; rfl
 | x :: xs => by rw [Yx, Wi xs]; rfl
def v0L : Vl := .mk 0 0 0 0 [] none [] none 0
def yu (w : List Nat) : Vl := .mk (w.getD 0 0) (w.getD 1 0) (w.getD 2 0) (w.getD 3 0) [] none [] none 0
def jc (l : List Bool) : Vl := .mk 0 0 0 0 l none [] none 0
def KI (l : List Vl) (pick : Int) : Vl := .mk 0 0 0 0 [] none l none pick
def JW (k n : Int) (ins : List Ty) (s : List UInt8) : Nat × Int :=
 if k = 7 then (ins.length, 0) else if k = 3 then (n.toNat, 0) else if s = [] then (0, 0)
 else if JC (JE k 0 ins 0) then (if s.length % (JV (JE k 0 ins 0)).toNat ≠ 0 then (0, 2) else if n < ((s.length / (JV (JE k 0 ins 0)).toNat : Nat) : Int) then (0, 5) else (s.length / (JV (JE k 0 ins 0)).toNat, 0))
 else if s.length < 4 ∨ WC (s.take 4) % 4 ≠ 0 ∨ WC (s.take 4) = 0 then (0, 2) else if n < ((WC (s.take 4) / 4 : Nat) : Int) then (0, 5) else (WC (s.take 4) / 4, 0)
abbrev Gf : Type := List UInt8 → Vl × Int
def VB : List (Gf × List UInt8) → List Vl × Int
 | [] => ([], 0)
 | (f, s) :: r => if (f s).2 ≠ 0 then ([], (f s).2) else if (VB r).2 ≠ 0 then ([], (VB r).2) else ((f s).1 :: (VB r).1, 0)
def WP (s : List UInt8) : Nat → Nat
 | 0 => 0
 | i + 1 => if QX s i = true then i else WP s i
def g0 : Gf := fun _ => (v0L, 0)
def Ja4 (k n : Int) (ins : List Ty) (fs : List Gf) (s : List UInt8) : Vl × Int :=
 if (JW k n ins s).2 ≠ 0 then (v0L, (JW k n ins s).2)
 else if (s.length : Int) < Ke (Kv k ins (JW k n ins s).1) then (v0L, 2)
 else match QB s (Ke (Kv k ins (JW k n ins s).1)).toNat (Kv k ins (JW k n ins s).1) 0 (Ke (Kv k ins (JW k n ins s).1)).toNat false with
  | none => (v0L, 2)
  | some os =>
   let r := VB (((List.range (JW k n ins s).1).map fun i => fs.getD (VX k 0 i) g0).zip (V6 s (Kv k ins (JW k n ins s).1) 0 os))
   if r.2 ≠ 0 then (v0L, r.2) else (KI r.1 0, 0)
def jd (k n : Int) (p : Pl) (ins : List Ty) (fs : List Gf) (s : List UInt8) : Vl × Int :=
 if JC (.mk k n p ins) = true ∧ (s.length : Int) ≠ JV (.mk k n p ins) then (v0L, 2)
 else if k = 1 then (yu (Ye s), 0)
 else if k = 2 then (if 1 < (s.getD 0 0).toNat then (v0L, 2) else (yu (Ye s), 0))
 else if k = 5 then (if ((JG s (8 * s.length)).drop n.toNat).any id then (v0L, 8) else (jc (JG s n.toNat), 0))
 else if k = 6 then (if s.getLast? = none ∨ s.getLast? = some 0 then (v0L, 2) else if n < (WP s (8 * s.length) : Int) then (v0L, 5) else (jc (JG s (WP s (8 * s.length))), 0))
 else if k = 8 then (match s with
  | [] => (v0L, 2)
  | b :: r => if ins.length ≤ b.toNat then (v0L, 9) else if (fs.getD b.toNat g0 r).2 ≠ 0 then (v0L, (fs.getD b.toNat g0 r).2) else (KI [(fs.getD b.toNat g0 r).1] b.toNat, 0))
 else Ja4 k n ins fs s
mutual
def KJ : Ty → List UInt8 → Vl × Int
 | .mk k n p ins, s => jd k n p ins (YU ins) s
def YU : List Ty → List Gf
 | [] => []
 | x :: xs => KJ x :: YU xs
end
theorem Jd2 : ∀ l : List Ty, YU l = l.map KJ
 | [] => by rw [YU]; rfl
 | x :: xs => by rw [YU, Jd2 xs]; rfl
theorem vW {ins : List Ty} (h : ins[i]? = some x) : (YU ins).getD i g0 = KJ x := by
 rw [Jd2, List.getD_eq_getElem?_getD, List.getElem?_map, h]; rfl
section
variable {a b c d : Nat} {bits : List Bool} {pb : Pl} {items : List Vl} {pi : Pl} {pick k n : Int} {p : Pl} {ins : List Ty}
theorem Jh9 (hc : V7 (.mk k n p ins) 0 = 0) (h : Ko (.mk a b c d bits pb items pi pick) (.mk k n p ins) = 0) (h8 : k ≠ 8) {x : Vl} (hx : items[j]? = some x) : ins[VX k 0 j]? = some (JE k 0 ins j) ∧ JE k 0 ins j ∈ ins ∧ V7 (JE k 0 ins j) 0 = 0 ∧ Ko x (JE k 0 ins j) = 0 := by
 obtain ⟨_, h2, h3⟩ := Xn h
 have hlt := (List.getElem?_eq_some_iff.1 hx).1
 have hin := q5 (v := .mk a b c d bits pb items pi pick) hc h2 hlt
 have hg := Wg h3 hx
 rw [Nat.zero_add, vT h8] at hg
 have e : VX k (Vl.pick (.mk a b c d bits pb items pi pick)) j = VX k 0 j := by unfold VX; rw [if_neg h8, if_neg h8]
 rw [e] at hin
 have hty := Qp hin
 exact ⟨hty.1, hty.2, XY hc _ hty.2, hg⟩
end
theorem Qa (a b c d : Nat) (bits : List Bool) (pb : Pl) (items : List Vl) (pi : Pl) (pick : Int) : WU (.mk a b c d bits pb items pi pick) = .mk a b c d bits none (Yx items) none pick := by rw [WU]
theorem Jia (k pick : Int) (ins : List Ty) : ∀ (l : List Vl), (∀ x ∈ l, ∀ t, Vr (WU x) t = Vr x t) → ∀ i : Nat, KZ (Yx l) k pick ins i = KZ l k pick ins i
 | [], _, i => by rw [Yx]
 | x :: xs, h, i => by rw [Yx, KZ, KZ, h x List.mem_cons_self, Jia k pick ins xs (fun y hy => h y (List.mem_cons_of_mem _ hy))]
theorem Jot (v : Vl) : ∀ t, Vr (WU v) t = Vr v t := by
 induction v using Vl.ind with
 | h a b c d bits pb items pi pick ih =>
 intro t
 obtain ⟨k, n, p, ins⟩ := t
 rw [Qa, QR, QR, Jia k pick ins items ih]
theorem Jd3 (k pick : Int) (ins : List Ty) : ∀ (l : List Vl), (∀ x ∈ l, ∀ t, Ky (WU x) t = Ky x t) → ∀ i : Nat, Kf (Yx l) k pick ins i = Kf l k pick ins i
 | [], _, i => by rw [Yx]
 | x :: xs, h, i => by rw [Yx, Kf, Kf, h x List.mem_cons_self, Jd3 k pick ins xs (fun y hy => h y (List.mem_cons_of_mem _ hy))]
theorem Js4 (x : Ty) (l : List Vl) : Xi (Yx l) x = Xi l x := by
 unfold Xi
 rw [Wi, List.map_map]
 congr 1
 exact List.map_congr_left fun v _ => Jot v x
theorem Js5 (v : Vl) : ∀ t, Ky (WU v) t = Ky v t := by
 induction v using Vl.ind with
 | h a b c d bits pb items pi pick ih =>
 intro t
 obtain ⟨k, n, p, ins⟩ := t
 have hl : (Yx items).length = items.length := by rw [Wi, List.length_map]
 rw [Qa, WO, WO, Jd3 k pick ins items ih, hl]
 unfold Xa
 rw [Js4]
theorem Jd4 : ∀ {l : List (Gf × List UInt8)} {vs : List Vl}, VB l = (vs, 0) → vs.length = l.length ∧ ∀ (i : Nat) f s v, l[i]? = some (f, s) → vs[i]? = some v → f s = (v, 0)
 | [], vs, h => by
  rw [VB] at h
  obtain rfl := (Prod.mk.inj h).1
  exact ⟨rfl, fun i f s v h1 => by simp at h1⟩
 | (f, s) :: l, vs, h => by
  rw [VB] at h
  by_cases h1 : (f s).2 ≠ 0
  ·rw [if_pos h1] at h; exact absurd (Prod.mk.inj h).2 h1
  rw [if_neg h1] at h
  by_cases h2 : (VB l).2 ≠ 0
  ·rw [if_pos h2] at h; exact absurd (Prod.mk.inj h).2 h2
  rw [if_neg h2] at h
  have h3 := (Prod.mk.inj h).1
  subst h3
  have h4 : VB l = ((VB l).1, 0) := by rw [← Decidable.not_not.1 h2]
  obtain ⟨i1, i2⟩ := Jd4 h4
  refine ⟨by rw [List.length_cons, List.length_cons, i1], fun i f' s' v' hl hv => ?_⟩
  cases i with
  | zero =>
   cases hl; cases hv
   rw [← Decidable.not_not.1 h1]
  | succ i => exact i2 i f' s' v' hl hv
theorem zN : ∀ {l : List Vl} {k pick : Int} {ins : List Ty} {i : Nat}, (∀ (j : Nat) x, l[j]? = some x → Ko x (JE k pick ins (i + j)) = 0) → Qr l k pick ins i = 0
 | [], _, _, _, _, _ => by rw [Qr]
 | x :: xs, k, pick, ins, i, h => by
  have h0 := h 0 x rfl
  rw [Nat.add_zero] at h0; rw [Qr, if_pos h0]; exact zN fun j y hy => by rw [show i + 1 + j = i + (j + 1) by omega]; exact h (j + 1) y M9
theorem Jou : ∀ {l : List Vl}, (∀ x ∈ l, WU x = x) → Yx l = l
 | [], _ => by rw [Yx]
 | x :: xs, h => by rw [Yx, h x List.mem_cons_self, Jou fun y hy => h y (List.mem_cons_of_mem _ hy)]
theorem Jd5 {k : Int} {ins : List Ty} : ∀ {vs : List Vl} {ps : List (List UInt8)} {i : Nat}, vs.length = ps.length → (∀ (j : Nat) x s, vs[j]? = some x → ps[j]? = some s → Vr x (JE k 0 ins (i + j)) = s) → KZ vs k 0 ins i = ((List.range' i vs.length).map fun j => JE k 0 ins j).zip ps
 | [], _, _, _, _ => by rw [KZ]; rfl
 | x :: xs, [], _, h, _ => by simp at h
 | x :: xs, s :: ps, i, h, hg => by
  have h0 := hg 0 x s rfl rfl
  rw [Nat.add_zero] at h0
  rw [KZ, h0, List.length_cons, List.range'_succ, List.map_cons, List.zip_cons_cons, Jd5 (vs := xs) (ps := ps) (i := i + 1) mV fun j y t hy ht => by
   rw [show i + 1 + j = i + (j + 1) by omega]; exact hg (j + 1) y t M9 Mr]
theorem Jwi (k : Int) (ins : List Ty) (m : Nat) : ((List.range' 0 m).map fun j => JE k 0 ins j) = Kv k ins m := by
 unfold Kv; rw [List.range_eq_range']
theorem Jib : ∀ {l : List (Ty × List UInt8)}, Jh8 l → (Jkg l : Int) ≤ Ke (l.map Prod.fst) + Zp l + 4 * l.length
 | [], _ => by rw [Jkg, Zp, List.map_nil, Ke]; simp
 | (x, s) :: l, h => by
  have h1 := Jib (l := l) fun p hp => h p (List.mem_cons_of_mem _ hp)
  have h2 := h _ List.mem_cons_self
  simp only at h2; rw [Jkg, Zp, List.map_cons, Ke, WN, List.length_cons]
  simp only
  split
  ·rename_i h3
   have := h2 h3
   omega
  ·omega
theorem Jov {A H : Nat} : ∀ {l : List (Ty × List UInt8)} {vs : List Vl} {n : Nat}, vs.length = l.length → Jh8 l → (∀ p ∈ l, JC p.1 = true → 1 ≤ JV p.1) → (∀ (j : Nat) p v, l[j]? = some p → vs[j]? = some v → wV v ≤ A * p.2.length + 1) → H + n + Jkg l < 4294967296 → wL vs ≤ (A + 1) * ((Wh H l n).length + Zp l)
 | [], [], _, _, _, _, _, _ => by rw [wL]; exact Nat.zero_le _
 | [], _ :: _, _, h, _, _, _, _ => by simp at h
 | _ :: _, [], _, h, _, _, _, _ => by simp at h
 | (x, s) :: l, v :: vs, n, h, hs, hz, hg, hb => by
  rw [Jkg] at hb; simp only at hb
  have g0 := hg 0 (x, s) v rfl rfl
  simp only at g0
  have hs2 : Jh8 l := fun p hp => hs p (List.mem_cons_of_mem _ hp)
  have hz2 : ∀ p ∈ l, JC p.1 = true → 1 ≤ JV p.1 := fun p hp => hz p (List.mem_cons_of_mem _ hp)
  have hg2 : ∀ (j : Nat) p u, l[j]? = some p → vs[j]? = some u → wV u ≤ A * p.2.length + 1 := fun j p u hp hu => hg (j + 1) p u (by simpa using hp) (by simpa using hu)
  rw [wL, Wh, Zp]
  by_cases hf : JC x = true
  ·have ih := Jov (A := A) (H := H) (l := l) (vs := vs) (n := n) mV hs2 hz2 hg2 m0
   have h1 := hs _ List.mem_cons_self hf
   have h2 := hz _ List.mem_cons_self hf
   simp only at h1 h2; rw [if_pos hf, if_pos hf, List.length_append, Nat.add_assoc, Nat.mul_add]
   have h3 : 1 ≤ s.length := by omega
   rw [Nat.add_mul, Nat.one_mul]; omega
  ·have ih := Jov (A := A) (H := H) (l := l) (vs := vs) (n := n + s.length) mV hs2 hz2 hg2 m0
   rw [if_neg hf, if_neg hf, List.length_append, Jkf m0]
   have e : 4 + (Wh H l (n + s.length)).length + (s.length + Zp l) = ((Wh H l (n + s.length)).length + Zp l) + (s.length + 4) := by omega
   rw [e, Nat.mul_add, Nat.mul_add (A + 1) s.length 4, Nat.add_mul A 1 s.length, Nat.one_mul]; omega
theorem zO {s : List UInt8} : ∀ {N i : Nat}, i < N → QX s i = true → WP s N < N ∧ i ≤ WP s N ∧ QX s (WP s N) = true ∧ ∀ j, WP s N < j → j < N → QX s j = false
 | 0, _, h, _ => by omega
 | N + 1, i, h, hb => by
  rw [WP]
  by_cases e : QX s N = true
  ·rw [if_pos e]
   exact ⟨Nat.lt_succ_self _, by omega, e, fun j h1 h2 => by omega⟩
  ·rw [if_neg e]
   have hi : i ≠ N := fun h => e (h ▸ hb)
   obtain ⟨h1, h2, h3, h4⟩ := zO (N := N) (i := i) m0 hb
   refine ⟨by omega, h2, h3, fun j h5 h6 => ?_⟩
   by_cases hj : j = N
   ·subst hj; simpa using e
   ·exact h4 j h5 m0
theorem Jic {s : List UInt8} (hx : ¬ (s.getLast? = none ∨ s.getLast? = some 0)) : s.length = (WP s (8 * s.length) + 8) / 8 ∧ QX s (WP s (8 * s.length)) = true ∧ ∀ i, WP s (8 * s.length) < i → i < 8 * s.length → QX s i = false := by
 have hne : s ≠ [] := fun e => hx (.inl (by rw [e]; rfl))
 have hpos : 0 < s.length := List.length_pos_iff.2 hne
 obtain ⟨x, hl⟩ : ∃ x, s.getLast? = some x := by
  cases h : s.getLast? with
  | none => exact absurd (.inl h) hx
  | some x => exact ⟨x, rfl⟩
 have h0 : x ≠ 0 := fun e => hx (.inr (by rw [hl, e]))
 have hg : s.getD (s.length - 1) 0 = x := by
  rw [List.getLast?_eq_getElem?] at hl; rw [List.getD_eq_getElem?_getD, hl]; rfl
 have hj : ∃ j, j < 8 ∧ x.toNat.testBit j = true := by
  refine Decidable.byContradiction fun hn => h0 (Jgz fun j hj => ?_)
  have : ¬ x.toNat.testBit j = true := fun h => hn ⟨j, hj, h⟩
  rw [Bool.not_eq_true] at this; rw [this]; simp
 obtain ⟨j, hj, hb⟩ := hj
 have hbit : QX s (8 * (s.length - 1) + j) = true := by
  unfold QX
  rw [show (8 * (s.length - 1) + j) / 8 = s.length - 1 by omega, show (8 * (s.length - 1) + j) % 8 = j by omega, hg]; exact hb
 obtain ⟨h1, h2, h3, h4⟩ := zO (N := 8 * s.length) m0 hbit
 exact ⟨by omega, h3, h4⟩
theorem q7 {s : List UInt8} : ∀ {ts : List Ty} {at_ : Nat} {os : List Nat} {q : List UInt8}, q ∈ V6 s ts at_ os → q.length ≤ s.length
 | [], _, _, _, h => by rw [V6] at h; cases h
 | x :: xs, at_, os, q, h => by
  rw [V6] at h
  split at h
  ·rcases List.mem_cons.1 h with rfl | h
   ·rw [List.length_take, List.length_drop]; omega
   ·exact q7 h
  ·rcases List.mem_cons.1 h with rfl | h
   ·rw [List.length_drop, List.length_take]; omega
   ·exact q7 h
theorem chkL_mem : ∀ {ins : List Ty} {d : Int}, Yc ins d = 0 → ∀ x ∈ ins, V7 x d = 0
 | [], _, _, x, hx => by cases hx
 | y :: ys, d, h, x, hx => by
  rw [Yc] at h
  by_cases h1 : V7 y d = 0
  ·rw [if_pos h1] at h
   rcases List.mem_cons.1 hx with rfl | hx
   ·exact h1
   ·exact chkL_mem h x hx
  ·rw [if_neg h1] at h; exact absurd h h1
theorem vX {k n : Int} {ins : List Ty} {s : List UInt8} (hk : 1 ≤ k ∧ k ≤ 8) (ho : Kk k n ins.length = true) (h3 : k = 3 ∨ k = 4 ∨ k = 7) (h : (JW k n ins s).2 = 0) :
  (JW k n ins s).1 ≤ 512 ∧ (k = 3 → ((JW k n ins s).1 : Int) = n) ∧ (k = 7 → (JW k n ins s).1 = ins.length) ∧ (k = 4 → ((JW k n ins s).1 : Int) ≤ n) := by
 unfold Kk at ho
 unfold JW at h ⊢
 rcases h3 with rfl | rfl | rfl
 ·exact HU
 ·simp only [show ¬ ((4 : Int) = 7) by decide, show ¬ ((4 : Int) = 3) by decide, if_false] at h ⊢
  simp at ho
  split at h
  ·rename_i h1; rw [if_pos h1]; simp; omega
  ·rename_i h1
   rw [if_neg h1]
   split at h
   ·rename_i h2
    rw [if_pos h2]
    split at h
    ·simp at h
    ·rename_i h4
     rw [if_neg h4]
     split at h
     ·simp at h
     ·rename_i h5
      rw [if_neg h5]
      simp only
      refine ⟨?_, fun e => absurd e m6, fun e => absurd e m6, fun _ => ?_⟩
      ·revert h5; generalize s.length / (JV (JE 4 0 ins 0)).toNat = q; intro h5; omega
      ·revert h5; generalize s.length / (JV (JE 4 0 ins 0)).toNat = q; intro h5; omega
   ·rename_i h2
    rw [if_neg h2]
    split at h
    ·simp at h
    ·rename_i h4
     rw [if_neg h4]
     split at h
     ·simp at h
     ·rename_i h5
      rw [if_neg h5]
      simp only
      refine ⟨?_, fun e => absurd e m6, fun e => absurd e m6, fun _ => ?_⟩
      ·revert h5; generalize WC (s.take 4) / 4 = q; intro h5; omega
      ·revert h5; generalize WC (s.take 4) / 4 = q; intro h5; omega
 ·exact HU
theorem yv {k n : Int} {ins : List Ty} {s : List UInt8} (hk : 1 ≤ k ∧ k ≤ 8) (ho : Kk k n ins.length = true) (h3 : k = 3 ∨ k = 4 ∨ k = 7) (h : (JW k n ins s).2 = 0) : ∀ i, i < (JW k n ins s).1 → VX k 0 i < ins.length := by
 intro i hi
 obtain ⟨_, _, h7, _⟩ := vX hk ho h3 h
 unfold Kk at ho
 unfold VX
 rcases h3 with rfl | rfl | rfl
 ·exact HU
 ·exact HU
 ·have := h7 rfl
  simp; omega
theorem Js6 (t : Ty) : ∀ (d : Nat), V7 t (d : Int) = 0 → ∀ (s : List UInt8) (v : Vl), s.length ≤ 100000 → KJ t s = (v, 0) → Ko v t = 0 ∧ Vr v t = s ∧ WU v = v ∧ wV v ≤ (7 - d) * s.length + 1 := by
 induction t using Ty.ind with
 | h k n p ins ih =>
 intro d hcd s v hlen hget
 have hc : V7 (.mk k n p ins) 0 = 0 := yq hcd
 obtain ⟨hk8, ho, hd6, hsubd⟩ := QT hcd
 have hsub := XY hc
 rw [KJ] at hget
 unfold jd at hget
 by_cases hfx : JC (.mk k n p ins) = true ∧ (s.length : Int) ≠ JV (.mk k n p ins)
 ·rw [if_pos hfx] at hget; simp at hget
 rw [if_neg hfx] at hget
 have hsz : JC (.mk k n p ins) = true → (s.length : Int) = JV (.mk k n p ins) := fun h => Decidable.byContradiction fun h2 => hfx ⟨h, h2⟩
 have hplain : k = 1 ∨ k = 2 ∨ k = 5 → (s.length : Int) = JV (.mk k n p ins) := fun h => hsz (by
  rw [Jos hc, WD]
  unfold Kk at ho
  have hi : ins = [] := by
   rcases h with rfl | rfl | rfl <;> simp at ho <;> first | exact ho.1 | exact ho.1.1
  subst hi; rw [ZS]
  rcases h with rfl | rfl | rfl <;> rfl)
 rw [JV] at hplain
 by_cases h1 : k = 1
 ·subst h1
  rw [if_pos rfl] at hget
  obtain rfl := (Prod.mk.inj hget).1
  have hs1 := hplain (.inl rfl)
  rw [if_pos rfl] at hs1
  unfold Kk at ho
  simp at ho
  have hn : s.length ≤ 32 := by omega
  obtain ⟨a, b, c, e, hnum⟩ : ∃ a b c e, Ye s = [a, b, c, e] := by
   have := (xN s).1
   match hq : Ye s, this with
   | [a, b, c, e], _ => exact ⟨a, b, c, e, rfl⟩
  have hle := Jvn hn
  rw [hnum] at hle
  unfold yu
  rw [hnum]; simp only [List.getD_cons_zero, List.getD_cons_succ]; refine ⟨?_, ?_, ?_, ?_⟩
  ·refine (Wx m0 ?_).trans (by rw [Qr])
   rw [Qq 1 n ins.length a b c e [] none [] none 0 _ rfl, if_pos rfl, Qg]
   have hb : (Ww [a, b, c, e]).length ≤ s.length := by
    have hz := fun t h3 h4 => Jmd hn (t := t) h3 h4
    rw [hnum] at hz; exact (jN _ 32 _).2 hz
   simp; omega
  ·rw [QR, if_pos rfl, show n.toNat = s.length by omega, hle]
  ·rw [Qa, Yx]
  ·rw [wV, wL]; simp
 by_cases h2 : k = 2
 ·subst h2
  rw [if_neg h1, if_pos rfl] at hget
  have hs1 := hplain (.inr (.inl rfl))
  rw [if_neg h1, if_pos rfl] at hs1
  match s, hs1 with
  | [x], _ =>
  by_cases hx : 1 < x.toNat
  ·rw [if_pos Mp] at hget; simp at hget
  rw [if_neg Mp] at hget
  obtain rfl := (Prod.mk.inj hget).1
  have hx2 : x = 0 ∨ x = 1 := by
   have : x.toNat = 0 ∨ x.toNat = 1 := by omega
   rcases this with h | h
   ·exact .inl (by rw [← UInt8.toNat_inj]; exact h)
   ·exact .inr (by rw [← UInt8.toNat_inj]; exact h)
  have hi : ins = [] := by unfold Kk at ho; simp at ho; exact ho.1
  subst hi
  rcases hx2 with rfl | rfl
  ·have e : yu (Ye [0]) = .mk 0 0 0 0 [] none [] none 0 := by rw [show Ye [0] = [0, 0, 0, 0] by decide +kernel]; rfl
   rw [e]; refine ⟨(Wx m0 (by rw [Qq 2 n _ 0 0 0 0 [] none [] none 0 _ rfl]; rfl)).trans (by rw [Qr]), by rw [QR, if_neg m6, if_pos rfl]; decide +kernel, by rw [Qa, Yx], by rw [wV, wL]; simp⟩
  ·have e : yu (Ye [1]) = .mk 1 0 0 0 [] none [] none 0 := by rw [show Ye [1] = [1, 0, 0, 0] by decide +kernel]; rfl
   rw [e]; refine ⟨(Wx m0 (by rw [Qq 2 n _ 1 0 0 0 [] none [] none 0 _ rfl]; rfl)).trans (by rw [Qr]), by rw [QR, if_neg m6, if_pos rfl]; decide +kernel, by rw [Qa, Yx], by rw [wV, wL]; simp⟩
 rw [if_neg h1, if_neg h2] at hget; rw [if_neg h1, if_neg h2] at hplain
 by_cases h5 : k = 5
 ·subst h5
  rw [if_pos rfl] at hget
  have hs1 := hplain (.inr (.inr rfl))
  rw [if_pos rfl] at hs1
  by_cases hx : ((JG s (8 * s.length)).drop n.toNat).any id = true
  ·rw [if_pos hx] at hget; simp at hget
  rw [if_neg hx] at hget
  obtain rfl := (Prod.mk.inj hget).1
  unfold Kk at ho
  simp at ho
  have hl : s.length = (n.toNat + 7) / 8 := by omega
  have hz : ∀ i, n.toNat ≤ i → i < 8 * s.length → QX s i = false := fun i h3 h4 => by
   rw [Bool.not_eq_true, List.any_eq_false] at hx
   have := hx (QX s i) (List.mem_iff_getElem?.2 ⟨i - n.toNat, by rw [List.getElem?_drop, show n.toNat + (i - n.toNat) = i by omega, QZ s h4]⟩)
   simpa using this
  unfold jc
  refine ⟨(Wx m0 ?_).trans (by rw [Qr]), ?_, by rw [Qa, Yx], ?_⟩
  ·rw [Qq 5 n _ 0 0 0 0 _ none [] none 0 _ rfl, if_neg h1, if_neg h2, if_neg m6, if_neg m6, if_pos rfl, Qg, Km]
   simp; omega
  ·rw [QR, if_neg h1, if_neg h2, if_pos rfl, qQ hl hz]
  ·exact HK
 rw [if_neg h5] at hget
 by_cases h6 : k = 6
 ·subst h6
  rw [if_pos rfl] at hget
  by_cases hx : s.getLast? = none ∨ s.getLast? = some 0
  ·rw [if_pos hx] at hget; simp at hget
  rw [if_neg hx] at hget
  by_cases hn : n < (WP s (8 * s.length) : Int)
  ·rw [if_pos hn] at hget; simp at hget
  rw [if_neg hn] at hget
  obtain rfl := (Prod.mk.inj hget).1
  obtain ⟨L, hL⟩ : ∃ L, L = WP s (8 * s.length) := ⟨_, rfl⟩
  obtain ⟨q1, q2, q3⟩ := Jic hx
  rw [← hL] at hn q1 q2 q3 ⊢
  unfold jc
  refine ⟨(Wx Ms ?_).trans (by rw [Qr]), ?_, by rw [Qa, Yx], ?_⟩
  ·rw [Qq 6 n _ 0 0 0 0 _ none [] none 0 _ rfl]; rfl
  ·rw [QR, if_neg h1, if_neg h2, if_neg h5, if_pos rfl]
   have e : JG s L ++ [true] = JG s (L + 1) := by
    apply List.ext_getElem?
    intro i
    by_cases hi : i < L
    ·rw [List.getElem?_append_left (by rw [Km]; exact hi), QZ s hi, QZ s m0]
    ·by_cases hi2 : i = L
     ·subst hi2
      rw [List.getElem?_append_right (by rw [Km]; exact Nat.le_refl _), Km, Nat.sub_self, QZ s (Nat.lt_succ_self _), q2]; rfl
     ·rw [List.getElem?_eq_none (by rw [List.length_append, Km]; simp; omega), List.getElem?_eq_none Ms]
   rw [e]; exact qQ m0 fun i h3 h4 => q3 i m0 h4
  ·exact HK
 rw [if_neg h6] at hget
 by_cases h8 : k = 8
 ·subst h8
  rw [if_pos rfl] at hget
  cases s with
  | nil => simp at hget
  | cons b r =>
  simp only at hget
  by_cases hb : ins.length ≤ b.toNat
  ·rw [if_pos hb] at hget; simp at hget
  rw [if_neg hb] at hget
  by_cases hg : ((YU ins).getD b.toNat g0 r).2 ≠ 0
  ·rw [if_pos hg] at hget; exact absurd (Prod.mk.inj hget).2 hg
  rw [if_neg hg] at hget
  obtain rfl := (Prod.mk.inj hget).1
  obtain ⟨x, hx⟩ : ∃ x, ins[b.toNat]? = some x := ⟨_, List.getElem?_eq_getElem m0⟩
  have hxm := List.mem_of_getElem? hx
  rw [vW hx] at hg ⊢
  obtain ⟨y, hy⟩ : ∃ y, y = (KJ x r).1 := ⟨_, rfl⟩
  have hgx : KJ x r = (y, 0) := by rw [hy, ← Decidable.not_not.1 hg]
  rw [← hy]
  obtain ⟨i1, i2, i3, i4⟩ := ih x hxm (d + 1) (by have := hsubd x hxm; simpa using this) r y (by simp at hlen; omega) hgx
  have hin : JE 8 (b.toNat : Int) ins 0 = x := by
   unfold JE VX
   rw [if_neg m6, if_pos rfl, Int.toNat_natCast, List.getD_eq_getElem?_getD, hx]; rfl
  unfold Kk at ho
  simp at ho
  unfold KI
  refine ⟨(Wx m0 ?_).trans ?_, ?_, ?_, ?_⟩
  ·rw [Qq 8 n _ 0 0 0 0 [] none [y] none b.toNat _ rfl, if_neg h1, if_neg h2, if_neg m6, if_neg m6, if_neg h5, if_neg h6, if_neg m6, Qg]
   simp; omega
  ·rw [Qr, hin, if_pos i1, Qr]
  ·rw [QR, if_neg h1, if_neg h2, if_neg h5, if_neg h6, if_pos rfl, KZ, hin, i2]
   simp only [List.headD_cons, Int.toNat_natCast]; rw [show UInt8.ofNat b.toNat = b from by rw [← UInt8.toNat_inj, UInt8.toNat_ofNat']; exact Nat.mod_eq_of_lt (UInt8.toNat_lt b)]
  ·rw [Qa, Yx, Yx, i3]
  ·rw [wV, wL, wL, List.length_cons]
   have e : (7 - d) * (r.length + 1) = (7 - (d + 1)) * r.length + r.length + (7 - d) := by
    rw [Nat.mul_add, Nat.mul_one]
    congr 1
    have : 7 - d = (7 - (d + 1)) + 1 := by omega
    rw [this, Nat.add_mul, Nat.one_mul]
   simp only [List.length_nil, Nat.zero_div]; omega
 rw [if_neg h8] at hget
 have h3 : k = 3 ∨ k = 4 ∨ k = 7 := by omega
 unfold Ja4 at hget
 by_cases hm : (JW k n ins s).2 ≠ 0
 ·rw [if_pos hm] at hget; exact absurd (Prod.mk.inj hget).2 hm
 rw [if_neg hm] at hget
 have hm0 := Decidable.not_not.1 hm
 obtain ⟨m1, m2, m3, m4⟩ := vX hk8 ho h3 hm0
 have hX := yv hk8 ho h3 hm0
 generalize hM : (JW k n ins s).1 = M at *
 by_cases hbg : (s.length : Int) < Ke (Kv k ins M)
 ·rw [if_pos hbg] at hget; simp at hget
 rw [if_neg hbg] at hget
 have hbl := jS (Kv k ins M)
 obtain ⟨H, hH⟩ : ∃ H, H = (Ke (Kv k ins M)).toNat := ⟨_, rfl⟩
 have hHi : Ke (Kv k ins M) = (H : Int) := by omega
 rw [← hH] at hget
 cases hos : QB s H (Kv k ins M) 0 H false with
 | none => rw [hos] at hget; simp at hget
 | some os =>
 rw [hos] at hget; simp only at hget
 have hty : ∀ i, i < M → ins[VX k 0 i]? = some (JE k 0 ins i) ∧ JE k 0 ins i ∈ ins := fun i hi => Qp (hX i hi)
 have htys : ∀ x ∈ Kv k ins M, x ∈ ins := fun x hx => by
  unfold Kv at hx
  obtain ⟨i, hi, rfl⟩ := List.mem_map.1 hx
  exact (hty i (List.mem_range.1 hi)).2
 generalize hps : V6 s (Kv k ins M) 0 os = ps at *
 obtain ⟨o, r, rfl, o1, o2, o3⟩ := vV hos m0 (fun _ => rfl)
 have ho3 := (o3 rfl).symm
 subst ho3
 have hg := Ja3 m0 m0 hos m0 (Nat.le_refl _) (fun _ => rfl) (fun x _ hx => by have := jU hx; omega) m0 H r rfl
 rw [hps, Nat.sub_self, List.drop_zero] at hg
 obtain ⟨f1, f2, f3, f4⟩ := hg
 rw [X9] at f4
 by_cases hr : (VB (((List.range M).map fun i => (YU ins).getD (VX k 0 i) g0).zip ps)).2 ≠ 0
 ·rw [if_pos hr] at hget; exact absurd (Prod.mk.inj hget).2 hr
 rw [if_neg hr] at hget
 obtain ⟨vs, hvs⟩ : ∃ vs, vs = (VB (((List.range M).map fun i => (YU ins).getD (VX k 0 i) g0).zip ps)).1 := ⟨_, rfl⟩
 have hrun : VB (((List.range M).map fun i => (YU ins).getD (VX k 0 i) g0).zip ps) = (vs, 0) := by rw [hvs]; exact Prod.ext rfl (Decidable.not_not.1 hr)
 rw [← hvs] at hget
 obtain rfl := (Prod.mk.inj hget).1
 obtain ⟨r1, r2⟩ := Jd4 hrun
 have hvl : vs.length = M := by rw [r1, List.length_zip, List.length_map, List.length_range, f4, Nat.min_self]
 have hall : ∀ (j : Nat) x q, vs[j]? = some x → ps[j]? = some q → Ko x (JE k 0 ins j) = 0 ∧ Vr x (JE k 0 ins j) = q ∧ WU x = x ∧ wV x ≤ (7 - (d + 1)) * q.length + 1 := fun j x q hx hq => by
  have hj : j < M := by rw [← hvl]; exact (List.getElem?_eq_some_iff.1 hx).1
  obtain ⟨e1, e2⟩ := hty j hj
  have hql : q.length ≤ 100000 := by
   have hqm := List.mem_of_getElem? hq
   rw [← hps] at hqm
   have := q7 hqm
   omega
  refine ih _ e2 (d + 1) (by have := hsubd _ e2; simpa using this) q x hql (r2 j _ q x ?_ hx); rw [List.getElem?_zip_eq_some]; exact ⟨by rw [List.getElem?_map, List.getElem?_range hj, Option.map_some, vW e1], hq⟩
 have hpl : KZ vs k 0 ins 0 = (Kv k ins M).zip ps := by
  rw [Jd5 (ps := ps) (by rw [hvl, f4]) fun j x q hx hq => by rw [Nat.zero_add]; exact (hall j x q hx hq).2.1, hvl, Jwi]
 have hzl : ((Kv k ins M).zip ps).length = M := by rw [List.length_zip, X9, f4, Nat.min_self]
 have hfst : ((Kv k ins M).zip ps).map Prod.fst = Kv k ins M := by
  rw [List.map_fst_zip]; rw [X9, f4]; exact Nat.le_refl _
 have htl := congrArg List.length f2
 rw [yt, List.length_drop] at htl
 have hfl := congrArg List.length f1
 rw [List.length_take, Nat.min_eq_left m0] at hfl
 have hsb := Jib f3
 rw [hfst, hHi, hzl] at hsb
 have hitem : ∀ (j : Nat) x, vs[j]? = some x → ∃ q, ps[j]? = some q := fun j x hx => by
  have hj : j < M := by rw [← hvl]; exact (List.getElem?_eq_some_iff.1 hx).1
  exact ⟨_, List.getElem?_eq_getElem m0⟩
 unfold KI
 refine ⟨(Wx ?_ ?_).trans ?_, ?_, ?_, ?_⟩
 ·rw [hvl]
  rintro (⟨e1, e2⟩ | ⟨e1, _⟩)
  ·have := m4 e1; omega
  ·omega
 ·rw [Qq k n _ 0 0 0 0 [] none vs none 0 _ rfl, Qg, Qg, Qg, Qg, hvl]
  rcases h3 with rfl | rfl | rfl
  ·have := m2 rfl; simp; omega
  ·simp
  ·have := m3 rfl; simp; omega
 ·exact zN fun j x hx => by
   obtain ⟨q, hq⟩ := hitem j x hx
   rw [Nat.zero_add]; exact (hall j x q hx hq).1
 ·rw [QR, if_neg h1, if_neg h2, if_neg h5, if_neg h6, if_neg h8, Jaz h8, Jdy, hvl, ← hH, hpl, Ja2, List.nil_append, List.nil_append, List.length_nil, f1, f2, List.take_append_drop]
 ·rw [Qa, Jou fun x hx => by
   obtain ⟨j, hj⟩ := List.getElem?_of_mem hx
   obtain ⟨q, hq⟩ := hitem j x hj
   exact (hall j x q hj hq).2.2.1]
 ·have hw := Jov (A := 7 - (d + 1)) (H := H) (l := (Kv k ins M).zip ps) (vs := vs) (n := 0) (by rw [hvl, hzl]) f3 (fun p _ hp => jU hp) (fun j p v hp hv => by
   obtain ⟨q, hq⟩ := hitem j v hv
   rw [List.getElem?_zip_eq_some] at hp
   have e : p.2 = q := by have := hp.2; rw [hq] at this; exact (Option.some.inj this).symm
   rw [e]
   exact (hall j v q hv hq).2.2.2) m0
  rw [hfl, htl, show 7 - (d + 1) + 1 = 7 - d by omega, show H + (s.length - H) = s.length by omega] at hw; rw [wV]; simp only [List.length_nil, Nat.zero_div]; omega
abbrev zP (e : Int) : Value := .iface 113 (.agg #[.int .i64 e])
theorem VE (b : Bool) (e : Int) : PureX (α := Unit) Tryz.prog 94 [.bool b, .int .i64 e].toArray (b = true) (fun v => b = false ∧ v = zP e) (fun _ => .tuple #[]) (fun _ => []) [] := by
 refine XS Tryz.func94 rfl rfl fun w => JT (Nd ?_); refine cD (fun g => ?_) fun g => ?_
 refine N6 ?_; refine gg ?_; refine WR rfl (Jm7 rfl rfl ?_); exact Qk rfl rfl ⟨by assumption, rfl⟩
 ·refine KS 1 rfl (Qw rfl rfl .nil (fun w1 hs1 => ?_)); exact .inl ⟨by assumption, (), rfl, hs1.weakL (List.nil_sublist _)⟩
theorem Jux (h : 4 ≤ s.length) : yg (s.take 4) = (WC (s.take 4), 0) ∧ WC (s.take 4) < 4294967296 := by
 have hl : (s.take 4).length = 4 := by rw [List.length_take]; omega
 have h2 := Je6 (s.take 4)
 rw [hl] at h2; refine ⟨?_, h2⟩
 unfold yg
 rw [if_neg m0]
theorem Jow (h : 4 ≤ s.length) : Pure Tryz.prog 186 [Js s].toArray (.int .i64 ((WC (s.take 4) : Nat) : Int)) := by
 obtain ⟨h1, h2⟩ := Jux h
 refine J5 Tryz.func186 rfl rfl fun w => GY ?_; refine LR rfl (V9 (kl := none) (kh := some (.i64, 4)) (m := 0) (n := 4) rfl rfl rfl rfl rfl rfl m0 m0 (show _ = s.take 4 from by rw [List.drop_zero])) (J6 rfl rfl rfl (enters_of Tryz.func246 m5 rfl) (Jf2 (s.take 4)) (Jn (congrArg Jx6 h1) (JM 11 rfl (Jn (show _ = Value.int .i64 ((WC (s.take 4) : Nat)) from congrArg (Value.int .i64) (wrap_i64 m0 m0)) ?_)))); exact MY
theorem Jf8 (s : BS) : ∃ a b c d, Ye s = [a, b, c, d] := by
 have := (xN s).1
 match hq : Ye s, this with
 | [a, b, c, d], _ => exact ⟨a, b, c, d, rfl⟩
theorem Js7 (h : s.length ≤ 32) : vm (ZO s).reverse = (Ye s, 0) := by
 unfold vm Ye
 rw [if_pos (by rw [List.length_reverse, WH h])]
theorem zQ (h : s.length ≤ 32) : Pure Tryz.prog 144 [Js s].toArray (Go.SL.wV (Ye s)) := by
 have hu := Js7 h
 have hp := WH h
 obtain ⟨a, b, c, d, hn⟩ := Jf8 s
 rw [hn] at hu ⊢; refine J5 Tryz.func144 rfl rfl fun w => Mw fun r1 => ?_; refine gB ?_; refine g6 ?_; refine WR rfl (Jn (show _ = Value.int .i64 ((32 - s.length : Nat)) from congrArg (Value.int .i64) mb) (gF ?_)); refine J6 rfl rfl rfl Jno (Jdw (s := ZO s) m0) (J6 rfl rfl rfl (enters_of Tryz.func184 m5 rfl) (wY (ZO s).reverse) (Jn (congrArg Jrg hu) (kz ?_))); refine LN rfl fun r2 => ?_
 refine Ng ?_; refine N5 ?_; refine LR rfl (Jl (vs := [_, _, _, _]) rfl (kn 0 rfl) rfl rfl rfl rfl) ?_
 refine GV ?_; refine Jj rfl rfl (.cons (Jt (vs := [_, _, _, _]) rfl (kn 1 rfl) rfl rfl) .nil) (fun w1 hs1 => ?_); exact MA
theorem Js8 (s : BS) (i : Nat) : Qx (JG s (i + 1)) = Qx (JG s i) ++ [Value.bool (QX s i)] := by
 unfold Qx JG
 rw [List.range_succ, List.map_append, List.map_append]; rfl
theorem Jyd {b : UInt8} : (b.toNat / 2 ^ i) &&& 1 = if b.toNat.testBit i then 1 else 0 := by
 rw [Nat.and_one_is_mod, Nat.testBit_eq_decide_div_mod_eq]
 by_cases h : b.toNat / 2 ^ i % 2 = 1
 ·rw [h]; simp
 ·rw [if_neg mV]; omega
theorem Jox {n : Nat} (hn : n ≤ 8 * s.length) (hl : s.length ≤ 100000) : PureT (α := { row : Vk // rowOk 1 n (Qx (JG s n)) row }) Tryz.prog 145 [Js s, .int .i64 (n : Int)].toArray (fun x => Jx n x.1) [] (fun x => JJ 4 (Qx (JG s n)) x.1) [] := by
 refine J4 Tryz.func145 rfl rfl fun w => JT (JS 18 rfl (Jw (σ := Nat × Vk) (fun q => q.1 ≤ n ∧ rowOk 1 q.1 (Qx (JG s q.1)) q.2) (fun q => [(0, Js s), (5, Jx q.1 q.2), (7, .int .i64 (n : Int)), (8, .int .i64 (q.1 : Int))]) (fun q => JJ 4 (Qx (JG s q.1)) q.2) (fun _ _ _ => True) (fun q => n - q.1) (0, none) ⟨Nat.zero_le _, rfl, rfl⟩ (lK rfl) (List.Sublist.refl _) (fun _ _ h => h) ?_)); rintro ⟨i, row⟩ ⟨hi1, hrow⟩; simp only at hi1 hrow; refine Nd ?_; refine cD (fun g => ?_) fun g => ?_
 ·refine Jr 15 rfl (Jn (show _ = Value.int .i64 ((i / 8 : Nat)) from congrArg (Value.int .i64) (QP m0 m6 m0)) (LR rfl (Ws (j := i / 8) rfl rfl rfl rfl m0 rfl) (ko ?_))); refine Jn (show _ = Value.int .i64 ((i % 8 : Nat)) from congrArg (Value.int .i64) (W6 _ _)) (LR rfl (wl (n := i % 8) (b := (((s.getD (i / 8) 0).toNat / 2 ^ (i % 8) : Nat) : Int)) rfl rfl rfl (show _ ≤ 8 from by omega) m0 (by rw [Int.natCast_ediv])) (LR rfl (vF (op := .and) (m := (s.getD (i / 8) 0).toNat / 2 ^ (i % 8)) (n := 1) rfl rfl rfl (Nat.lt_of_le_of_lt (Nat.div_le_self _ _) (Vs _)) m6 (congrArg Int.ofNat Jyd)) ?_))
  refine WR rfl ?_; refine Jn (show _ = Value.bool (QX s i) from by unfold QX; cases (s.getD (i / 8) 0).toNat.testBit (i % 8) <;> rfl) ?_; refine JB (vs := [_]) (zs := [_]) (r := [_]) rfl rfl rfl rfl rfl rfl rfl rfl rfl mq rfl fun r1 => ?_; refine JF (L0 := [_]) (xs := Qx (JG s i)) (row := row) (n := i) (sz := 1) (b := 1) (news := [Value.bool (QX s i)]) (List.perm_append_comm (l₁ := [_])) rfl rfl rfl rfl (kn 0 rfl) rfl rfl rfl rfl rfl m6 rfl rfl rfl m6 hrow m0 m0 fun ra cap sp hra => ?_; refine gB ?_; refine NF ?_; refine jH (L' := JJ 4 (Qx (JG s i) ++ [Value.bool (QX s i)]) (some (ra, cap, sp))) (List.sublist_append_left (JJ 4 (Qx (JG s i) ++ [Value.bool (QX s i)]) (some (ra, cap, sp))) _) ?_; rw [show Qx (JG s i) ++ [Value.bool (QX s i)] = Qx (JG s (i + 1)) from (Js8 s i).symm] at hra ⊢; exact G7
 ·refine Nd ?_
  obtain rfl : i = n := by omega
  refine KS 6 rfl (N2 fun w1 hs1 => ?_); exact ⟨⟨row, hrow⟩, rfl, hs1⟩
section
variable {c : Cx} {l : Kj} {L : Ji} {X : XP} {d : List Deferred} {i : Nat} {t t2 : TypeId} {ps : String} {af : Array Edge} {gd : Option (Nat × Bool)} {ty : TypeId}
theorem Joy {x y : Operand} {a : Nat} (hx : JZ l x = some (.int .i64 (a : Int))) (hy : JZ l y = some (.int .i64 (b : Int))) (h0 : 0 < b) : Jz c d l L X ⟨some i, .binOp .rem t x y t2, ty, ps, af, gd⟩ (.int .i64 ((a % b : Nat) : Int)) := fun a' w hf _ => by
 simp only [execOp]; rw [hf.eval hx, hf.eval hy]
 have e1 : ¬ ((b : Int) = 0) := by omega
 simp only [binOp, eqGuard, Op.intDiv, if_neg e1, Sem.run_bind]
 rfl
theorem Ja5 {x y : Operand} {a : Nat} (hx : JZ l x = some (.int .i64 (a : Int))) (hy : JZ l y = some (.int .i64 (b : Int))) (h0 : 0 < b) (ha : a ≤ 9223372036854775807) : Jz c d l L X ⟨some i, .binOp .quo t x y t2, ty, ps, af, gd⟩ (.int .i64 ((a / b : Nat) : Int)) := fun a' w hf _ => by
 simp only [execOp]; rw [hf.eval hx, hf.eval hy]
 have e1 : ¬ ((b : Int) = 0) := by omega
 have e2 := QP (a := (a : Int)) (b := (b : Int)) m0 m0 m0
 simp only [binOp, eqGuard, Op.intDiv, if_neg e1, Sem.run_bind, e2]
 rfl
end
structure VR (v : Vl) : Type where
  x : Vl
  L : Ji
  ok : x.In L
  er : WU x = v
def blT (n : Int) (s : List UInt8) : Vl × Int := if s.getLast? = none ∨ s.getLast? = some 0 then (v0L, 2) else if n < (WP s (8 * s.length) : Int) then (v0L, 5) else (jc (JG s (WP s (8 * s.length))), 0)
theorem Jd6 (h : s ≠ []) : s.getLast? = some (s.getD (s.length - 1) 0) := by
 have hp : 0 < s.length := List.length_pos_iff.2 h
 rw [List.getLast?_eq_getElem?, List.getD_eq_getElem?_getD, List.getElem?_eq_getElem m0]; rfl
theorem Jid {n : Int} (h : s = []) : blT n s = (v0L, 2) := by unfold blT; rw [if_pos (.inl (by rw [h]; rfl))]
theorem Jye {n : Int} (h : s.getD (s.length - 1) 0 = 0) : blT n s = (v0L, 2) := by
 by_cases h0 : s = []
 ·exact Jid h0
 ·unfold blT; rw [if_pos (.inr (by rw [Jd6 h0, h]))]
theorem Jwj (h0 : s ≠ []) (h : s.getD (s.length - 1) 0 ≠ 0) : ¬ (s.getLast? = none ∨ s.getLast? = some 0) := by
 rw [Jd6 h0]
 rintro (h1 | h1)
 ·cases h1
 ·exact h (Option.some.inj h1)
theorem Js9 {x : UInt8} : (((x.toNat : Int) != 0) = false) ↔ x = 0 := by
 rw [Z6, ← UInt8.toNat_inj]; exact Int.natCast_eq_zero
theorem Jd7 (s : BS) {n : Nat} (h : m ≤ n) : (Qx (JG s n)).take m = Qx (JG s m) := by
 unfold Qx JG
 rw [← List.map_take, ← List.map_take, List.take_range, Nat.min_eq_left h]
theorem q8 (s : BS) (n : Nat) : (Qx (JG s n)).length = n := by unfold Qx; rw [List.length_map, Km]
theorem Jie (s : BS) {n : Nat} (h : i < n) (sp : List Value) : Wl (Qx (JG s n) ++ sp) i = some (.bool (QX s i)) := by
 rw [Ve, List.getElem?_append_left (by rw [q8]; exact h)]
 unfold Qx
 rw [List.getElem?_map, QZ s h]; rfl
theorem u0 : XJ 0 := by unfold XJ; omega
theorem i0 : qg 0 := by unfold qg; omega
theorem Jd8  {n : Nat} (h : m ≤ n) (hc : n ≤ cap) (h0 : n ≤ 800000) : Vl.In [(r, .cells (Qx (JG s n) ++ sp).toArray e (0, 0))] (.mk 0 0 0 0 (JG s m) (some (⟨r, 0, none⟩, cap)) [] none 0) := by
 refine .mk u0 u0 u0 u0 Ms ?_ m6 rfl i0 (fun x hx => nomatch hx); refine ⟨by rw [Km]; omega, fun _ => ⟨rfl, _, e, (0, 0), List.mem_singleton_self _, ?_⟩⟩; simp only [List.toList_toArray, List.drop_zero]; rw [q8, List.take_append_of_le_length (by rw [q8]; exact h), Jd7 s h]
theorem Jif (s : BS) (m r cap : Nat) : Vl.val (.mk 0 0 0 0 (JG s m) (some (⟨r, 0, none⟩, cap)) [] none 0) = .agg #[.int .u64 0, .int .u64 0, .int .u64 0, .int .u64 0, .slice (some ⟨r, 0, none⟩) m cap, .slice none 0 0, .int .i64 0] := by
 show Value.agg #[uV 0, uV 0, uV 0, uV 0, Value.slice (some ⟨r, 0, none⟩) (JG s m).length cap, Value.slice none 0 0, Value.int .i64 0] = _
 rw [Km]; rfl
theorem Jwk {n : Int} {v : Value} (hno : ¬ (s.getLast? = none ∨ s.getLast? = some 0)) (hv : decide ((WP s (8 * s.length) : Int) ≤ n) = false ∧ v = zP 5) : (blT n s).2 ≠ 0 ∧ v = zP (blT n s).2 := by
 have h : n < (WP s (8 * s.length) : Int) := by have := hv.1; rw [Z2] at this; omega
 have e : (blT n s).2 = 5 := by unfold blT; rw [if_neg hno, if_pos h]
 rw [e]; exact ⟨by decide, hv.2⟩
theorem Jyf {n : Int} (hno : ¬ (s.getLast? = none ∨ s.getLast? = some 0)) (h : decide ((WP s (8 * s.length) : Int) ≤ n) = true) : blT n s = (jc (JG s (WP s (8 * s.length))), 0) := by
 have h : ¬ n < (WP s (8 * s.length) : Int) := by rw [Z1] at h; omega
 unfold blT; rw [if_neg hno, if_neg h]
theorem Jkh {k n : Int} {p : Pl} {ins : List Ty} (hl : s.length ≤ 100000) (hn : qg n) : PureX (α := VR (blT n s).1) Tryz.prog 146 [Ty.val (.mk k n p ins), Js s].toArray ((blT n s).2 = 0) (fun v => (blT n s).2 ≠ 0 ∧ v = zP (blT n s).2) (fun y => y.x.val) (fun y => y.L) [] := by
 have bad2 : s = [] ∨ s.getD (s.length - 1) 0 = 0 → (blT n s).2 = 2 := fun h => h.elim (fun h => by rw [Jid h]) (fun h => by rw [Jye h])
 have hbad2 : ∀ {v : Value} {b : Bool}, s = [] ∨ s.getD (s.length - 1) 0 = 0 → b = false ∧ v = zP 2 → (blT n s).2 ≠ 0 ∧ v = zP (blT n s).2 := fun h hv => by rw [bad2 h]; exact ⟨by decide, hv.2⟩
 have hT := Jox (s := s) (n := 8 * s.length) (Nat.le_refl _) hl
 refine XS Tryz.func146 rfl rfl fun w => ML fun r1 r2 => ?_; refine N5 ?_; refine LR rfl (W3 rfl rfl) (QV rfl ?_)
 refine J0 9 rfl (fun gb => ?_) (fun gb => ?_) <;> (try simp only [ZZ] at gb) <;> first | (refine QV rfl ?_) | (refine LK rfl ?_)
 all_goals refine LW 1 [] rfl rfl ?_
 all_goals refine MX ?_
 all_goals first | (have hpos : 0 < s.length := List.length_pos_iff.2 ‹s ≠ []›; refine WR rfl ?_; refine Jn (show _ = Value.int .i64 ((s.length - 1 : Nat)) from congrArg (Value.int .i64) mb) ?_) | refine LK rfl ?_
 all_goals first | (refine LR rfl (Ws (j := s.length - 1) rfl rfl rfl rfl m0 rfl) ?_) | refine LK rfl ?_
 all_goals refine gr ?_
 all_goals refine KN rfl rfl rfl ZP (VE (_) 2) oN (fun hok _ => ?_) (fun v hv => Qk rfl rfl (hbad2 (by first | exact .inl ‹_› | exact .inr (Js9.1 hv.1)) hv))
 all_goals try exact Bool.noConfusion hok
 refine Nw ?_
 have hne : s ≠ [] := ‹s ≠ []›
 have hpos : 0 < s.length := List.length_pos_iff.2 hne
 have hno := Jwj hne (fun e => by rw [e] at hok; cases hok)
 obtain ⟨q1, q2, q3⟩ := Jic hno
 refine G3 ?_; refine g6 ?_; refine WR rfl (Jn mN (KA rfl rfl rfl (enters_of Tryz.func145 m5 rfl) hT oN fun x => ?_))
 obtain ⟨row, hrow⟩ := x
 match row, hrow with | none, hrow => ?_ | some (ra, cap, sp), hrow => ?_
 all_goals first | exact absurd hrow.1 m0 | skip
 refine gB ?_; refine NK ?_; refine WR rfl (Jn (show _ = Value.int .i64 ((8 * s.length - 1 : Nat)) from congrArg (Value.int .i64) mb) (JR 5 rfl (Jw (σ := Nat) (fun i => WP s (8 * s.length) ≤ i ∧ i < 8 * s.length) (fun i => [(2, VA r1), (4, VA r2), (5, .slice (some ⟨ra, 0, none⟩) (8 * s.length) cap), (6, .int .i64 (i : Int))]) (fun i => [(ra, .cells (Qx (JG s (8 * s.length)) ++ sp).toArray 4 (0, 0)), WY r2 v0L, VK r1 (.mk k n p ins)]) (fun _ _ _ => True) (fun i => i) (8 * s.length - 1) ⟨by omega, by omega⟩ (lK rfl) (List.Sublist.refl _) (fun _ _ h => h) ?_))); rintro i ⟨hi1, hi2⟩; change HC _ _ _ ((ra, _) :: (r2, _) :: (r1, _) :: []) _ _ _; refine G4 ?_; refine LR rfl (Ki (j := i) (m := 1) (off' := i) rfl rfl rfl rfl m0 m0 m0) (LR rfl (Jd rfl (kn 0 rfl) rfl (Jie s (i := i) m0 sp)) (Nw ?_)); refine cD (fun h14 => ?_) fun h14 => ?_
 refine Gt ?_
 have hlt : WP s (8 * s.length) ≠ i := fun e => by rw [e] at q2; rw [q2] at h14; cases h14
 refine G3 ?_; refine Jn (show _ = Value.int .i64 ((i - 1 : Nat)) from congrArg (Value.int .i64) mb) (Jy 3 rfl (Jv ?_)); exact Jo (i - 1) ⟨by omega, by omega⟩ m0 (lK rfl) (List.Sublist.refl _) (fun _ _ h => h)
 ·refine Nd ?_
  have hcap : 8 * s.length ≤ cap := by have := hrow.2; omega
  have hL : i = WP s (8 * s.length) := Decidable.byContradiction fun hne => by have := q3 i m0 hi2; rw [this] at h14; cases h14
  subst hL; refine Wt 5 [2] rfl rfl (KN rfl rfl rfl ZP (VE (_) 5) oN (fun hok _ => ?_) (fun v hv => Qk rfl rfl (Jwk hno hv))); refine gB ?_
  refine LR rfl (JO (kl := none) (kh := some (WP s (8 * s.length))) (km := none) (m := 0) (q := WP s (8 * s.length)) (z := cap) (off' := 0) (sz := 1) rfl rfl rfl trivial ⟨_, rfl⟩ trivial rfl rfl rfl m0 m0 (Nat.le_refl _) (fun e => nomatch e) nR) ?_; refine kH ?_
  refine GV ?_; refine Gz fun w1 hs1 => ?_
  have hbo := Jyf hno hok
  refine .inl ⟨by rw [hbo], ⟨.mk 0 0 0 0 (JG s (WP s (8 * s.length))) (some (⟨ra, 0, none⟩, cap)) [] none 0, [(ra, .cells (Qx (JG s (8 * s.length)) ++ sp).toArray 4 (0, 0))], Jd8 m0 m0 m0, by rw [hbo, Qa, Yx]; rfl⟩, congrArg Ending.returned (Jif s _ ra cap).symm, hs1.weakL ((List.cons_sublist_cons).2 (List.nil_sublist _))⟩
theorem Joz {k n : Int} {ins : List Ty} {y : Nat} (h7 : k ≠ 7) (h3 : k ≠ 3) (hs : s ≠ []) (hF : JC (JE k 0 ins 0) = true → B = s.length ∧ y = (JV (JE k 0 ins 0)).toNat) (hV : JC (JE k 0 ins 0) = false → 4 ≤ s.length ∧ WC (s.take 4) ≠ 0 ∧ B = WC (s.take 4) ∧ y = 4) :
  JW k n ins s = if B % y ≠ 0 then (0, 2) else if n < ((B / y : Nat) : Int) then (0, 5) else (B / y, 0) := by
 unfold JW
 rw [if_neg h7, if_neg h3, if_neg hs]
 cases h : JC (JE k 0 ins 0) with
 | true => obtain ⟨rfl, rfl⟩ := hF h; rw [if_pos rfl]
 | false =>
  obtain ⟨e1, e2, rfl, rfl⟩ := hV h
  rw [if_neg me]
  by_cases h4 : WC (s.take 4) % 4 ≠ 0
  ·rw [if_pos (.inr (.inl h4)), if_pos h4]
  ·rw [if_neg (by rintro (h | h | h); omega; exact h4 h; exact e2 h), if_neg h4]
theorem Jwl {k n : Int} {ins : List Ty} (h7 : k ≠ 7) (h3 : k ≠ 3) (hs : s ≠ []) (hF : JC (JE k 0 ins 0) = false) (h : s.length < 4 ∨ WC (s.take 4) = 0) : (JW k n ins s).2 = 2 := by
 unfold JW
 rw [if_neg h7, if_neg h3, if_neg hs, hF, if_neg me, if_pos (by rcases h with h | h; exact .inl h; exact .inr (.inr h))]
theorem Jo0 {k n : Int} {ins : List Ty} (h7 : k = 7) : JW k n ins s = (ins.length, 0) := by unfold JW; rw [if_pos h7]
theorem Jo1 {k n : Int} {ins : List Ty} (h7 : k ≠ 7) (h3 : k = 3) : JW k n ins s = (n.toNat, 0) := by unfold JW; rw [if_neg h7, if_pos h3]
theorem Jo2 {k n : Int} {ins : List Ty} (h7 : k ≠ 7) (h3 : k ≠ 3) (hs : s = []) : JW k n ins s = (0, 0) := by unfold JW; rw [if_neg h7, if_neg h3, if_pos hs]
theorem Wz {r : Int} {v : Value} {e : Int} {b : Bool} (h : r = e) (he : e ≠ 0) (hv : b = false ∧ v = zP e) : r ≠ 0 ∧ v = zP r := by rw [h]; exact ⟨he, hv.2⟩
theorem Jwm {k n : Int} {p : Pl} {ins : List Ty} (ht : Ty.In R (.mk k n p ins)) (hc : V7 (.mk k n p ins) 0 = 0) (hk3 : k = 3 ∨ k = 4 ∨ k = 7) (hl : s.length ≤ 100000) :
  PureX (α := Unit) Tryz.prog 185 [Ty.val (.mk k n p ins), Js s].toArray ((JW k n ins s).2 = 0) (fun v => (JW k n ins s).2 ≠ 0 ∧ v = zP (JW k n ins s).2) (fun _ => .int .i64 ((JW k n ins s).1 : Int)) (fun _ => []) R := by
 obtain ⟨hk8, ho, _, _⟩ := QT hc
 have hsg : Seg R ins.length (xF ins) p := by cases ht; assumption
 have hin0 : VX k 0 0 < ins.length := by
  unfold Kk at ho
  unfold VX
  rcases hk3 with rfl | rfl | rfl <;> simp at ho ⊢ <;> omega
 obtain ⟨hx0, hxm⟩ := Qp hin0
 have hsz := vQ (ht.sub _ hxm)
 have hfx := jU (t := JE k 0 ins 0)
 have hbl := vR (JE k 0 ins 0)
 have hbe := Jax (JE k 0 ins 0)
 obtain ⟨y, hy⟩ : ∃ y : Nat, WN (JE k 0 ins 0) = (y : Int) := ⟨_, (Int.toNat_of_nonneg m0).symm⟩
 rw [hy] at hsz hbl hbe
 have hnk : k = 3 → 0 ≤ n := fun e => by subst e; unfold Kk at ho; simp at ho; omega
 refine XS Tryz.func185 rfl rfl fun w => Mw fun r1 => ?_; refine Goc 13 [0] rfl rfl (cD (fun g => ?_) fun g => ?_)
 refine Hc ?_; refine LR rfl (Ju rfl hsg rfl) (Jy 6 rfl (N2 fun w1 hs1 => ?_)); exact .inl ⟨by rw [Jo0 ‹k = 7›], (), by rw [Jo0 ‹k = 7›]; rfl, hs1.weakL (List.nil_sublist _)⟩
 ·refine Gcc 8 [0] rfl rfl (cD (fun h7 => ?_) fun h7 => ?_)
  refine Hc ?_; refine Jn (show _ = Value.int .i64 ((n.toNat : Nat) : Int) from congrArg (Value.int .i64) (by have := hnk ‹_›; omega)) (Jy 6 rfl (N2 fun w1 hs1 => ?_)); exact .inl ⟨by rw [Jo1 ‹k ≠ 7› ‹k = 3›], (), by rw [Jo1 ‹k ≠ 7› ‹k = 3›]; rfl, hs1.weakL (List.nil_sublist _)⟩
  ·refine G3 ?_; refine LR rfl (Vi rfl rfl) (Nw ?_); refine cD (fun g => ?_) fun g => ?_
   refine KS 8 rfl (N2 fun w1 hs1 => ?_); exact .inl ⟨by rw [Jo2 ‹k ≠ 7› ‹k ≠ 3› ‹s = []›], (), by rw [Jo2 ‹k ≠ 7› ‹k ≠ 3› ‹s = []›]; rfl, hs1.weakL (List.nil_sublist _)⟩
   ·refine JS 4 rfl ?_
    have h7 : k ≠ 7 := ‹_›
    have h3 : k ≠ 3 := ‹_›
    have hne : s ≠ [] := ‹_›
    have hx00 : ins[0]? = some (JE k 0 ins 0) := by have := hx0; unfold VX at this; rw [if_neg h7] at this; split at this <;> exact this
    refine Wt 3 [0] rfl rfl ?_
    refine LR rfl (Jf (j := 0) rfl hsg rfl rfl rfl mc m0) (LR rfl (KV oR rfl hsg hx00 rfl rfl) (Jc rfl rfl rfl Jhu hsz oR (JM 10 rfl (g6 ?_)))); refine JR 10 rfl (cD (fun g => ?_) fun g => ?_)
    ·refine G3 ?_; refine Np ?_
     refine J0 39 rfl (fun gb => ?_) (fun gb => ?_) <;> (try simp only [ZZ] at gb) <;> first | (refine QV rfl ?_) | (refine LK rfl ?_)
     all_goals first | (refine J6 rfl rfl rfl Jnu (Jow (s := s) m0) ?_) | refine LK rfl ?_
     all_goals refine gr ?_
     all_goals refine KN rfl rfl rfl ZP (VE (_) 2) oN (fun hok _ => ?_) (fun v hv => Qk rfl rfl (Wz (Jwl ‹k ≠ 7› ‹k ≠ 3› hne ‹JC (JE k 0 ins 0) = false› (by first | exact .inl m0 | exact .inr (Int.natCast_eq_zero.1 (Z6.1 hv.1)))) m6 hv))
     all_goals try exact Bool.noConfusion hok
     have hl0 := fun e => Z5.1 hok (Int.natCast_eq_zero.2 e)
     refine GS ?_; refine J6 rfl rfl rfl Jnu (Jow (s := s) m0) (kA ?_)
     (have hif : JC (JE k 0 ins 0) = false := ‹_›
      rw [hif, if_neg m6] at hbe
      have hlt := (Jux (s := s) m0).2
      have hmq := Joz (n := n) (ins := ins) (B := WC (s.take 4)) (y := y) h7 h3 hne (fun e => by rw [hif] at e; cases e) (fun _ => ⟨by omega, hl0, rfl, by omega⟩)
      obtain ⟨B, hB⟩ : ∃ B, B = WC (s.take 4) := ⟨_, rfl⟩
      have hBl : B ≤ 4294967295 := by omega
      rw [← hB] at hmq ⊢)
     refine G3 ?_; refine LR rfl (Joy (a := B) (b := y) rfl rfl m0) (WR rfl (KN rfl rfl rfl ZP (VE (_) 2) oN (fun hok _ => ?_) (fun v hv => Qk rfl rfl (Wz nZ m6 hv))))
     have hmod : ¬ B % y ≠ 0 := fun e => e (Int.natCast_eq_zero.1 (Z3.1 hok))
     refine N0 ?_; refine Kz (KN rfl rfl rfl ZP (VE (_) 5) oN (fun hok _ => ?_) (fun v hv => Qk rfl rfl (Wz M0 m6 hv))); exact ki
    ·refine Gt ?_
     (have hif : JC (JE k 0 ins 0) = true := ‹_›
      rw [if_pos hif] at hbe
      have hmq := Joz (n := n) (ins := ins) (B := s.length) (y := y) h7 h3 hne (fun _ => ⟨rfl, by omega⟩) (fun e => by rw [hif] at e; cases e)
      obtain ⟨B, hB⟩ : ∃ B, B = s.length := ⟨_, rfl⟩
      have hBl : B ≤ 4294967295 := by omega
      rw [← hB] at hmq ⊢)
     refine G3 ?_; refine LR rfl (Joy (a := B) (b := y) rfl rfl m0) (WR rfl (KN rfl rfl rfl ZP (VE (_) 2) oN (fun hok _ => ?_) (fun v hv => Qk rfl rfl (Wz nZ m6 hv))))
     have hmod : ¬ B % y ≠ 0 := fun e => e (Int.natCast_eq_zero.1 (Z3.1 hok))
     refine N0 ?_; refine Kz (KN rfl rfl rfl ZP (VE (_) 5) oN (fun hok _ => ?_) (fun v hv => Qk rfl rfl (Wz M0 m6 hv))); exact ki
def KD : List Ty → Nat → List Nat → List (Ty × Nat × Nat)
 | [], _, _ => []
 | x :: xs, a, os => if JC x then (x, a, a + (JV x).toNat) :: KD xs (a + (JV x).toNat) os else (x, os.getD 0 0, os.getD 1 0) :: KD xs (a + 4) os.tail
theorem q9 : ∀ (ts : List Ty) (a : Nat) (os : List Nat), (KD ts a os).length = ts.length
 | [], _, _ => rfl
 | x :: xs, a, os => by rw [KD]; split <;> rw [List.length_cons, q9 xs, List.length_cons]
theorem je (s : BS) : ∀ (ts : List Ty) (a : Nat) (os : List Nat), V6 s ts a os = (KD ts a os).map fun q => (s.take q.2.2).drop q.2.1
 | [], _, _ => rfl
 | x :: xs, a, os => by
  rw [V6, KD]
  split
  ·rw [List.map_cons, je s xs]
   congr 1
   simp only
   rw [List.drop_take]
   congr 1; omega
  ·rw [List.map_cons, je s xs]
theorem qA : ∀ (ts : List Ty) (a : Nat) (os : List Nat), (KD ts a os).map Prod.fst = ts
 | [], _, _ => rfl
 | x :: xs, a, os => by rw [KD]; split <;> rw [List.map_cons, qA xs]
def cV : List Ty → Nat
 | [] => 0
 | x :: xs => if JC x then cV xs else cV xs + 1
theorem Ja6 : ∀ (ts : List Ty) (x : Ty), cV (ts ++ [x]) = if JC x then cV ts else cV ts + 1
 | [], x => rfl
 | y :: ys, x => by
  rw [List.cons_append, cV, cV, Ja6 ys x]
  by_cases h1 : JC y = true <;> by_cases h2 : JC x = true <;> simp [h1, h2]
def Vo : List Ty → Int
 | [] => -1
 | x :: xs => if 0 ≤ Vo xs then Vo xs + 1 else if JC x then -1 else 0
theorem Yy : ∀ ts : List Ty, -1 ≤ Vo ts ∧ Vo ts < ts.length
 | [] => by rw [Vo]; simp
 | x :: xs => by
  have := Yy xs
  rw [Vo, List.length_cons]
  split
  ·omega
  ·split <;> omega
theorem jf : ∀ (ts : List Ty) (x : Ty), Vo (ts ++ [x]) = if JC x then Vo ts else (ts.length : Int)
 | [], x => rfl
 | y :: ys, x => by
  rw [List.cons_append, Vo, Vo, jf ys x]
  by_cases h2 : JC x = true
  ·rw [if_pos h2, if_pos h2]
  ·rw [if_neg h2, if_neg h2, if_pos m0, List.length_cons]; omega
theorem qB {x : Ty} (hx : JC x = true) : ∀ (ts : List Ty) (a : Nat) (os : List Nat), (∀ y ∈ ts, JC y = true → 0 ≤ JV y) → ∀ b : Nat, (b : Int) = a + Ke ts → KD (ts ++ [x]) a os = KD ts a os ++ [(x, b, b + (JV x).toNat)]
 | [], a, os, _, b, hb => by
  rw [Ke] at hb
  have : b = a := by omega
  subst this
  show KD [x] _ os = [(x, _, _)]
  rw [KD, if_pos hx, KD]
 | y :: ys, a, os, hy, b, hb => by
  have hy2 : ∀ z ∈ ys, JC z = true → 0 ≤ JV z := fun z hz => hy z (List.mem_cons_of_mem _ hz)
  rw [Ke, WN] at hb; rw [List.cons_append, KD, KD]
  by_cases hf : JC y = true
  ·have h0 := hy y List.mem_cons_self hf
   rw [if_pos hf] at hb; rw [if_pos hf, if_pos hf, qB hx ys _ os hy2 b m0]; rfl
  ·rw [if_neg hf] at hb
   rw [if_neg hf, if_neg hf, qB hx ys _ os.tail hy2 b m0]; rfl
theorem qC {x : Ty} (hx : ¬ JC x = true) (v e : Nat) : ∀ (ts : List Ty) (a : Nat) (pre : List Nat), pre.length = cV ts → KD (ts ++ [x]) a (pre ++ [v, e]) = KD ts a (pre ++ [v]) ++ [(x, v, e)]
 | [], a, pre, hp => by
  rw [cV] at hp
  obtain rfl := List.length_eq_zero_iff.1 hp
  show KD [x] _ [v, e] = [(x, v, e)]
  rw [KD, if_neg hx, KD]; rfl
 | y :: ys, a, pre, hp => by
  rw [cV] at hp; rw [List.cons_append, KD, KD]
  by_cases hf : JC y = true
  ·rw [if_pos hf] at hp
   rw [if_pos hf, if_pos hf, qC hx v e ys _ pre hp]; rfl
  ·rw [if_neg hf] at hp
   rw [if_neg hf, if_neg hf]
   cases pre with
   | nil => simp at hp
   | cons u pre =>
    have hp2 : pre.length = cV ys := by simpa using hp
    have e1 : (u :: pre ++ [v, e]).tail = pre ++ [v, e] := rfl
    have e2 : (u :: pre ++ [v]).tail = pre ++ [v] := rfl
    rw [e1, e2, qC hx v e ys _ pre hp2]
    have e3 : (u :: pre ++ [v, e]).getD 1 0 = (u :: pre ++ [v]).getD 1 0 := by cases pre <;> rfl
    rw [e3]; rfl
theorem jg : ∀ (ts : List Ty) (a : Nat) (os os' : List Nat), Vo ts = -1 → KD ts a os = KD ts a os'
 | [], _, _, _, _ => rfl
 | x :: xs, a, os, os', h => by
  rw [Vo] at h
  have := Yy xs
  by_cases h1 : 0 ≤ Vo xs
  ·rw [if_pos h1] at h; omega
  ·rw [if_neg h1] at h
   by_cases hf : JC x = true
   ·rw [KD, KD, if_pos hf, if_pos hf, jg xs _ os os' m0]
   ·rw [if_neg hf] at h; omega
theorem Jo3 : ∀ {ts : List Ty}, 0 ≤ Vo ts → 0 < cV ts
 | [], h => by rw [Vo] at h; omega
 | x :: xs, h => by
  rw [Vo] at h; rw [cV]
  by_cases h1 : 0 ≤ Vo xs
  ·have := Jo3 h1
   split <;> omega
  ·rw [if_neg h1] at h
   split
   ·rename_i hf; rw [if_pos hf] at h; omega
   ·omega
theorem Jig : ∀ {ts : List Ty}, Vo ts = -1 → cV ts = 0
 | [], _ => rfl
 | x :: xs, h => by
  rw [Vo] at h; rw [cV]
  have := Yy xs
  by_cases h1 : 0 ≤ Vo xs
  ·rw [if_pos h1] at h; omega
  ·rw [if_neg h1] at h
   by_cases hf : JC x = true
   ·rw [if_pos hf]; exact Jig m0
   ·rw [if_neg hf] at h; omega
theorem yw (v e : Nat) : ∀ (ts : List Ty) (a : Nat) (pre : List Nat) (j : Nat), pre.length = cV ts → Vo ts = (j : Int) → ∃ x f, (KD ts a (pre ++ [e]))[j]? = some (x, f, e) ∧ KD ts a (pre ++ [v]) = (KD ts a (pre ++ [e])).set j (x, f, v)
 | [], _, _, j, _, h => by rw [Vo] at h; omega
 | y :: ys, a, pre, j, hp, h => by
  have hge := Yy ys
  rw [cV] at hp; rw [Vo] at h; rw [KD, KD]
  by_cases h1 : 0 ≤ Vo ys
  ·rw [if_pos h1] at h
   obtain ⟨j', rfl⟩ : ∃ j', j = j' + 1 := ⟨j - 1, by omega⟩
   by_cases hf : JC y = true
   ·rw [if_pos hf] at hp
    obtain ⟨x, f, g1, g2⟩ := yw v e ys (a + (JV y).toNat) pre j' hp m0
    rw [if_pos hf, if_pos hf]; exact ⟨x, f, by rw [List.getElem?_cons_succ]; exact g1, by rw [List.set_cons_succ, ← g2]⟩
   ·rw [if_neg hf] at hp
    cases pre with
    | nil => simp at hp
    | cons u pre =>
     obtain ⟨x, f, g1, g2⟩ := yw v e ys (a + 4) pre j' (by simpa using hp) m0
     rw [if_neg hf, if_neg hf]
     have hpos : 0 < cV ys := Jo3 h1
     have e3 : (u :: pre ++ [v]).getD 1 0 = (u :: pre ++ [e]).getD 1 0 := by
      cases pre with
      | nil => simp at hp; omega
      | cons _ _ => rfl
     rw [e3]; exact ⟨x, f, by rw [List.getElem?_cons_succ]; exact g1, by rw [List.set_cons_succ]; exact congrArg _ g2⟩
  ·rw [if_neg h1] at h
   by_cases hf : JC y = true
   ·rw [if_pos hf] at h; omega
   ·rw [if_neg hf] at h hp
    have hj : j = 0 := by omega
    subst hj
    have hc0 : cV ys = 0 := Jig m0
    cases pre with
    | nil => simp at hp
    | cons u pre =>
     have hn : pre = [] := List.length_eq_zero_iff.1 (by simp at hp; omega)
     subst hn; rw [if_neg hf, if_neg hf]; refine ⟨y, u, rfl, ?_⟩; rw [jg ys (a + 4) (([u] ++ [v]).tail) (([u] ++ [e]).tail) m0]; rfl
def prC (q : Ty × Nat × Nat) : List Value := q.1.cells ++ [.int .i64 (q.2.1 : Int), .int .i64 (q.2.2 : Int)]
def XC (l : List (Ty × Nat × Nat)) : List Value := l.flatMap prC
theorem ZK (q : Ty × Nat × Nat) : (prC q).length = 5 := by unfold prC; rw [List.length_append, Ty.len]; rfl
theorem Jd9 (l : List (Ty × Nat × Nat)) : (XC l).length = l.length * 5 := KU ZK l
theorem Jwn (x : Ty) (f e v : Nat) : (prC (x, f, e)).set 4 (.int .i64 (v : Int)) = prC (x, f, v) := by
 obtain ⟨k, n, p, ins⟩ := x; rfl
theorem Jea : ∀ {l : List (Ty × Nat × Nat)} {j : Nat} {x : Ty} {f e : Nat} (v : Nat), l[j]? = some (x, f, e) → (XC l).set (j * 5 + 4) (.int .i64 (v : Int)) = XC (l.set j (x, f, v))
 | [], _, _, _, _, _, h => by simp at h
 | q :: l, 0, x, f, e, v, h => by
  cases h
  unfold XC
  rw [List.set_cons_zero, List.flatMap_cons, List.flatMap_cons, List.set_append_left _ _ (by rw [ZK]; decide), Nat.zero_mul, Nat.zero_add, Jwn]
 | q :: l, j + 1, x, f, e, v, h => by
  have ih := Jea (l := l) v mV
  unfold XC at ih ⊢
  rw [List.set_cons_succ, List.flatMap_cons, List.flatMap_cons, List.set_append_right _ _ (by rw [ZK]; omega), ZK, show (j + 1) * 5 + 4 - 5 = j * 5 + 4 by omega, ih]
theorem Xo (l : List (Ty × Nat × Nat)) (q : Ty × Nat × Nat) : XC (l ++ [q]) = XC l ++ prC q := by unfold XC; rw [List.flatMap_append]; simp
def QY (k n : Int) (ins : List Ty) (s : BS) : List Nat × Int :=
 if (JW k n ins s).2 ≠ 0 then ([], (JW k n ins s).2)
 else if (s.length : Int) < Ke (Kv k ins (JW k n ins s).1) then ([], 2)
 else match QB s (Ke (Kv k ins (JW k n ins s).1)).toNat (Kv k ins (JW k n ins s).1) 0 (Ke (Kv k ins (JW k n ins s).1)).toNat false with
  | none => ([], 2)
  | some os => (os, 0)
theorem Jo4 {k n : Int} {p : Pl} {ins : List Ty} (ht : Ty.In R (.mk k n p ins)) (hm : m ≤ 1000000) (hx : ∀ i, i < m → VX k 0 i < ins.length) (rt ri : Nat) :
    Jm9 Tryz.prog 230 [VA ri, VA rt] (jb ri m :: VK rt (.mk k n p ins) :: R) 0 (nxN (itV k ins) m) (Jez m) := by
  refine Jc5 Tryz.func230 rfl rfl fun q xids w2 XI XF pc hY => Nq ?_; intro i hi; refine Nd ?_; refine cD (fun g => ?_) fun g => ?_
  · refine JS 11 rfl ?_
    have hil : i < m := by omega
    refine NO ?_; refine Jjt (XT := XI (i + 1)) (XF := XF) (pc := pc) rfl rfl rfl rfl (hY i (itV k ins i) (i + 1) ⟨hil, rfl, rfl⟩) ?_ ?_ (fun ch hch => Jhn fun w1 hs1 => .inr ⟨ch, rfl, hch, hs1.keep⟩)
    all_goals (
     refine G0 ?_; refine JA rfl (fun g => ?_) (fun g => ?_)
     · try exact Bool.noConfusion g
       all_goals try simp only [ZZ] at g
       all_goals (
        refine KS 5 rfl (Jj rfl rfl .nil (fun w1 hs1 => ?_))
        obtain ⟨xs1, hx1⟩ := hs1.now
        exact .inl ⟨⟨_, rfl⟩, hs1.keep, .inr ⟨_, hx1⟩⟩
        skip)
     · try exact Bool.noConfusion g
       all_goals try simp only [ZZ] at g
       all_goals (
        refine G4 ?_; refine NF ?_; exact MU
        skip)
     skip)
  · refine kv fun w1 hs1 => ?_
    obtain ⟨xs1, hx1⟩ := hs1.now
    exact .inl ⟨⟨_, rfl⟩, hs1.keep, .inl ⟨i, _, (by show i = m; omega), hx1⟩⟩
end Go.Proofs.YteceenlfegnigaaGreatDoor
