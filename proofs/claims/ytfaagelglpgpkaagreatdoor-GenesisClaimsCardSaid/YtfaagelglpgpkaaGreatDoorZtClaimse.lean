import Derived.Test.YtfaagelglpgpkaaGreatDoorZtClaimsd
set_option maxRecDepth 100000
namespace Go.Proofs.YtfaagelglpgpkaaGreatDoor
set_option linter.all false
open Go.SL Go.RowKit Go.Shelf
variable {af : Array Edge} {args : Array Operand} {at_ : Array TypeId} {Y rt : BS} {pr : BS × BS → Bool} {own rs : Bool} {g : FuncId} {dp f : Int} {E E' L0 Lr R Rl : Jx} {slots : List (BS × BS)} {accts xs : List AcL} {a ts : List Nat} {caps sp vs : List Value} {us : List Vl} {α : Type} {ys : List α} {N b c cap d e e1 e2 i j m o off rb rv sz : Nat} {fr : Nat × Nat} {x y : Operand} {gd : Option (Nat × Bool)} {pb pi : Pl} {P : Program} {row : QC} {r rc : Rec} {s : StL} {ps : String} {t x0 : Ty} {ty : TypeId} {z : Value} {q v : Vl} {w : World} {X : XP} {kf : α → BS} {LL : α → Jx} {V : α → Value}
section
variable {c : Cx} {l : KQ} {L : Jx} {X : XP} {d : List Deferred} {i : Nat} {ps : String} {af : Array Edge} {gd : Option (Nat × Bool)} {ty : TypeId}
theorem Jg4 {b : List UInt8} {r n : Nat} {cs : Array Value} {e src dst : TypeId} (hx : Kx l x = some (.slice (some ⟨r, off, none⟩) n cap)) (hk : known c L r (.cells cs e fr)) (hn : n = b.length) (ht : (cs.toList.drop off).take b.length = b.map bV)
  (hs : KH c.P src = some e) (he : c.P.underlying e = some (.int .u8)) (hd : yJ c.P dst = true) :
  JM c d l L X ⟨some i, .convert src dst x, ty, ps, af, gd⟩ (.string (bs b)) := fun a' w hf hst => by
 subst hn; simp only [execOp]; rw [hf.eval hx]
 have hget := hst.known hk
 have hl : (loadCells ⟨r, off, none⟩ (b.map bV).length).run c.P w = .ok (b.map bV).toArray w := run_loadCells_list w ⟨r, off, none⟩ (b.map bV) fun j v hj => by
  have hlt := (List.getElem?_eq_some_iff.1 hj).1
  rw [List.length_map] at hlt
  have hj2 : cs[off + j]? = some v := by
   rw [← ht, List.getElem?_take, if_pos hlt, List.getElem?_drop] at hj
   simpa using hj
  rw [qk, VI hget]; exact hj2
 rw [List.length_map] at hl; simp only [Sem.run_bind]; rw [run_convert_bytes_string w src dst e _ _ _ (Ky hs) he (Vr hd)]; rw [run_bytesToString w _ _ _ (b.map fun x => ((x.toNat : Nat) : Int)) MD]
 have := jl b []
 rw [show (bs [] : ByteArray) = ByteArray.empty from rfl] at this; rw [this]
 rfl
end
def WI (s : BS) (i : Nat) : BS := (s.drop (32 * i)).take 32
def vO (s : BS) : Nat := (s.length + 31) / 32
def jC (s : BS) (m : Nat) : List BS := (List.range m).map fun i => jM (WI s i)
def Wo (s : BS) : List BS := jC s (vO s)
theorem Jti (s : BS) (m : Nat) : (jC s m).length = m := by unfold jC; rw [List.length_map, List.length_range]
theorem Yb (s : BS) : (Wo s).length = vO s := Jti _ _
theorem Yc (s : BS) (i : Nat) : (WI s i).length = min 32 (s.length - 32 * i) := by unfold WI; rw [List.length_take, List.length_drop]
theorem Ja8 (s : BS) (i : Nat) : V1 (jC s (i + 1)) = V1 (jC s i) ++ [J5 (jM (WI s i))] := by
 unfold jC
 rw [List.range_succ, List.map_append, List.map_cons, List.map_nil, Wf]
theorem VL (s : BS) : ∀ x ∈ Wo s, x.length = 32 := by
 intro x hx
 unfold Wo jC at hx
 obtain ⟨i, _, rfl⟩ := List.mem_map.1 hx
 exact qx (by rw [Yc]; omega)
theorem Jtj (s : BS) (i : Nat) (sp : List Value) : ((s.map bV ++ sp).toArray.toList.drop (32 * i)).take (WI s i).length = (WI s i).map bV := by
 simp only [List.toList_toArray]; rw [Yc]
 by_cases h : 32 * i ≤ s.length
 ·rw [List.drop_append_of_le_length M6, List.take_append_of_le_length Mr]
  unfold WI
  rw [List.map_take, List.map_drop]
  rcases Nat.le_total 32 (s.length - 32 * i) with h2 | h2
  ·rw [Nat.min_eq_left h2]
  ·rw [Nat.min_eq_right h2, List.take_of_length_le Mr, List.take_of_length_le Mr]
 ·unfold WI
  rw [show s.length - 32 * i = 0 by omega, Nat.min_zero, List.take_zero, List.drop_of_length_le m5]; rfl
theorem Jo3 (s : BS) (i : Nat) : (s.take (min (32 * i + 32) s.length)).drop (32 * i) = WI s i := by
 unfold WI
 rw [List.drop_take]
 rcases Nat.le_total (32 * i + 32) s.length with h | h
 ·rw [Nat.min_eq_left h, show 32 * i + 32 - 32 * i = 32 by omega]
 ·rw [Nat.min_eq_right h, List.take_of_length_le N1, List.take_of_length_le N1]
def chM (rb n cap : Nat) (p : Nat × Nat) : Jx := [(p.2, .cells #[.int .i64 32] 3 (0, 0)), (p.1, .cells #[.slice (some ⟨rb, 0, none⟩) n cap] 66 (0, 0))]
theorem Jtk (rb n cap : Nat) : PureE (α := Nat × Nat) Tryz.prog 108 [.slice (some ⟨rb, 0, none⟩) n cap, .int .i64 32].toArray (fun p => .func (.func 175) #[] #[Wn p.1, Wn p.2]) (chM rb n cap) := by
 refine Kq Tryz.func108 O O fun w => NB fun r1 r2 => ?_; refine Goc 10 [0] O O (J7 O (fun h4 => ?_) (fun h4 => ?_))
 exact absurd h4 m7
 ·try simp only [ZZ] at h4
  refine gZ ?_; refine kJ ?_; exact gu
def Jjm (rb n j : Nat) : List Value := [.slice (some ⟨rb, 32 * j, none⟩) (min 32 (n - 32 * j)) (min 32 (n - 32 * j))]
theorem Jtl {n : Nat} (hn : N = (n + 31) / 32) (hcap : n ≤ cap) (hlim : n ≤ 1000000) (p1 p2 : Nat) : ql Tryz.prog 175 [Wn p1, Wn p2] (chM rb n cap (p1, p2)) 0 (nxN (Jjm rb n) N) (xO N) := by
  refine VA Tryz.func175 O O fun q xids w2 XI XF hY => FA ?_; refine Jw (σ := Nat) (fun i => i ≤ N) (fun i => [(0, .func (.yield q) #[] #[]), (1, Wn p1), (2, Wn p2), (4, .int .i64 ((32 * i : Nat) : Int))]) (fun _ => []) (fun i => XI i) (fun i => N - i) 0 (Nat.zero_le _) (lK O) (List.nil_sublist _) (fun _ _ h => h) ?_; intro i hi; refine gZ ?_; refine GR ?_; refine kF ?_; refine ki ?_; refine cD (fun g => ?_) fun g => ?_
  · refine gk ?_
    obtain ⟨M, hM⟩ : ∃ M, M = min 32 (n - 32 * i) := ⟨_, rfl⟩
    have hM1 : M ≤ 32 := by omega
    have hM2 : 0 < M := by omega
    refine FM ?_; refine Ja O O O (Ke (kl := some (32 * i)) (kh := none) (km := none) (sz := 1) (m := 32 * i) (q := n) (z := cap) O O O ⟨_, rfl⟩ trivial trivial O O O m5 hcap (Nat.le_refl _) (fun _ => rfl) O) (Ja O O O (Kc O O) ?_)
    refine Ja O O O (Jig (r := ((M : Nat) : Int)) O O (by rw [hM]; split <;> omega)) ?_; refine NP ?_; refine kL ?_; refine GR ?_; refine Ge ?_; refine Jq nB ?_; refine JH 3 O ?_; refine Jq nB ?_
    refine LR O (Ke (kl := some (32 * i)) (kh := some (32 * i + M)) (km := some (32 * i + M)) (sz := 1) (m := 32 * i) (q := 32 * i + M) (z := 32 * i + M) (off' := 32 * i) O O O ⟨_, rfl⟩ ⟨_, rfl⟩ ⟨_, rfl⟩ O O O m5 (Nat.le_refl _) m5 (fun h => by cases h) mq) ?_; refine Jq (show _ = Value.slice (some ⟨rb, 32 * i, none⟩) (min 32 (n - 32 * i)) (min 32 (n - 32 * i)) from by congr 1 <;> omega) ?_; refine VV (XT := XI (i + 1)) (XF := XF) O O O O (hY i (Jjm rb n i) (i + 1) ⟨by omega, rfl, rfl⟩) ?_ ?_
    all_goals (
     refine D5 ?_; refine J7 O (fun g => ?_) (fun g => ?_)
     · try exact Bool.noConfusion g
       all_goals try simp only [ZZ] at g
       all_goals (
        exact Nr
        skip)
     · try exact Bool.noConfusion g
       all_goals try simp only [ZZ] at g
       all_goals (
        refine gn ?_; refine gF ?_
        refine Ff ?_; refine Jq nz (Dn ?_); exact kI
        skip)
     skip)
  · exact D1
theorem J36 {s : BS} (hl : s.length ≤ 1000000) : PureT (α := { row : QC // rowOk 1 (vO s) (V1 (Wo s)) row }) Tryz.prog 218 [J5 s].toArray (fun x => J9 (vO s) x.1) [] (fun x => JE 9 (V1 (Wo s)) x.1) [] := by
 obtain ⟨N, hN⟩ : ∃ N, N = vO s := ⟨_, rfl⟩
 have hN2 : N = (s.length + 31) / 32 := hN
 have hC : Wo s = jC s N := by rw [hN]; rfl
 rw [hC, ← hN]; refine J4 Tryz.func218 O O fun w => E3 ?_; refine LN O fun r1 => Gu ?_; refine Yo O O O O O O fun rb kb => Kj O O O (enters_of Tryz.func108 m6 O) (Jtk rb s.length (s.length + kb)) fun pp => ?_
 obtain ⟨p1, p2⟩ := pp
 change HL _ _ _ [(p2, _), (p1, _), (rb, _), (r1, _)] _ _ _ _; refine ki ?_; refine Vz [3, 0, 1, 2] (L' := [_, _, _, _]) m7 O ?_
 refine WS (τ := Unit) (fun i (q : Nat × QC) => i ≤ N ∧ i = q.1 ∧ rowOk 1 q.1 (V1 (jC s q.1)) q.2) (fun q => (r1, .cells #[J9 q.1 q.2] 184 (0, 0)) :: JE 9 (V1 (jC s q.1)) q.2) (fun _ _ => False) (fun _ => []) [(p2, _), (p1, _), (rb, _)] (0, none) O O (enters_of Tryz.func175 m6 O) (Jtl (rb := rb) (cap := s.length + kb) hN2 m5 hl p1 p2) mE O (fun q hq => .inl (by rcases List.mem_cons.1 hq with rfl | hq; exact List.mem_cons_self; rw [List.mem_singleton.1 hq]; exact List.mem_cons_of_mem _ List.mem_cons_self)) O ⟨Nat.zero_le _, rfl, rfl, rfl⟩ ?_ ?_ ?_
 rintro q Xr Xb w3 i _ _ ⟨i2, row⟩ ⟨hii, rfl, rfl⟩ ⟨him, he, hrow⟩ Kr hKr; refine inR ?_
 simp only at he
 obtain rfl := he
 simp only at hrow
 unfold Jjm
 refine Kk 3 O (F2 ?_); clear hKr; refine HS ?_
 have hfull := Jjk (s := WI s i) (by rw [Yc]; omega)
 have hsn := Ja8 s i
 obtain ⟨sv, hsv⟩ : ∃ x, x = jM (WI s i) := ⟨_, rfl⟩
 rw [← hsv] at hfull hsn
 refine JI [] [(1, .pure), (3, .pure), (4, .grow (Vu (slV 1) (.cells #[J5 sv] 9 (0, 0))))] 5 [0, 1, 2, 3, 4] m6 m6 m8 (JY (k := 0) O O O O O (Je (v := J9 i row) O (kn 0 O) O O) (Jm (k := 1) O O O O O (fun _ hS => (Jg O)) (JY (k := 2) O O O O O (Jg4 (b := WI s i) O (JF (k := 2) O) (Yc s i).symm (Jtj s i _) O O O) (Qq (k := 3) O O O O O Jr6 hfull (Va (k := 4) (n := 1) (sz := 1) (vs := [_]) (zs := [_]) (r := [J5 sv]) O O O O O O O O O O O mg O fun rv => Ka (JA (L0 := [_, _]) (xs := V1 (jC s i)) (row := row) (n := i) (sz := 1) (b := 16) (news := [J5 sv]) (List.perm_append_comm (l₁ := [_, _])) O O O O (kn 0 O) O O O O O m7 O O O m7 hrow m5 m5 fun ra cap sp hra => Ko (k := 2) (cs' := #[J9 (i + 1) (some (ra, cap, sp))]) O O O O O O O O O O (J1 2 O (KU [2, 0] (L' := [_, _]) m7 O ?_)))))))); exact Qa (i + 1, some (ra, cap, sp)) ⟨by omega, rfl, by simp only; rw [hsn]; exact hra⟩ (by simp only; rw [hsn]; rfl)
 rintro D i ⟨i2, row⟩ hfi ⟨him, he, hrow⟩
 simp only at he hrow
 obtain rfl : N = i := Eq.symm hfi
 obtain rfl := he
 refine gqo 4 O (LR O (Je (v := J9 N row) O (kn 1 O) O O) (gM ?_)); refine HK ?_; refine NW fun w1 hs1 => ?_; exact ⟨⟨row, hrow⟩, rfl, hs1.weakL (.cons _ (.cons _ (List.sublist_append_left _ _)))⟩
 ·exact Gh
theorem Jtm {n : Nat} (hn : n ≤ 4611686018427387904) : Pure Tryz.prog 220 [.int .i64 (n : Int)].toArray (.int .i64 (((n + 31) / 32 : Nat) : Int)) := by
 refine Jl Tryz.func220 O O fun w => ?_; refine kV ?_; refine Jq (show _ = Value.int .i64 ((n + 32 : Nat) : Int) from by rw [wrap_i64 m5 m5]; congr 1 <;> omega) ?_
 refine Ff ?_; refine Jq (show _ = Value.int .i64 ((n + 31 : Nat) : Int) from by rw [wrap_i64 m5 m5]; congr 1 <;> omega) ?_; refine QN O (Jq (show _ = Value.int .i64 (((n + 31) / 32 : Nat) : Int) from congrArg (Value.int .i64) (Ku m5 m7 m5)) (J1 4 rfl ?_)); exact Nz
theorem Jo4 {s : BS} (hl : s.length ≤ 1000000) : PureT (α := { row : QC // rowOk 1 (vO s) (V1 (Wo s)) row }) Tryz.prog 143 [J5 s].toArray (fun x => J9 (vO s) x.1) [] (fun x => JE 9 (V1 (Wo s)) x.1) [] := by
 obtain ⟨N, hN⟩ : ∃ N, N = vO s := ⟨_, rfl⟩
 have hN2 : N = (s.length + 31) / 32 := hN
 have hC : Wo s = jC s N := by rw [hN]; rfl
 rw [hC, ← hN]; refine J4 Tryz.func143 O O fun w => JJ (JC 17 O (Jw (σ := Nat × QC) (fun q => q.1 ≤ N ∧ rowOk 1 q.1 (V1 (jC s q.1)) q.2) (fun q => [(0, J5 s), (3, J9 q.1 q.2), (4, .int .i64 ((32 * q.1 : Nat) : Int))]) (fun q => JE 9 (V1 (jC s q.1)) q.2) (fun _ _ _ => True) (fun q => N - q.1) (0, none) ⟨Nat.zero_le _, rfl, rfl⟩ (lK O) (List.Sublist.refl _) (fun _ _ h => h) ?_)); rintro ⟨i, row⟩ ⟨hi1, hrow⟩; simp only at hi1 hrow; change HC _ _ [(0, J5 s), (3, J9 i row), (4, .int .i64 ((32 * i : Nat) : Int))] (JE _ (V1 (jC s i)) row) _ _ _; refine gn ?_; refine gt ?_; refine ki ?_; refine cD (fun g => ?_) fun g => ?_
 ·refine gk ?_
  have hil : 32 * i < s.length := by omega
  obtain ⟨E, hE⟩ : ∃ E, E = min (32 * i + 32) s.length := ⟨_, rfl⟩
  obtain ⟨P, hPd⟩ : ∃ P, P = WI s i := ⟨_, rfl⟩
  have hP : (s.take E).drop (32 * i) = P := by rw [hPd, hE]; exact Jo3 s i
  have hPl : P.length ≤ 32 := by rw [hPd, Yc]; omega
  have hsn := Ja8 s i
  rw [← hPd] at hsn
  obtain ⟨sv, hsv⟩ : ∃ x, x = jM P := ⟨_, rfl⟩
  rw [← hsv] at hsn; refine gn ?_; refine Jq (show _ = Value.int .i64 ((32 * i + 32 : Nat) : Int) from by rw [wrap_i64 m5 m5]; congr 1 <;> omega) ?_; refine Q1 O (LR O (Kp O O) ?_)
  refine LR O (Jig (r := ((E : Nat) : Int)) O O (by rw [hE]; split <;> omega)) ?_; refine LR O (Y6 (kl := some (.i64, ((32 * i : Nat) : Int))) (kh := some (.i64, (E : Int))) (m := 32 * i) (n := E) (r := P) O O O O O O m5 m5 hP) ?_; refine gY ?_; refine gt ?_
  refine Ff ?_; refine Jq (show _ = Value.int .i64 ((32 - P.length : Nat) : Int) from by rw [wrap_i64 m5 m5]; congr 1 <;> omega) ?_; refine V2 (n := 32 - P.length) (b := 1) O O O O O O O O O m5 m5 fun rm => ?_; refine LR O (Kw (b := List.replicate (32 - P.length) 0) (row := some (rm, 32 - P.length, [])) (e := 5) (show _ = some (J9 (List.replicate (32 - P.length) (0 : UInt8)).length _) from by rw [List.length_replicate]; rfl) ⟨by simp, by simp⟩ (fun p hp => .inl (by rw [List.mem_singleton.1 hp, List.append_nil, List.map_replicate]; exact List.mem_cons_self)) O O O) ?_; refine LR O (KB (a := P) (b := List.replicate (32 - P.length) 0) O O (by rw [List.length_replicate]; omega)) ?_; refine Jq (show _ = J5 sv from by rw [hsv]; rfl) ?_; refine kj fun r1 => ?_; refine JA (L0 := [_, _]) (xs := V1 (jC s i)) (row := row) (n := i) (sz := 1) (b := 16) (news := [J5 sv]) (List.perm_append_comm (l₁ := [_, _])) O O O O (kn 0 O) O O O O O m7 O O O m7 hrow m5 m5 fun ra cap sp hra => ?_; refine gY ?_; refine Jq nz ?_; refine Dn ?_; refine KU [0] (L' := [_]) m7 O ?_; exact Jo (i + 1, some (ra, cap, sp)) ⟨by simp only; omega, by simp only; rw [hsn]; exact hra⟩ mh (lK O) (by simp only; rw [hsn]; exact List.Sublist.refl _) (fun _ _ h => h)
 ·refine NO ?_
  obtain rfl : i = N := by omega
  refine Kk 6 O (NW fun w1 hs1 => ?_); exact ⟨⟨row, hrow⟩, rfl, hs1⟩
def WJ (x : Ty) : Bool := decide (x.k = 1) || decide (x.k = 2)
def WK (items : List Vl) (x : Ty) : BS := (items.map fun v => Vj v x).flatten
def VS (k n : Int) (ins : List Ty) (items : List Vl) (rs : List BS) : BS :=
 if k = 7 then QY rs ins.length else if WJ (ins.getD 0 default) = true then QY (Wo (WK items (ins.getD 0 default))) ((n.toNat * (KX (ins.getD 0 default)).toNat + 31) / 32) else QY rs n.toNat
mutual
def KZ : Vl → Ty → BS
 | .mk a b c d bits _ items _ pick, t =>
  if t.k = 1 ∨ t.k = 2 then yY [a, b, c, d] 32 else if t.k = 4 then Yj (VS t.k t.n t.ins items (Kg items t.k pick t.ins 0)) items.length
  else if t.k = 5 then QY (Wo (WB bits)) ((t.n.toNat + 255) / 256) else if t.k = 6 then Yj (QY (Wo (WB bits)) ((t.n.toNat + 255) / 256)) bits.length
  else if t.k = 8 then Yj ((Kg items t.k pick t.ins 0).headD []) pick.toNat else VS t.k t.n t.ins items (Kg items t.k pick t.ins 0)
def Kg : List Vl → Int → Int → List Ty → Nat → List BS
 | [], _, _, _, _ => []
 | x :: xs, k, pick, ins, i => KZ x (JT k pick ins i) :: Kg xs k pick ins (i + 1)
end
section
variable {a b c d : Nat} {bits : List Bool} {pb : Pl} {items : List Vl} {pi : Pl} {pick k n : Int} {p : Pl} {ins : List Ty}
theorem Xu : KZ (.mk a b c d bits pb items pi pick) (.mk k n p ins) = if k = 1 ∨ k = 2 then yY [a, b, c, d] 32 else if k = 4 then Yj (VS k n ins items (Kg items k pick ins 0)) items.length
  else if k = 5 then QY (Wo (WB bits)) ((n.toNat + 255) / 256) else if k = 6 then Yj (QY (Wo (WB bits)) ((n.toNat + 255) / 256)) bits.length
  else if k = 8 then Yj ((Kg items k pick ins 0).headD []) pick.toNat else VS k n ins items (Kg items k pick ins 0) := by rw [KZ]; rfl
end
theorem Vw : ∀ (l : List Vl) (k pick : Int) (ins : List Ty) (i : Nat), (Kg l k pick ins i).length = l.length
 | [], _, _, _, _ => by rw [Kg]; rfl
 | x :: xs, k, pick, ins, i => by rw [Kg, List.length_cons, Vw xs, List.length_cons]
theorem qU {k : Int} (h8 : k ≠ 8) (pick : Int) (ins : List Ty) : ∀ (l : List Vl) (i : Nat), Kg l k pick ins i = Kg l k 0 ins i
 | [], i => by rw [Kg, Kg]
 | x :: xs, i => by rw [Kg, Kg, qU h8 pick ins xs (i + 1), qS h8]
theorem WZ : ∀ {l : List Vl} {k pick : Int} {ins : List Ty} {i : Nat} {s : BS}, s ∈ Kg l k pick ins i → ∃ j x, l[j]? = some x ∧ s = KZ x (JT k pick ins (i + j))
 | [], _, _, _, _, _, h => by rw [Kg] at h; cases h
 | y :: ys, k, pick, ins, i, s, h => by
  rw [Kg] at h
  rcases List.mem_cons.1 h with rfl | h
  ·exact ⟨0, y, rfl, rfl⟩
  ·obtain ⟨j, x, h1, h2⟩ := WZ h
   exact ⟨j + 1, x, h1, by rw [h2, show i + 1 + j = i + (j + 1) by omega]⟩
theorem jQ (k : Int) (ins : List Ty) : ∀ {l : List Vl} {i j : Nat} {x : Vl}, l[j]? = some x → (Kg l k 0 ins i).take (j + 1) = (Kg l k 0 ins i).take j ++ [KZ x (JT k 0 ins (i + j))]
 | [], _, _, _, h => by simp at h
 | y :: ys, i, 0, x, h => by
  simp at h; subst h; rw [Kg]; rfl
 | y :: ys, i, j + 1, x, h => by
  rw [List.getElem?_cons_succ] at h; rw [Kg, List.take_succ_cons, List.take_succ_cons, jQ k ins h, show i + 1 + j = i + (j + 1) by omega]; rfl
theorem Jyu {k n : Int} {p : Pl} {ins : List Ty} {d : Int} (hk : 1 ≤ k ∧ k ≤ 8) (ho : Km k n ins.length = true) : chk (.mk k n p ins) d = if 6 ≤ d then 7 else Xx ins (d + 1) := by
 rw [chk, if_neg m5, if_neg (by rw [ho]; simp)]
theorem Ja9 : ∀ {ins : List Ty} {d : Int}, (∀ x ∈ ins, chk x d = 0) → Xx ins d = 0
 | [], _, _ => by rw [Xx]
 | x :: xs, d, h => by
  rw [Xx, if_pos (h x List.mem_cons_self)]; exact Ja9 fun y hy => h y (List.mem_cons_of_mem _ hy)
theorem Jo5 (t : Ty) : ∀ d : Int, chk t (d + 1) = 0 → chk t d = 0 := by
 induction t using Ty.ind with
 | h k n p ins ih =>
  intro d h
  obtain ⟨hk, ho, h6, hi⟩ := QZ h
  rw [Jyu hk ho, if_neg m5]; exact Ja9 fun x hx => ih x hx (d + 1) (hi x hx)
theorem zU {t : Ty} : ∀ {d : Nat}, chk t (d : Int) = 0 → chk t 0 = 0
 | 0, h => h
 | d + 1, h => zU (d := d) (Jo5 t d (by rw [Int.natCast_add] at h; exact h))
theorem WL {k n : Int} {p : Pl} {ins : List Ty} (h : chk (.mk k n p ins) 0 = 0) : ∀ x ∈ ins, chk x 0 = 0 := fun x hx => zU (d := 1) ((QZ h).2.2.2 x hx)
theorem YJ {x : Ty} (hc : chk x 0 = 0) (hp : WJ x = true) : VD x = true ∧ 1 ≤ KX x ∧ KX x ≤ 32 ∧ ∀ v : Vl, Qd v x = 0 → ((Vj v x).length : Int) = KX x := by
 obtain ⟨k, n, p, ins⟩ := x
 obtain ⟨hk, hf, _, _⟩ := QZ hc
 have hk2 : k = 1 ∨ k = 2 := by
  unfold WJ at hp
  rw [Bool.or_eq_true] at hp; exact hp.imp of_decide_eq_true of_decide_eq_true
 unfold Km at hf
 have hins : ins.length = 0 := by
  rcases hk2 with rfl | rfl
  all_goals generalize ins.length = m at hf ⊢
  all_goals simp at hf
  all_goals omega
 have hi : ins = [] := List.length_eq_zero_iff.1 hins
 subst hi
 rcases hk2 with rfl | rfl
 ·have hn : 1 ≤ n ∧ n ≤ 32 := by simp at hf; omega
  refine ⟨WY.2 ⟨hc, by rw [WA, ZN]; rfl⟩, by rw [KX, if_pos rfl]; exact hn.1, by rw [KX, if_pos rfl]; exact hn.2, fun v _ => ?_⟩
  obtain ⟨a, b, c, d, bits, pb, items, pi, pick⟩ := v
  rw [Vf, if_pos rfl, KX, if_pos rfl, yj _ m5]; omega
 ·refine ⟨WY.2 ⟨hc, by rw [WA, ZN]; rfl⟩, by rw [KX, if_neg m7, if_pos rfl]; decide, by rw [KX, if_neg m7, if_pos rfl]; decide, fun v _ => ?_⟩
  obtain ⟨a, b, c, d, bits, pb, items, pi, pick⟩ := v
  rw [Vf, if_neg m7, if_pos rfl, KX, if_neg m7, if_pos rfl, yj _ m7]
  rfl
theorem jc {x : Ty} {z : Nat} : ∀ {items : List Vl}, (∀ v ∈ items, (Vj v x).length = z) → (WK items x).length = items.length * z
 | [], _ => by unfold WK; simp
 | v :: l, h => by
  have ih := jc (items := l) fun y hy => h y (List.mem_cons_of_mem _ hy)
  unfold WK at ih ⊢
  rw [List.map_cons, List.flatten_cons, List.length_append, ih, h v List.mem_cons_self, List.length_cons, Nat.succ_mul, Nat.add_comm]
theorem qV {a : Nat} {bits : List Bool} {items : List Vl} {pick k n : Int} {p : Pl} {ins : List Ty} (hc : chk (.mk k n p ins) dp = 0) (h : Qd (.mk a b c d bits pb items pi pick) (.mk k n p ins) = 0) :
  (k = 3 ∨ k = 4 → 1 ≤ n ∧ n ≤ 512 ∧ (items.length : Int) ≤ n ∧ ins.length = 1) ∧ (k = 5 ∨ k = 6 → 1 ≤ n ∧ n ≤ 512 ∧ (bits.length : Int) ≤ n) ∧ (k = 7 → items.length = ins.length ∧ 1 ≤ ins.length ∧ ins.length ≤ 16) := by
 obtain ⟨h1, h2, _⟩ := Wv h
 obtain ⟨hk, hf, _, _⟩ := QZ hc
 rw [VQ k n ins.length a b c d bits pb items pi pick _ rfl] at h2; simp only [VE] at h2
 unfold Km at hf
 have h9 : k = 1 ∨ k = 2 ∨ k = 3 ∨ k = 4 ∨ k = 5 ∨ k = 6 ∨ k = 7 ∨ k = 8 := by omega
 rcases h9 with rfl | rfl | rfl | rfl | rfl | rfl | rfl | rfl
 all_goals generalize items.length = I at *
 all_goals generalize bits.length = J at *
 all_goals generalize ins.length = K at *
 all_goals simp at h1 h2 hf ⊢
 all_goals omega
theorem jx {bits : List Bool} {n : Int} (h : (bits.length : Int) ≤ n) : (Wo (WB bits)).length ≤ (n.toNat + 255) / 256 := by
 rw [Yb]
 unfold vO
 rw [Y8]; omega
theorem Vx (v : Vl) : ∀ (t : Ty) (dp : Nat), chk t (dp : Int) = 0 → Qd v t = 0 → (KZ v t).length = 32 := by
 induction v using Vl.ind with
 | h a b c d bits pb items pi pick ih =>
 intro t dp hck hfit
 obtain ⟨k, n, p, ins⟩ := t
 obtain ⟨hk8, ho, h6, hci⟩ := QZ hck
 obtain ⟨hf1, hf2, hf3⟩ := Wv hfit
 obtain ⟨q1, q2, q3⟩ := qV hck hfit
 have hxl : ∀ i, i < items.length → W1 k pick i < ins.length := fun i hi => Zm (v := .mk a b c d bits pb items pi pick) hck hf2 hi
 have hrs : ∀ s ∈ Kg items k pick ins 0, s.length = 32 := fun s hs => by
  obtain ⟨j, x, h1, rfl⟩ := WZ hs
  have hlt := (List.getElem?_eq_some_iff.1 h1).1
  rw [Nat.zero_add]
  have hty := Qi (hxl j hlt)
  exact ih x (List.mem_of_getElem? h1) _ (dp + 1) (hci _ hty.2) (by have := VG hf3 h1; rwa [Nat.zero_add] at this)
 have hrl := Vw items k pick ins 0
 have hrow : k = 3 ∨ k = 4 ∨ k = 7 → (VS k n ins items (Kg items k pick ins 0)).length = 32 := fun hk => by
  unfold VS
  split
  ·rename_i h7
   exact Vv (by have := q3 h7; omega) hrs
  ·rename_i h7
   have := q1 m5
   split
   ·rename_i hp
    have hin0 : ins.getD 0 default ∈ ins := by
     match ins, this.2.2.2 with
     | [x], _ => exact List.mem_cons_self
    have hc0 : chk (ins.getD 0 default) 0 = 0 := WL (zU hck) _ hin0
    obtain ⟨f1, f2, f3, f4⟩ := YJ hc0 hp
    refine Vv ?_ (VL _); rw [Yb]
    unfold vO
    have hz : ∀ v ∈ items, (Vj v (ins.getD 0 default)).length = (KX (ins.getD 0 default)).toNat := fun v hv => by
     obtain ⟨j, hj⟩ := List.getElem?_of_mem hv
     have hg := VG hf3 hj
     rw [Nat.zero_add] at hg
     have he : JT k pick ins j = ins.getD 0 default := by unfold JT W1; rw [if_neg h7, if_neg m5]
     rw [he] at hg
     have := f4 v hg
     omega
    rw [jc hz]
    have hm : items.length * (KX (ins.getD 0 default)).toNat ≤ n.toNat * (KX (ins.getD 0 default)).toNat := Nat.mul_le_mul_right _ m5
    omega
   ·exact Vv m5 hrs
 rw [Xu]
 split
 ·exact yj _ (Nat.le_refl _)
 ·split
  ·exact jo _
  ·split
   ·rename_i h5
    exact Vv (jx (q2 m5).2.2) (VL _)
   ·split
    ·exact jo _
    ·split
     ·exact jo _
     ·exact hrow m5
def xV (s : List UInt8) (head : Nat) : List Ty → Nat → Nat → Bool → Option (List Nat)
  | [], _, _, op => if op = false ∧ head ≠ s.length then none else some [s.length]
  | x :: xs, at_, last, op => if VD x then xV s head xs (at_ + (KX x).toNat) last op else
      if (op = false ∧ leV ((s.drop at_).take 4) ≠ head) ∨ leV ((s.drop at_).take 4) < last ∨ s.length < leV ((s.drop at_).take 4) then none
      else (xV s head xs (at_ + 4) (leV ((s.drop at_).take 4)) true).map fun r => leV ((s.drop at_).take 4) :: r
mutual
def jy : Vl → Vl
 | .mk a b c d bits _ items _ pick => .mk a b c d bits none (yw items) none pick
def yw : List Vl → List Vl
 | [] => []
 | x :: xs => jy x :: yw xs
end
theorem Xi : ∀ l : List Vl, yw l = l.map jy
 | [] => by rw [yw]; rfl
 | x :: xs => by rw [yw, Xi xs]; rfl
def v0L : Vl := .mk 0 0 0 0 [] none [] none 0
def Qv (l : List Vl) (pick : Int) : Vl := .mk 0 0 0 0 [] none l none pick
def zV (k n : Int) (ins : List Ty) (s : List UInt8) : Nat × Int :=
 if k = 7 then (ins.length, 0) else if k = 3 then (n.toNat, 0) else if s = [] then (0, 0)
 else if VD (JT k 0 ins 0) then (if s.length % (KX (JT k 0 ins 0)).toNat ≠ 0 then (0, 2) else if n < ((s.length / (KX (JT k 0 ins 0)).toNat : Nat) : Int) then (0, 5) else (s.length / (KX (JT k 0 ins 0)).toNat, 0))
 else if s.length < 4 ∨ leV (s.take 4) % 4 ≠ 0 ∨ leV (s.take 4) = 0 then (0, 2) else if n < ((leV (s.take 4) / 4 : Nat) : Int) then (0, 5) else (leV (s.take 4) / 4, 0)
abbrev Gf : Type := List UInt8 → Vl × Int
def g0 : Gf := fun _ => (v0L, 0)
section
variable {a b c d : Nat} {bits : List Bool} {pb : Pl} {items : List Vl} {pi : Pl} {pick k n : Int} {p : Pl} {ins : List Ty}
theorem Jdk (hc : chk (.mk k n p ins) 0 = 0) (h : Qd (.mk a b c d bits pb items pi pick) (.mk k n p ins) = 0) (h8 : k ≠ 8) {x : Vl} (hx : items[j]? = some x) : ins[W1 k 0 j]? = some (JT k 0 ins j) ∧ JT k 0 ins j ∈ ins ∧ chk (JT k 0 ins j) 0 = 0 ∧ Qd x (JT k 0 ins j) = 0 := by
 obtain ⟨_, h2, h3⟩ := Wv h
 have hlt := (List.getElem?_eq_some_iff.1 hx).1
 have hin := Zm (v := .mk a b c d bits pb items pi pick) hc h2 hlt
 have hg := VG h3 hx
 rw [Nat.zero_add, qS h8] at hg
 have e : W1 k (Vl.pick (.mk a b c d bits pb items pi pick)) j = W1 k 0 j := by unfold W1; rw [if_neg h8, if_neg h8]
 rw [e] at hin
 have hty := Qi hin
 exact ⟨hty.1, hty.2, WL hc _ hty.2, hg⟩
end
theorem Xa (a b c d : Nat) (bits : List Bool) (pb : Pl) (items : List Vl) (pi : Pl) (pick : Int) : jy (.mk a b c d bits pb items pi pick) = .mk a b c d bits none (yw items) none pick := by rw [jy]
theorem Jmd (k pick : Int) (ins : List Ty) : ∀ (l : List Vl), (∀ x ∈ l, ∀ t, Vj (jy x) t = Vj x t) → ∀ i : Nat, Qr (yw l) k pick ins i = Qr l k pick ins i
 | [], _, i => by rw [yw]
 | x :: xs, h, i => by rw [yw, Qr, Qr, h x List.mem_cons_self, Jmd k pick ins xs (fun y hy => h y (List.mem_cons_of_mem _ hy))]
theorem J2b (v : Vl) : ∀ t, Vj (jy v) t = Vj v t := by
 induction v using Vl.ind with
 | h a b c d bits pb items pi pick ih =>
 intro t
 obtain ⟨k, n, p, ins⟩ := t
 rw [Xa, Vf, Vf, Jmd k pick ins items ih]
theorem Jg5 (k pick : Int) (ins : List Ty) : ∀ (l : List Vl), (∀ x ∈ l, ∀ t, KZ (jy x) t = KZ x t) → ∀ i : Nat, Kg (yw l) k pick ins i = Kg l k pick ins i
 | [], _, i => by rw [yw]
 | x :: xs, h, i => by rw [yw, Kg, Kg, h x List.mem_cons_self, Jg5 k pick ins xs (fun y hy => h y (List.mem_cons_of_mem _ hy))]
theorem Jyv (x : Ty) (l : List Vl) : WK (yw l) x = WK l x := by
 unfold WK
 rw [Xi, List.map_map]
 congr 1
 exact List.map_congr_left fun v _ => J2b v x
theorem Jme (v : Vl) : ∀ t, KZ (jy v) t = KZ v t := by
 induction v using Vl.ind with
 | h a b c d bits pb items pi pick ih =>
 intro t
 obtain ⟨k, n, p, ins⟩ := t
 have hl : (yw items).length = items.length := by rw [Xi, List.length_map]
 rw [Xa, Xu, Xu, Jg5 k pick ins items ih, hl]
 unfold VS
 rw [Jyv]
theorem chkL_mem : ∀ {ins : List Ty} {d : Int}, Xx ins d = 0 → ∀ x ∈ ins, chk x d = 0
 | [], _, _, x, hx => by cases hx
 | y :: ys, d, h, x, hx => by
  rw [Xx] at h
  by_cases h1 : chk y d = 0
  ·rw [if_pos h1] at h
   rcases List.mem_cons.1 hx with rfl | hx
   ·exact h1
   ·exact chkL_mem h x hx
  ·rw [if_neg h1] at h; exact absurd h h1
structure VR (v : Vl) : Type where
  x : Vl
  L : Jx
  ok : x.In L
  er : jy x = v
theorem u0 : Wr 0 := by unfold Wr; omega
theorem i0 : ZI 0 := by unfold ZI; omega
def zX : List Ty → Nat → List Nat → List (Ty × Nat × Nat)
 | [], _, _ => []
 | x :: xs, a, os => if VD x then (x, a, a + (KX x).toNat) :: zX xs (a + (KX x).toNat) os else (x, os.getD 0 0, os.getD 1 0) :: zX xs (a + 4) os.tail
theorem Jba : ∀ (ts : List Ty) (a : Nat) (os : List Nat), (zX ts a os).length = ts.length
 | [], _, _ => rfl
 | x :: xs, a, os => by rw [zX]; split <;> rw [List.length_cons, Jba xs, List.length_cons]
def cV : List Ty → Nat
 | [] => 0
 | x :: xs => if VD x then cV xs else cV xs + 1
def Jtn : List Ty → Int
 | [] => -1
 | x :: xs => if 0 ≤ Jtn xs then Jtn xs + 1 else if VD x then -1 else 0
def J2c (k n : Int) (ins : List Ty) (s : BS) : List Nat × Int :=
 if (zV k n ins s).2 ≠ 0 then ([], (zV k n ins s).2)
 else if (s.length : Int) < Vc (Wg k ins (zV k n ins s).1) then ([], 2)
 else match xV s (Vc (Wg k ins (zV k n ins s).1)).toNat (Wg k ins (zV k n ins s).1) 0 (Vc (Wg k ins (zV k n ins s).1)).toNat false with
  | none => ([], 2)
  | some os => (os, 0)
theorem row_some {n : Nat} {xs : List Value} (h : rowOk sz n xs row) (h0 : 0 < n) : ∃ r cap sp, row = some (r, cap, sp) := by
 cases row with
 | none => have := h.1; omega
 | some q => obtain ⟨r, cap, sp⟩ := q; exact ⟨r, cap, sp, rfl⟩
def psI (s : BS) (TY : List Ty) (i : Nat) (pre : List Nat) : List (Ty × Nat × Nat) := zX (TY.take i) 0 (pre ++ [s.length])
structure PInv (s : BS) (H : Nat) (TY : List Ty) (i A la : Nat) (op : Int) (pre : List Nat) : Prop where
  le : i ≤ TY.length
  cv : pre.length = cV (TY.take i)
  opv : op = Jtn (TY.take i)
  at_ : (A : Int) = Vc (TY.take i)
  off : xV s H TY 0 H false = (xV s H (TY.drop i) A la (decide (0 ≤ op))).map (pre ++ ·)
section
variable {s : BS} {H : Nat} {TY : List Ty} {i A la : Nat} {op : Int} {pre : List Nat} {x : Ty}
theorem PInv.start : PInv s H TY 0 0 H (-1) [] := ⟨Nat.zero_le _, rfl, rfl, rfl, by rw [List.drop_zero, show decide ((0 : Int) ≤ -1) = false from rfl]; cases xV s H TY 0 H false <;> rfl⟩
theorem jR {l : List α} {x : α} (h : l[i]? = some x) : l.take (i + 1) = l.take i ++ [x] := by rw [List.take_add_one, h]; rfl
theorem Jjn {l : List α} {x : α} (h : l[i]? = some x) : l.drop i = x :: l.drop (i + 1) := by
 exact EN
theorem PInv.len (h : PInv s H TY i A la op pre) : (psI s TY i pre).length = i := by unfold psI; rw [Jba, List.length_take, Nat.min_eq_left h.le]
theorem PInv.bad (h : PInv s H TY i A la op pre) (hx : TY[i]? = some x) (hf : VD x = false) {v : Nat} (hv : v = leV ((s.drop A).take 4)) (hb : (¬ 0 ≤ op ∧ v ≠ H) ∨ v < la ∨ s.length < v) : xV s H TY 0 H false = none := by
 subst hv
 rw [h.off, Jjn hx, xV, if_neg (by rw [hf]; decide), if_pos (by
  rcases hb with ⟨h1, h2⟩ | h1
  ·exact .inl ⟨by simp [h1], h2⟩
  ·exact .inr h1)]
 rfl
theorem PInv.done (h : PInv s H TY TY.length A la op pre) : psI s TY TY.length pre = zX TY 0 (pre ++ [s.length]) ∧ xV s H TY 0 H false = if ¬ 0 ≤ op ∧ H ≠ s.length then none else some (pre ++ [s.length]) := by
 refine ⟨by unfold psI; rw [List.take_length], ?_⟩; rw [h.off, List.drop_length, xV]
 by_cases hc : ¬ 0 ≤ op ∧ H ≠ s.length
 ·rw [if_pos hc, if_pos ⟨by simp [hc.1], hc.2⟩]; rfl
 ·rw [if_neg hc, if_neg (by rintro ⟨g1, g2⟩; exact hc ⟨by simpa using g1, g2⟩)]; rfl
end
abbrev psT (k n : Int) (ins : List Ty) (s : BS) : List (Ty × Nat × Nat) := zX (Wg k ins (zV k n ins s).1) 0 (J2c k n ins s).1
open Go.Proofs (Enters enters_of)
section
variable {k n : Int} {p : Pl} {ins : List Ty} {s : BS}
variable (hnf : ¬ (VD (.mk k n p ins) = true ∧ (s.length : Int) ≠ KX (.mk k n p ins)))
include hnf
end
theorem qW {vs : List Vl} {p : Pl} {pick : Int} (hl : vs.length ≤ 9223372036854775807) (hs : Seg Lr vs.length (Ql vs) p) (hE : ∀ x ∈ vs, x.In E) (hp : ZI pick) : Vl.In (Lr ++ E) (.mk 0 0 0 0 [] none vs p pick) :=
 .mk u0 u0 u0 u0 m7 rfl hl (hs.mono fun q hq => List.mem_append_left _ hq) hp fun x hx => (hE x hx).mono fun q hq => List.mem_append_right _ hq
theorem qX {c : Cx} {d : List Deferred} {l : KQ} {L L' : Jx} {K : Act → World → Prop} (hp : L.Perm L') (h : HQ c d l L' X K) : HQ c d l L X K := fun a w hf hs => h a w hf (hs.perm hp)
mutual
def Zs : Ty → Ty
 | .mk k n _ ins => .mk k n none (XE ins)
def XE : List Ty → List Ty
 | [] => []
 | x :: xs => Zs x :: XE xs
end
theorem zY : ∀ l : List Ty, XE l = l.map Zs
 | [] => by rw [XE]; rfl
 | x :: xs => by rw [XE, zY xs]; rfl
theorem zZ (l : List Ty) : (XE l).length = l.length := by rw [zY, List.length_map]
structure TR (t : Ty) : Type where
  x : Ty
  L : Jx
  ok : x.In L
  er : Zs x = t
def byT : Ty := .mk 1 1 none []
def Yk (k n : Int) : Ty := .mk k n none [byT]
def Jdl : Ty := .mk 7 0 none [Yk 3 32, Yk 3 32]
def acT : Ty := .mk 7 0 none [Yk 3 20, .mk 1 8 none [], .mk 1 32 none [], Yk 4 512, .mk 4 16 none [Jdl]]
def ZG : Ty := .mk 4 32 none [acT]
theorem Jto {k n : Int} (hk : ZI k) (hn : ZI n) : PureT (α := Nat) Tryz.prog 101 [.int .i64 k, .int .i64 n].toArray (fun r => .agg #[.int .i64 k, .int .i64 n, .slice (some ⟨r, 0, none⟩) 1 1]) [] (fun r => [(r, .cells #[.int .i64 1, .int .i64 1, .slice none 0 0] 84 (0, 0))]) [] := by
 refine J4 Tryz.func101 O O fun w => Nj fun r1 => ?_; refine Gu ?_; exact gq
theorem yx {k n : Int} (hk : ZI k) (hn : ZI n) : PureT (α := Nat) Tryz.prog 145 [.int .i64 k, .int .i64 n].toArray (fun r => .agg #[.int .i64 k, .int .i64 n, .slice (some ⟨r, 0, none⟩) 1 1]) [] (fun r => [(r, .cells #[.int .i64 1, .int .i64 1, .slice none 0 0] 84 (0, 0))]) [] := by
 refine J4 Tryz.func145 O O fun w => Nj fun r1 => ?_; refine Gu ?_; exact gq
abbrev Jo6 (e : Nat) : Obj := .cells #[.int .i64 1, .int .i64 1, .slice none 0 0] e (0, 0)
def Jo7 (k n : Int) (x : Nat) : Ty := .mk k n (some (⟨x, 0, none⟩, 1)) [byT]
def J37 (x y r : Nat) : Ty := .mk 7 0 (some (⟨r, 0, none⟩, 2)) [Jo7 3 32 x, Jo7 3 32 y]
def acX (x y x2 x3 r s a : Nat) : Ty := .mk 7 0 (some (⟨a, 0, none⟩, 5)) [Jo7 3 20 x2, .mk 1 8 none [], .mk 1 32 none [], Jo7 4 512 x3, .mk 4 16 (some (⟨s, 0, none⟩, 1)) [J37 x y r]]
def Jo8 (x y x2 x3 r s a z : Nat) : Ty := .mk 4 32 (some (⟨z, 0, none⟩, 1)) [acX x y x2 x3 r s a]
theorem Jg6 {k n : Int} {ins : List Ty} {r : Nat} {all : Array Value} (hk : ZI k) (hn : ZI n) (hm : (r, Obj.cells all e (0, 0)) ∈ R) (ha : all.toList = Jci ins) (hl : ins.length = m) (hl2 : m ≤ 100) (hi : ∀ x ∈ ins, x.In R) : Ty.In R (.mk k n (some (⟨r, 0, none⟩, m)) ins) :=
 .mk hk hn m5 ⟨Nat.le_of_eq hl, fun _ => ⟨rfl, all, e, (0, 0), hm, by rw [List.drop_zero, ha, List.take_length]⟩⟩ hi
theorem Jdm {k n : Int} (hk : ZI k) (hn : ZI n) : Ty.In R (.mk k n none []) := .mk hk hn m7 rfl (fun x hx => nomatch hx)
theorem yy {k n : Int} {x : Nat} (hk : ZI k) (hn : ZI n) (h : (x, Jo6 e) ∈ R) : (Jo7 k n x).In R :=
 Jg6 hk hn h rfl rfl m7 fun y hy => by rw [List.mem_singleton.1 hy]; exact Jdm mP mP
theorem YK {n : Int} (h0 : 0 ≤ n) (h : n ≤ 1000) : ZI n := by unfold ZI; omega
theorem Jdn  {x y x2 x3 r s a z : Nat} (h1 : (x, Jo6 e) ∈ R) (h2 : (y, Jo6 e) ∈ R) (h3 : (x2, Jo6 e) ∈ R) (h4 : (x3, Jo6 e) ∈ R) (h5 : (r, Obj.cells #[.int .i64 3, .int .i64 32, .slice (some ⟨x, 0, none⟩) 1 1, .int .i64 3, .int .i64 32, .slice (some ⟨y, 0, none⟩) 1 1] e (0, 0)) ∈ R)
  (h6 : (s, Obj.cells #[.int .i64 7, .int .i64 0, .slice (some ⟨r, 0, none⟩) 2 2] e (0, 0)) ∈ R)
  (h7 : (a, Obj.cells #[.int .i64 3, .int .i64 20, .slice (some ⟨x2, 0, none⟩) 1 1, .int .i64 1, .int .i64 8, .slice none 0 0, .int .i64 1, .int .i64 32, .slice none 0 0, .int .i64 4, .int .i64 512, .slice (some ⟨x3, 0, none⟩) 1 1, .int .i64 4, .int .i64 16, .slice (some ⟨s, 0, none⟩) 1 1] e (0, 0)) ∈ R)
  (h8 : (z, Obj.cells #[.int .i64 7, .int .i64 0, .slice (some ⟨a, 0, none⟩) 5 5] e (0, 0)) ∈ R) : (Jo8 x y x2 x3 r s a z).In R := by
 refine Jg6 (YK m7 m7) (YK m7 m7) h8 O O m7 fun q hq => ?_; rw [List.mem_singleton.1 hq]; refine Jg6 (YK m7 m7) (YK m7 m7) h7 O O m7 fun q hq => ?_; simp only [List.mem_cons, List.not_mem_nil, or_false] at hq
 rcases hq with rfl | rfl | rfl | rfl | rfl
 ·exact yy (YK m7 m7) (YK m7 m7) h3
 ·exact Jdm (YK m7 m7) (YK m7 m7)
 ·exact Jdm (YK m7 m7) (YK m7 m7)
 ·exact yy (YK m7 m7) (YK m7 m7) h4
 ·refine Jg6 (YK m7 m7) (YK m7 m7) h6 O O m7 fun q hq => ?_
  rw [List.mem_singleton.1 hq]; refine Jg6 (YK m7 m7) (YK m7 m7) h5 O O m7 fun q hq => ?_; simp only [List.mem_cons, List.not_mem_nil, or_false] at hq
  rcases hq with rfl | rfl
  ·exact yy (YK m7 m7) (YK m7 m7) h1
  ·exact yy (YK m7 m7) (YK m7 m7) h2
theorem Jdo (x y x2 x3 r s a z : Nat) : Zs (Jo8 x y x2 x3 r s a z) = ZG := by
 simp only [Jo8, acX, J37, Jo7, byT, Zs, XE, ZG, acT, Jdl, Yk]
theorem Jyw : PureT (α := TR ZG) Tryz.prog 46 #[] (fun y => y.x.val) [] (fun y => y.L) [] := by
 refine J4 Tryz.func46 O O fun w => Nj fun r1 => ?_; refine Ge ?_; refine Kn O O O Jrz (Jto mP mP) oN fun x1 => LN O fun r2 => ?_
 refine NQ ?_; refine XG 6 [0, 0] O O (J0 (vs := [_, _]) (zs := [_, _, _, _, _, _]) (r := [_, _, _, _, _, _]) O O O O O O O O O mj O fun r3 => k8 ?_); refine LN O fun r4 => ?_
 refine NQ ?_; refine ki ?_
 refine JI [(r4, .cells #[.int .i64 7, .int .i64 0, .slice (some ⟨r3, 0, none⟩) 2 2] 84 (0, 0))] [(0, .grow (KD 0 (fun r => .agg #[.int .i64 3, .int .i64 20, .slice (some ⟨r, 0, none⟩) 1 1]) (fun r => [(r, .cells #[.int .i64 1, .int .i64 1, .slice none 0 0] 84 (0, 0))]))), (1, .pure), (2, .pure), (3, .grow (KD 0 (fun r => .agg #[.int .i64 4, .int .i64 512, .slice (some ⟨r, 0, none⟩) 1 1]) (fun r => [(r, .cells #[.int .i64 1, .int .i64 1, .slice none 0 0] 84 (0, 0))]))), (4, .pure), (5, .grow (Vu (slV 1) (.cells #[.int .i64 7, .int .i64 0, .slice (some ⟨r3, 0, none⟩) 2 2] 84 (0, 0)))), (6, .pure), (7, .dep [9, 10, 11, 12, 15] (jF 5 84)), (8, .pure), (9, .grow (Vu vr (.cells #[.int .i64 0, .int .i64 0, .slice none 0 0] 84 (0, 0))))] 10 [1, 2, 4, 5, 6, 0, 3, 7, 8, 9] m6 m6 m8 (Gc ?_); refine Va (k := 5) (n := 1) (sz := 3) (vs := [_]) (zs := [_, _, _]) (r := [.int .i64 7, .int .i64 0, .slice (some ⟨r3, 0, none⟩) 2 2]) O O O O O O O O O O O mj O fun s1 => Jm (k := 6) O O O O O (fun _ hS => (Ju (r := [_, _, _]) O O)) (JZ (k := 0) O O O O O Jrz (Jto mP mP) oN fun x2 => JZ (k := 3) O O O O O Jrz (Jto mP mP) oN fun x3 => Qh (k := 7) (dv := [_, _, _, _, _]) (n := 5) (sz := 3) (vs := [_, _, _, _, _]) (zs := [_, _, _, _, _, _, _, _, _, _, _, _, _, _, _]) (r := [.int .i64 3, .int .i64 20, .slice (some ⟨x2, 0, none⟩) 1 1, .int .i64 1, .int .i64 8, .slice none 0 0, .int .i64 1, .int .i64 32, .slice none 0 0, .int .i64 4, .int .i64 512, .slice (some ⟨x3, 0, none⟩) 1 1, .int .i64 4, .int .i64 16, .slice (some ⟨s1, 0, none⟩) 1 1]) O O O O O O O O O O O O O mj O fun s2 => Jm (k := 8) O O O O O (fun _ hS => (Ju (r := [_, _, _]) O O)) (VZ (k := 9) (cs := #[_, _, _]) O O O O O O fun r5 => Ka ?_))
 refine NQ ?_; refine Ge ?_; refine Ns ?_; refine J0 (vs := [_]) (zs := [_, _, _]) (r := [_, _, _]) O O O O O O O O O mj O fun r6 => k8 ?_
 refine LT 10 O O (H6 ?_); refine Jf O O (.cons (Js (vs := [_, _, _]) O (kn 10 O) O O) .nil) (fun w1 hs1 => ?_); exact ⟨⟨Jo8 x1 x1 x2 x3 r3 s1 s2 r6, _, Jdn (e := 84) ml ml ml ml ml ml ml ml, Jdo ..⟩, rfl, hs1⟩
theorem Jtp : PureT (α := TR ZG) Tryz.prog 90 #[] (fun y => y.x.val) [] (fun y => y.L) [] := by
 refine J4 Tryz.func90 O O fun w => Nj fun r1 => ?_; refine Ge ?_; refine Kn O O O Jlg (yx mP mP) oN fun x1 => Kn O O O Jlg (yx mP mP) oN fun x4 => J0 (vs := [_, _]) (zs := [_, _, _, _, _, _]) (r := [_, _, _, _, _, _]) O O O O O O O O O mj O fun r2 => k8 ?_; refine LN O fun r3 => ?_
 refine NQ ?_; refine Ge ?_; refine Ns ?_; refine J0 (vs := [_]) (zs := [_, _, _]) (r := [_, _, _]) O O O O O O O O O mj O fun r4 => k8 ?_; refine LN O fun r5 => ?_
 refine NQ ?_; refine ki ?_
 refine JI [(r5, .cells #[.int .i64 4, .int .i64 16, .slice (some ⟨r4, 0, none⟩) 1 1] 84 (0, 0))] [(0, .grow (KD 0 (fun r => .agg #[.int .i64 3, .int .i64 20, .slice (some ⟨r, 0, none⟩) 1 1]) (fun r => [(r, .cells #[.int .i64 1, .int .i64 1, .slice none 0 0] 84 (0, 0))]))), (1, .pure), (2, .pure), (3, .grow (KD 0 (fun r => .agg #[.int .i64 4, .int .i64 512, .slice (some ⟨r, 0, none⟩) 1 1]) (fun r => [(r, .cells #[.int .i64 1, .int .i64 1, .slice none 0 0] 84 (0, 0))]))), (4, .pure), (5, .dep [11, 12, 13, 14, 15] (jF 5 84)), (6, .pure), (7, .grow (Vu vr (.cells #[.int .i64 0, .int .i64 0, .slice none 0 0] 84 (0, 0))))] 8 [1, 2, 4, 0, 3, 5, 6, 7] m6 m6 m8 (Gc ?_); refine JZ (k := 0) O O O O O Jlg (yx mP mP) oN fun x2 => JZ (k := 3) O O O O O Jlg (yx mP mP) oN fun x3 => Qh (k := 5) (dv := [_, _, _, _, _]) (n := 5) (sz := 3) (vs := [_, _, _, _, _]) (zs := [_, _, _, _, _, _, _, _, _, _, _, _, _, _, _]) (r := [.int .i64 3, .int .i64 20, .slice (some ⟨x2, 0, none⟩) 1 1, .int .i64 1, .int .i64 8, .slice none 0 0, .int .i64 1, .int .i64 32, .slice none 0 0, .int .i64 4, .int .i64 512, .slice (some ⟨x3, 0, none⟩) 1 1, .int .i64 4, .int .i64 16, .slice (some ⟨r4, 0, none⟩) 1 1]) O O O O O O O O O O O O O mj O fun s2 => Jm (k := 6) O O O O O (fun _ hS => (Ju (r := [_, _, _]) O O)) (VZ (k := 7) (cs := #[_, _, _]) O O O O O O fun r6 => Ka ?_)
 refine NQ ?_; refine Ge ?_; refine Ns ?_; refine J0 (vs := [_]) (zs := [_, _, _]) (r := [_, _, _]) O O O O O O O O O mj O fun r7 => k8 ?_
 refine LT 11 O O (H6 ?_); refine Jf O O (.cons (Js (vs := [_, _, _]) O (kn 11 O) O O) .nil) (fun w1 hs1 => ?_); exact ⟨⟨Jo8 x1 x4 x2 x3 r2 r4 s2 r7, _, Jdn (e := 84) ml ml ml ml ml ml ml ml, Jdo ..⟩, rfl, hs1⟩
def Zt (b : UInt8) : Vl := .mk b.toNat 0 0 0 [] none [] none 0
def xK (s : BS) : Vl := Qv (s.map Zt) 0
theorem J38 (b : UInt8) : (Zt b).cells = [uV b.toNat, uV 0, uV 0, uV 0, .slice none 0 0, .slice none 0 0, .int .i64 0] := rfl
theorem Jtq (b : UInt8) : Vl.In [] (Zt b) := .mk (by have := Xl b; unfold Wr; omega) u0 u0 u0 m7 rfl m7 rfl i0 (fun x hx => nomatch hx)
theorem Jtr (s : BS) (p : Pl) : jy (.mk 0 0 0 0 [] none (s.map Zt) p 0) = xK s := by
 rw [Xa, Xi, List.map_map, show (jy ∘ Zt) = Zt from funext fun b => by show jy (Zt b) = Zt b; unfold Zt; rw [Xa, yw]]; rfl
theorem Jmf {s : BS} (h : i < s.length) : Ql ((s.take i).map Zt) ++ [uV (s.getD i 0).toNat, uV 0, uV 0, uV 0, .slice none 0 0, .slice none 0 0, .int .i64 0] = Ql ((s.take (i + 1)).map Zt) := by
 have h1 : s[i]? = some (s.getD i 0) := by rw [List.getD_eq_getElem?_getD, List.getElem?_eq_getElem h]; rfl
 rw [jR h1, List.map_append]
 unfold Ql
 rw [List.flatMap_append]; simp [J38]
theorem Jdp {s : BS} (hl : s.length ≤ 100000) : PureT (α := VR (xK s)) Tryz.prog 102 [J5 s].toArray (fun y => y.x.val) [] (fun y => y.L) [] := by
 refine J4 Tryz.func102 O O fun w => Nj fun r1 => ?_; refine Ge ?_; refine LN O fun r2 => Gu ?_; refine gt ?_; refine Gb ?_; refine Jw (σ := Nat × QC) (fun q => q.1 ≤ s.length ∧ rowOk 7 q.1 (Ql ((s.take q.1).map Zt)) q.2) (fun q => [(0, J5 s), (2, Wn r1), (3, Wn r2), (6, .int .i64 (s.length : Int)), (7, .int .i64 (q.1 : Int))]) (fun q => (r2, .cells #[.int .u64 0, .int .u64 0, .int .u64 0, .int .u64 0, .slice none 0 0, J9 q.1 q.2, .int .i64 0] 89 (0, 0)) :: (r1, .cells #[.int .u64 0, .int .u64 0, .int .u64 0, .int .u64 0, .slice none 0 0, .slice none 0 0, .int .i64 0] 89 (0, 0)) :: JE 89 (Ql ((s.take q.1).map Zt)) q.2) (fun _ _ _ => True) (fun q => s.length - q.1) (0, none) ⟨Nat.zero_le _, rfl, rfl⟩ (lK O) (List.Sublist.refl _) (fun _ _ h => h) ?_; rintro ⟨i, row⟩ ⟨hi1, hrow⟩; simp only at hi1 hrow; change HC _ _ [(0, J5 s), (2, Wn r1), (3, Wn r2), (6, .int .i64 (s.length : Int)), (7, .int .i64 (i : Int))] ((r2, .cells #[.int .u64 0, .int .u64 0, .int .u64 0, .int .u64 0, .slice none 0 0, J9 i row, .int .i64 0] 89 (0, 0)) :: (r1, .cells #[.int .u64 0, .int .u64 0, .int .u64 0, .int .u64 0, .slice none 0 0, .slice none 0 0, .int .i64 0] 89 (0, 0)) :: JE 89 (Ql ((s.take i).map Zt)) row) _ _ _; refine NO ?_; refine cD (fun g => ?_) fun g => ?_
 ·refine JC 10 O ?_
  refine NV ?_; refine Qq (k := 6) O O O O O wu (Wu _) (G7 fun rb => ?_); refine JA (L0 := [_, _, _]) (xs := Ql ((s.take i).map Zt)) (row := row) (n := i) (sz := 7) (b := 88) (news := [_, _, _, _, _, _, _]) (List.perm_append_comm (l₁ := [_, _, _])) O O O O (kn 0 O) O O O O O m7 O O O m7 hrow m5 m5 fun ra cap sp hra => ?_
  refine Hp ?_; refine kL ?_; exact GP
 ·refine NO ?_
  have honeV : ([.int .u64 0, .int .u64 0, .int .u64 0, .int .u64 0, .slice none 0 0, J9 i row, .int .i64 0] : List Value).all QE = true := by cases row <;> rfl
  exact NL
abbrev VZ0 : Array Value := #[.int .u64 0, .int .u64 0, .int .u64 0, .int .u64 0, .slice none 0 0, .slice none 0 0, .int .i64 0]
section
variable {c : Cx} {l : KQ} {L E : Jx} {X : XP} {Q : Exit → Act → World → Prop} {d : List Deferred}
variable {ops : Array Oper} {rest : List Nat} {i k : Nat} {v : Value} {o : Oper} {tb : jX} {S : Jx} {T : Jx → Act → Prop}
theorem Jts  {T0 : Jx} {f : Operand}
  (hp : E.Perm (T0 ++ L0)) (hk : X7 ops.toList k = some ⟨some i, .call ⟨.value f, args, at_⟩, ty, ps, af, gd⟩) (hg : Kz l ops ⟨some i, .call ⟨.value f, args, at_⟩, ty, ps, af, gd⟩ = some true) (hi : Nat.ble (i + 1) c.n = true) (hA : tb k = .turn) (hca : KM l f args = some (g, vs)) (eg : Enters c.P g)
  (hpt : PureT c.P g vs.toArray V T0 LL Rl) (hR : ∀ p ∈ Rl, known c L0 p.1 p.2) (hS : ∀ x, SubS S (LL x ++ L0)) (h : ∀ x, HB c d ((i, V x) :: l) (LL x ++ L0) X S ops tb rest T) : HB c d l E X S ops tb (k :: rest) T := fun a hf => by
 refine ⟨_, Vd hk, ?_⟩; rw [hA]; refine .inl ⟨α, V, fun x => LL x ++ L0, ⟨JR hf hg, fun w hs => ?_⟩, fun x => ⟨hS x, h x _ (hf.put (Nat.le_of_ble_eq_true hi))⟩⟩
 have hs := hs.perm hp
 obtain ⟨hd1, _, hd3⟩ := List.pairwise_append.1 hs.distinct
 refine Xj hf hca eg ((hpt.run w (fun p hp => (hs.own p (List.mem_append_left _ hp)).2.2) (fun p hp => ?_) hd1 (fun p hp q hq => ?_)).mono fun _ _ ⟨x, he, hk, h1, h2⟩ => ⟨V x, he, x, rfl, hs.turnT hk h1 h2⟩)
 ·exact (hR p hp).elim (fun h => (hs.own _ (List.mem_append_right _ h)).2.2) hs.readR
 ·rcases hR p hp with h | h
  ·exact fun e => hd3 q hq _ h e.symm
  ·rintro e
   obtain ⟨h1, _, h3⟩ := hs.ext _ h
   have h3 := JP h3
   rcases (hs.own q (List.mem_append_left _ hq)).1 with h4 | h4
   ·exact h1 (e ▸ h4)
   ·simp only at h3 e; omega
end
theorem J39 {n : Nat} {xs : List Value} (h : xs.length = n) : rowOk 1 n xs (some (0, n, [])) := ⟨by rw [h, Nat.mul_one], by simp⟩
theorem Jtt {k n : Int} {p : Pl} {ins : List Ty} {items : List Vl} (ht : Ty.In R (.mk k n p ins)) (h8 : k ≠ 8) (hs : Seg R items.length (Ql items) pi) (hl : items.length ≤ 600) (hx : ∀ i, i < items.length → W1 k 0 i < ins.length)
  (hb : ∀ (i : Nat) x, items[i]? = some x → PureR Tryz.prog 100 [(JT k 0 ins i).val, x.val].toArray (J5 (KZ x (JT k 0 ins i))) R) :
  PureT (α := { row : QC // rowOk 1 items.length (V1 (Kg items k 0 ins 0)) row }) Tryz.prog 169 [Ty.val (.mk k n p ins), KA items.length pi].toArray (fun x => J9 items.length x.1) [] (fun x => JE 9 (V1 (Kg items k 0 ins 0)) x.1) R := by
 cases ht with
 | @mk k n p ins hk hn hlt hst hit =>
 have hRL := Vw items k 0 ins 0
 obtain ⟨RS, hRS⟩ : ∃ x, x = Kg items k 0 ins 0 := ⟨_, rfl⟩
 have htk := fun i x (h : items[i]? = some x) => jQ k ins (i := 0) h
 simp only [← hRS, Nat.zero_add] at htk; rw [← hRS] at hRL ⊢; refine J4 Tryz.func169 O O fun w => Nj fun r1 => ?_; refine JH 12 O (Dd ?_); refine Jw (σ := Nat × QC) (fun q => q.1 ≤ items.length ∧ rowOk 1 q.1 (V1 (RS.take q.1)) q.2) (fun q => [(2, Wn r1), (5, J9 q.1 q.2), (9, KA items.length pi), (10, .int .i64 (items.length : Int)), (11, .int .i64 (q.1 : Int))]) (fun q => WG r1 (.mk k n p ins) :: JE 9 (V1 (RS.take q.1)) q.2) (fun _ _ _ => True) (fun q => items.length - q.1) (0, none) ⟨Nat.zero_le _, by rw [List.take_zero]; exact ⟨rfl, rfl⟩⟩ (lK O) (List.Sublist.refl _) (fun _ _ h => h) ?_; rintro ⟨i, row⟩ ⟨hi1, hrow⟩; simp only at hi1 hrow; change HC _ _ [(2, _), (5, J9 i row), (9, _), (10, _), (11, .int .i64 (i : Int))] ((r1, _) :: JE _ (V1 (RS.take i)) row) _ _ _; refine NO ?_; refine cD (fun h7 => ?_) fun h7 => ?_
 ·refine gk ?_
  have hil : i < items.length := by omega
  have hix := V3 hil
  have hbi := hb i _ hix.1
  have hty := Qi (hx i hil)
  have hi0 : 0 < ins.length := Nat.lt_of_le_of_lt (Nat.zero_le _) (hx i hil)
  have hy0 : ins[0]? = some (ins.getD 0 default) := by rw [List.getD_eq_getElem?_getD, List.getElem?_eq_getElem hi0]; rfl
  have htki := htk i _ hix.1
  obtain ⟨sv, hsv⟩ : ∃ x, x = KZ (X0 items i) (JT k 0 ins i) := ⟨_, rfl⟩
  rw [← hsv] at hbi htki; refine kE ?_
  refine Di fun rv => ?_; refine Q1 O (Jj (k := 0) (n := 7) (ys := (X0 items i).cells) O O O O O (X0 items i).len O (X0 items i).one O (XG 6 [1] O O ?_)); refine LR O (Jk (j := 0) O hst O O O O m5) (LR O (KC oR O hst hy0 O O) (KL (cs := #[.int .i64 0, .int .i64 0, .slice none 0 0]) O O O O fun rt => Jj (k := 0) (n := 3) (ys := (ins.getD 0 default).cells) O O O O O (ins.getD 0 default).len O (ins.getD 0 default).one O (Goc 10 [2] O O (cD (fun g => ?_) fun g => ?_))))
  ·refine F7 ?_; refine LR O (Jk (j := W1 k 0 i) O hst O O O (by unfold W1; rw [if_pos m9]) (hx i hil)) (LR rfl (KC oR rfl hst hty.1 rfl rfl) (Jj (k := 0) (n := 3) (ys := (JT k 0 ins i).cells) rfl rfl rfl rfl rfl (JT k 0 ins i).len (by rw [List.size_toArray]; exact Ty.len _) (JT k 0 ins i).one O (H9 ?_)))
   (have h7 : k = 7 := by assumption
    skip)
   refine I9 ?_; refine He fun r2 => ?_; exact kY
  ·refine JC 2 O ?_
   (have h7 : ¬ k = 7 := by assumption
    have e : ins.getD 0 default = JT k 0 ins i := by unfold JT W1; rw [if_neg h7, if_neg h8]
    rw [e])
   refine I9 ?_; refine J0 (vs := [_]) (zs := [_]) (r := [_]) O O O O O O O O O mg O fun r3 => ?_; exact kY
 ·refine NO ?_
  obtain rfl : i = items.length := by omega
  rw [List.take_of_length_le m5] at hrow ⊢; refine Kk 6 O (NW fun w1 hs1 => ?_); exact ⟨⟨row, hrow⟩, rfl, hs1.weakL (.cons _ (List.Sublist.refl _))⟩
abbrev ZC (l : List BS) : Type := { row : QC // rowOk 1 l.length (V1 l) row }
def jd (l : List BS) : ZC l := ⟨some (0, l.length, []), J39 (by unfold V1; rw [List.length_map])⟩
abbrev rV {l : List BS} (x : ZC l) : Value := KA l.length (KY x.1)
abbrev rL {l : List BS} (x : ZC l) : Jx := JE 9 (V1 l) x.1
theorem J4a {l : List BS} (x : ZC l) : rV x = J9 l.length x.1 := QG _ _ fun h => by
 have h2 := x.2
 rw [h] at h2; exact h2.1
theorem Jdq (l : List BS) : (fun x : ZC l => rV x) = fun x => J9 l.length x.1 := funext fun x => J4a x
theorem Jtu {s : BS} (hl : s.length ≤ 1000000) : PureT (α := ZC (Wo s)) Tryz.prog 218 [J5 s].toArray (fun x => rV x) [] (fun x => rL x) [] := by
 have h := J36 hl
 rw [← Yb] at h; rw [Jdq]; exact h
theorem Yd {s : BS} (hl : s.length ≤ 1000000) : PureT (α := ZC (Wo s)) Tryz.prog 143 [J5 s].toArray (fun x => rV x) [] (fun x => rL x) [] := by
 have h := Jo4 hl
 rw [← Yb] at h; rw [Jdq]; exact h
theorem Jbb {k n : Int} {p : Pl} {ins : List Ty} {items : List Vl} (ht : Ty.In R (.mk k n p ins)) (h8 : k ≠ 8) (hs : Seg R items.length (Ql items) pi) (hl : items.length ≤ 600) (hx : ∀ i, i < items.length → W1 k 0 i < ins.length)
  (hb : ∀ (i : Nat) x, items[i]? = some x → PureR Tryz.prog 100 [(JT k 0 ins i).val, x.val].toArray (J5 (KZ x (JT k 0 ins i))) R) :
  PureT (α := ZC (Kg items k 0 ins 0)) Tryz.prog 169 [Ty.val (.mk k n p ins), KA items.length pi].toArray (fun x => rV x) [] (fun x => rL x) R := by
 have h := Jtt ht h8 hs hl hx hb
 rw [Jdq]
 have e := Vw items k 0 ins 0
 generalize Kg items k 0 ins 0 = RS at h e ⊢
 rw [← e] at h; rw [← e]; exact h
theorem Jtv (t : Ty) : Pure Tryz.prog 215 [t.val].toArray (.bool (WJ t)) := by
 obtain ⟨k, n, p, ins⟩ := t
 refine Jl Tryz.func215 O O fun w => Nj fun r1 => ?_; refine XG 9 [0] O O ?_
 refine Jv 6 O (fun gb => ?_) (fun gb => ?_) <;> (try simp only [ZZ] at gb) <;> first | (refine LR O (J6 O O O) ?_) | (refine LK O ?_)
 all_goals (
  refine Fe ?_; refine Ni fun w1 hs1 => ?_
  simp_all [JB, WJ, Ty.k]
  all_goals first | done | rfl
  skip)
theorem J2e (n : Nat) : ((n + 7) / 8 + 31) / 32 = (n + 255) / 256 := by omega
theorem Jmg {l : List Bool} {k : Int} {n : Nat} {p : Pl} {ins : List Ty} (hl : l.length ≤ n) (hn : n ≤ 512) (hs : Seg R l.length (W9 l) pb) :
  PureR Tryz.prog 165 [Ty.val (.mk k (n : Int) p ins), KA l.length pb].toArray (J5 (QY (Wo (WB l)) ((n + 255) / 256))) R := by
 obtain ⟨N, hN⟩ : ∃ N, N = (l.length + 7) / 8 := ⟨_, rfl⟩
 have hpB : WB l = KJ l N l.length := by rw [hN]; rfl
 have hnb := jx (bits := l) (n := (n : Int)) m5
 rw [Int.toNat_natCast] at hnb
 have hc32 := VL (WB l)
 have hcut := Jtu (s := WB l) (by rw [Y8]; omega)
 rw [hpB] at hnb hc32 hcut ⊢; refine Jc Tryz.func165 O O fun w => Nj fun r1 => ?_; refine Gu ?_; refine ND ?_
 refine Ff ?_; refine GS fun rm => ?_; refine gY ?_; refine Dd ?_; refine Jw (σ := Nat) (fun i => i ≤ l.length) (fun i => [(2, Wn r1), (5, .slice (some ⟨rm, 0, none⟩) N N), (14, KA l.length pb), (15, .int .i64 (l.length : Int)), (16, .int .i64 (i : Int))]) (fun i => [(rm, .cells ((KJ l N i).map bV).toArray 5 (0, 0)), WG r1 (.mk k (n : Int) p ins)]) (fun _ _ _ => True) (fun i => l.length - i) 0 (Nat.zero_le _) (lK O) (List.Sublist.refl _) (fun _ _ h => h) ?_; intro i hi1; change HC _ _ _ ((rm, _) :: (r1, _) :: []) _ _ _; refine NO ?_; refine cD (fun g => ?_) fun g => ?_
 ·refine gk ?_
  have hil : i < l.length := by omega
  have hi8 : i / 8 < N := by omega
  have hyb : l[i]? = some (l.getD i false) := by rw [List.getD_eq_getElem?_getD, List.getElem?_eq_getElem hil]; rfl
  refine kE ?_
  refine kT ?_; refine LR O (WV oR O hs hyb O) (H2 ?_); refine cD (fun g => ?_) fun g => ?_
  ·have hbt : l.getD i false = true := by assumption
   have hst1 : KJ l N (i + 1) = (KJ l N i).set (i / 8) (UInt8.ofNat (((KJ l N i).getD (i / 8) 0).toNat ||| 2 ^ (i % 8))) := by rw [KJ, if_pos hbt]
   obtain ⟨Y, hY⟩ : ∃ Y, Y = KJ l N i := ⟨_, rfl⟩
   have hYl : Y.length = N := by rw [hY]; exact Q9 l N i
   rw [← hY] at hst1 ⊢
   refine gI ?_; refine Qt (show _ = Value.int .i64 ((i / 8 : Nat) : Int) from congrArg (Value.int .i64) mf) (gN ?_); refine Qt (show _ = Value.int .i64 ((i % 8 : Nat) : Int) from congrArg (Value.int .i64) mf) (k6 ?_); refine NX ?_; exact NE
  ·refine gn ?_; refine NX ?_
   (have hst0 : KJ l N (i + 1) = KJ l N i := by rw [KJ, if_neg mt]
    exact Jo (i + 1) m5 m5 (lK O) (by rw [hst0]; exact List.Sublist.refl _) (fun _ _ h => h))
 ·refine NO ?_
  obtain rfl : i = l.length := by omega
  refine JI [] [(0, .pure), (2, .grow (KD (jd (Wo (KJ l N l.length))) (fun x => rV x) (fun x => rL x))), (3, .pure), (5, .pure), (6, .pure), (7, .pure), (8, .pure), (10, .pure)] 11 [0, 1, 3, 4, 5, 6, 7, 2, 8, 9, 10] m6 m6 m8 (Hk ?_); refine JY (k := 1) O O O O O (Kw (b := KJ l N l.length) (row := some (rm, N, [])) (e := 5) My ⟨by rw [List.length_map]; omega, by rw [Q9]; simp⟩ (fun p hp => .inl nC) rfl rfl rfl) ?_
  refine EL ?_; refine JY (k := 4) O O O O O (Je O (kn 1 O) O O) ?_
  refine Jm (k := 5) O O O O O (fun _ _ => (J2 O O O)) (Qt (show _ = Value.int .i64 ((n + 8 : Nat) : Int) from congrArg (Value.int .i64) mf) ?_)
  refine Jm (k := 6) O O O O O (fun _ _ => (J2 O O O)) (Qt (show _ = Value.int .i64 ((n + 7 : Nat) : Int) from congrArg (Value.int .i64) mf) ?_)
  refine Jm (k := 7) O O O O O (fun _ _ => (J2 O O O)) (Qt (show _ = Value.int .i64 (((n + 7) / 8 : Nat) : Int) from congrArg (Value.int .i64) mf) (JZ (k := 2) rfl rfl rfl rfl rfl (enters_of Tryz.func218 m6 rfl) hcut oN fun x => Qq (k := 8) rfl rfl rfl rfl rfl (enters_of Tryz.func220 m6 rfl) (Jtm (n := (n + 7) / 8) m5) ?_)); rw [J2e]; refine JW (k := 9) O O O O O Jlj (yu hnb m5 (JQ x.2 m7) hc32) (fun q hq => .inl (List.mem_append_left _ hq)) (Jm (k := 10) O O O O O (fun _ hS => (J8 O)) (Ka ?_)); exact En
section
variable {c : Cx} {l : KQ} {L E : Jx} {X : XP} {Q : Exit → Act → World → Prop} {d : List Deferred}
variable {ops : Array Oper} {rest : List Nat} {i k : Nat} {v : Value} {o : Oper} {tb : jX} {S : Jx} {T : Jx → Act → Prop}
theorem Jo9 {f : Operand}
  (hk : X7 ops.toList k = some ⟨some i, .call ⟨.value f, args, at_⟩, ty, ps, af, gd⟩) (hg : Kz l ops ⟨some i, .call ⟨.value f, args, at_⟩, ty, ps, af, gd⟩ = some true) (hi : Nat.ble (i + 1) c.n = true) (hA : tb k = .pure) (hca : KM l f args = some (g, vs)) (eg : Enters c.P g)
  (hp : PureR c.P g vs.toArray v Rl) (hR : ∀ p ∈ Rl, p ∈ S ∨ p ∈ c.R) (h : HB c d ((i, v) :: l) E X S ops tb rest T) : HB c d l E X S ops tb (k :: rest) T := fun a hf => by
 refine ⟨_, Vd hk, ?_⟩; rw [hA]; exact ⟨v, .inl ⟨JR hf hg, fun E' hE' w hs => Xj hf hca eg ((hp.run w fun p hp => (hR p hp).elim (fun h => (hs.own _ (hE' p h)).2.2) hs.readR).mono fun _ _ ⟨he, hk⟩ => ⟨v, he, rfl, hk⟩)⟩, h _ (hf.put (Nat.le_of_ble_eq_true hi))⟩
end
theorem WM {k : Int} (h7 : k ≠ 7) (h8 : k ≠ 8) (x : Ty) (i : Nat) : JT k 0 [x] i = x := by unfold JT W1; rw [if_neg h7, if_neg h8]; rfl
theorem Jbc {l : List Vl} {x : Ty} (h : l[i]? = some v) : WK (l.take (i + 1)) x = WK (l.take i) x ++ Vj v x := by
 unfold WK
 rw [List.take_add_one, h]
 simp
theorem Jdr {x : Ty} : ∀ {l : List Vl}, (∀ v ∈ l, (Vj v x).length ≤ 32) → (WK l x).length ≤ 32 * l.length
 | [], _ => by unfold WK; simp
 | v :: l, h => by
  have ih := Jdr (l := l) fun y hy => h y (List.mem_cons_of_mem _ hy)
  have h1 := h v List.mem_cons_self
  unfold WK at ih ⊢
  rw [List.map_cons, List.flatten_cons, List.length_append, List.length_cons]; omega
theorem Zu {x : Ty} (hc : chk x 0 = 0) (hp : WJ x = true) (hf : Qd v x = 0) : Jyd x v = (Vj v x, 0) ∧ (Vj v x).length ≤ 32 := by
 obtain ⟨f1, f2, f3, f4⟩ := YJ hc hp
 have h1 := f4 v hf
 have h2 : (Vj v x).length ≤ 32 := by omega
 have h3 : VF x v = 0 := by unfold VF; rw [if_pos hc]; exact hf
 unfold Jyd
 rw [if_neg (by rw [h3]; simp), if_neg m5]; exact ⟨rfl, h2⟩
set_option maxHeartbeats 1000000 in
theorem J2f {k : Int} {n : Nat} {p : Pl} {items : List Vl} (ht : Ty.In R (.mk k (n : Int) p [x0])) (h7 : k ≠ 7) (h8 : k ≠ 8) (hc : chk x0 0 = 0) (hs : Seg R items.length (Ql items) pi) (hl : items.length ≤ n) (hn : n ≤ 512)
  (hfit : ∀ v ∈ items, Qd v x0 = 0) (hw : ∀ v ∈ items, Yy v ≤ 20000) (hIn : ∀ v ∈ items, v.In R)
  (hb : ∀ (i : Nat) x, items[i]? = some x → PureR Tryz.prog 100 [x0.val, x.val].toArray (J5 (KZ x x0)) R) :
  PureR Tryz.prog 161 [Ty.val (.mk k (n : Int) p [x0]), KA items.length pi].toArray (J5 (VS k (n : Int) [x0] items (Kg items k 0 [x0] 0))) R := by
 have hro := Jbb ht h8 hs m5 (fun i _ => by unfold W1; rw [if_neg h7, if_neg h8]; exact Nat.lt_succ_self 0) (fun i x hx => by rw [WM h7 h8]; exact hb i x hx)
 have hrl := Vw items k 0 [x0] 0
 have hr32 : ∀ s ∈ Kg items k 0 [x0] 0, s.length = 32 := fun s hs => by
  obtain ⟨j, x, h1, rfl⟩ := WZ hs
  rw [WM h7 h8]; exact Vx x x0 0 hc (hfit x (List.mem_of_getElem? h1))
 have hrt := fun (x : ZC (Kg items k 0 [x0] 0)) => yu (m := n) m5 m5 (JQ (e := 9) x.2 m7) hr32
 have hM : VS k (n : Int) [x0] items (Kg items k 0 [x0] 0) = if WJ x0 = true then QY (Wo (WK items x0)) ((n * (KX x0).toNat + 31) / 32) else QY (Kg items k 0 [x0] 0) n := by
  unfold VS
  rw [if_neg h7]; rfl
 rw [hM]
 have hx0 := ht.sub x0 List.mem_cons_self
 have ht2 := ht
 cases ht with
 | @mk k n p ins hk hn2 hlt hst hit =>
 have hpl := Jtv x0
 refine Jc Tryz.func161 O O fun w => EX fun r1 => ?_
 refine LR O (Jk (j := 0) O hst O O O me (Nat.lt_succ_self 0)) (LR O (KC oR O hst M8 O O) (Jn O O O (enters_of Tryz.func215 m6 O) hpl (ki ?_))); refine cD (fun g => ?_) fun g => ?_
 refine HS ?_
 refine JI [] [(1, .pure), (2, .grow (KD (jd (Kg items k 0 [x0] 0)) (fun x => rV x) (fun x => rL x))), (3, .pure), (6, .pure)] 7 [0, 1, 3, 4, 2, 5, 6] m6 m6 m8 (JY (k := 0) O O O O O (Jd (xs := (Ty.mk k (n : Int) p [x0]).cells) (n := 3) O (kn 0 O) O O (Ty.mk k (n : Int) p [x0]).len) (Jm (k := 1) O O O O O (fun _ hS => (Jg O)) ?_))
 refine EL ?_; refine JY (k := 4) O O O O O (Je O (kn 0 O) O O) (JZ (k := 2) O O O O O (enters_of Tryz.func169 m6 O) hro (fun q hq => .inr hq) fun x => JW (k := 5) O O O O O Jlj (hrt x) (fun q hq => .inl (List.mem_append_left _ hq)) (Jm (k := 6) O O O O O (fun _ hS => (J8 O)) (Ka (DE fun w1 hs1 => ?_)))); rw [if_neg Mq]; rfl
 ·refine GU ?_
  have hp : WJ x0 = true := by assumption
  obtain ⟨f1, f2, f3, f4⟩ := YJ hc hp
  obtain ⟨z, hz⟩ : ∃ z, z = (KX x0).toNat := ⟨_, rfl⟩
  have hSz := Jsp hx0
  have hsz : ZA x0 = (z : Int) := by unfold ZA; rw [if_pos f1]; omega
  rw [hsz] at hSz
  have hnz : n * z ≤ 16384 := by
   have := Nat.mul_le_mul hn (show z ≤ 32 by omega)
   omega
  obtain ⟨C, hC⟩ : ∃ C, C = WK items x0 := ⟨_, rfl⟩
  have hCl : C.length = items.length * z := by rw [hC]; exact jc fun v hv => by have := f4 v (hfit v hv); omega
  have hCn : C.length ≤ n * z := by rw [hCl]; exact Nat.mul_le_mul_right _ hl
  have hcn : (Wo C).length ≤ (n * z + 31) / 32 := by rw [Yb]; unfold vO; omega
  refine HY ?_; refine LN O fun r2 => Gu ?_; refine Dd ?_; refine Jw (σ := Nat × QC × Bool) (fun q => q.1 ≤ items.length ∧ bOk (WK (items.take q.1) x0) q.2.1) (fun q => [(2, Wn r1), (5, Wn r2), (22, KA items.length pi), (23, .int .i64 (items.length : Int)), (24, .int .i64 (q.1 : Int))]) (fun q => X5 r2 (WK (items.take q.1) x0) q.2.1 q.2.2 ++ [WG r1 (Ty.mk k (n : Int) p [x0])]) (fun _ _ _ => True) (fun q => items.length - q.1) (0, none, false) ⟨Nat.zero_le _, Jdj⟩ (lK O) (List.Sublist.refl _) (fun _ _ h => h) ?_; rintro ⟨i, row, own⟩ ⟨hi1, hb1⟩; simp only at hi1 hb1; change HC _ _ [(2, _), (5, _), (22, _), (23, _), (24, .int .i64 (i : Int))] (X5 r2 (WK (items.take i) x0) row own ++ [WG r1 (Ty.mk k (n : Int) p [x0])]) _ _ _; refine NO ?_; refine cD (fun g => ?_) fun g => ?_
  ·refine gk ?_
   have hil : i < items.length := by omega
   have hix := V3 hil
   have hpr := Zu hc hp (hfit _ hix.2)
   have hput := J2a hx0 (hIn _ hix.2) (hw _ hix.2)
   rw [hpr.1] at hput
   have hsn := Jbc (x := x0) hix.1
   have hcl := Jdr (x := x0) (l := items.take i) fun v hv => (Zu hc hp (hfit v (List.mem_of_mem_take hv))).2
   rw [List.length_take] at hcl
   have hp2 := hpr.2
   refine HY ?_
   refine Di fun rv => ?_; refine Hc ?_; refine ki ?_; refine JK 11 m6 m6 ?_
   refine Hn ?_; refine Ja O O O (Je (v := KA 1 p) O (.inl (List.mem_cons_of_mem _ (List.mem_append_right _ List.mem_cons_self))) O O) ?_
   refine ED ?_; refine Ja O O O (Jd (xs := (X0 items i).cells) (n := 7) O (kn 0 O) O O (X0 items i).len) (Vt O O O (enters_of Tryz.func216 m6 O) hput oR (Nm ?_)); refine Ja O O O (Kh O O) (Ja O O O (Kh O O) (HW ?_)); refine Ge ?_; refine QK (T := X5 r2 (WK (items.take i) x0) row own) (L0 := _ :: [WG r1 (Ty.mk k (n : Int) p [x0])]) (Rl := []) List.perm_middle.symm O O O Jln (yv hb1 (s2 := Vj (X0 items i) x0) m5) oN fun x => ?_
   obtain ⟨rowx, hbx⟩ := x
   refine kL ?_; refine NX ?_; refine qI (L' := X5 r2 (WK (items.take (i + 1)) x0) rowx true ++ [WG r1 (Ty.mk k (n : Int) p [x0])]) (by rw [hsn]; exact (List.Sublist.refl _).append (.cons _ (List.Sublist.refl _))) ?_; exact Jo (i + 1, rowx, true) ⟨by simp only; omega, by simp only; rw [hsn]; exact hbx⟩ mh (lK O) (List.Sublist.refl _) (fun _ _ h => h)
  ·refine NO ?_
   obtain rfl : i = items.length := by omega
   rw [List.take_length, ← hC] at hb1; rw [List.take_length, ← hC]; refine JI [WG r1 (Ty.mk k (n : Int) p [x0])] [(0, .turn), (1, .grow (KD (jd (Wo C)) (fun x => rV x) (fun x => rL x))), (2, .pure), (3, .pure), (4, .pure), (5, .pure), (6, .pure), (7, .pure), (8, .pure), (9, .pure), (10, .pure)] 11 [2, 3, 4, 5, 6, 7, 0, 1, 8, 9, 10] m6 m6 (fun p hp => List.mem_append_right _ hp) ?_
   refine gC ?_; refine Jm (k := 3) O O O O O (fun E' hS => Je (v := .int .i64 (n : Int)) O (.inl (hS _ List.mem_cons_self)) O O) ?_
   refine GN ?_; refine Jm (k := 5) O O O O O (fun E' hS => Je (v := KA 1 p) O (.inl (hS _ List.mem_cons_self)) O O) ?_
   refine FF ?_; refine Jm (k := 7) O O O O O (fun E' hS => KC oR O hst M8 O O) (Jts (k := 0) (T0 := X5 r2 C row own) (L0 := [WG r1 (Ty.mk k (n : Int) p [x0])]) (Rl := []) (List.Perm.refl _) O O O O O Jr5 (Jjl hb1 m5) oN (fun _ p hp => hp) fun u => JZ (k := 1) O O O O O (enters_of Tryz.func218 m6 O) (Jtu (s := C) m5) oN fun x => Jo9 (k := 8) O O O O O (enters_of Tryz.func221 m6 O) hSz (fun q hq => .inr hq) (Jm (k := 9) O O O O O (fun _ _ => (J2 O O O)) (Qt n9 (Qq (k := 10) O O O O O (enters_of Tryz.func220 m6 O) (Jtm (n := n * z) m5) (Ka (Ji O O O Jlj (yu hcn m5 (JQ x.2 m7) (VL _)) (fun q hq => .inl (List.mem_append_left _ hq)) (DE fun w1 hs1 => ?_))))))); rw [if_pos hp]; (try rw [← hz]); (try rw [← hC]); rfl
section
variable {R : Jx} {k n : Int} {p : Pl} {ins : List Ty} {a b c d : Nat} {bits : List Bool} {pb : Pl} {items : List Vl} {pi : Pl} {pick : Int} {s : BS}
theorem J5v (h : PureR Tryz.prog 161 [Ty.val (.mk k n p ins), KA items.length pi].toArray (J5 s) R) : PureR Tryz.prog 160 [Ty.val (.mk k n p ins), Vl.val (.mk a b c d bits pb items pi pick)].toArray (J5 s) R := by
 refine Jc Tryz.func160 O O fun w => NB fun r1 r2 => ?_; refine E7 ?_; refine Ji O O O (enters_of Tryz.func161 m6 O) h oR ?_; exact NU
theorem J5w (hs : Seg R items.length (Ql items) pi) (h32 : s.length = 32) (hl : items.length ≤ 512) (h : PureR Tryz.prog 161 [Ty.val (.mk k n p ins), KA items.length pi].toArray (J5 s) R) : PureR Tryz.prog 162 [Ty.val (.mk k n p ins), Vl.val (.mk a b c d bits pb items pi pick)].toArray (J5 (Yj s items.length)) R := by
 refine Jc Tryz.func162 O O fun w => NB fun r1 r2 => ?_; refine kP ?_; refine JW (k := 3) O O O O O (enters_of Tryz.func161 m6 O) h oR ?_; exact Fa
theorem J5x (h : PureR Tryz.prog 165 [Ty.val (.mk k n p ins), KA bits.length pb].toArray (J5 s) R) : PureR Tryz.prog 164 [Ty.val (.mk k n p ins), Vl.val (.mk a b c d bits pb items pi pick)].toArray (J5 s) R := by
 refine Jc Tryz.func164 O O fun w => NB fun r1 r2 => ?_; refine E7 ?_; refine Ji O O O (enters_of Tryz.func165 m6 O) h oR ?_; exact NU
theorem J5y (hs : Seg R bits.length (W9 bits) pb) (h32 : s.length = 32) (hl : bits.length ≤ 512) (h : PureR Tryz.prog 165 [Ty.val (.mk k n p ins), KA bits.length pb].toArray (J5 s) R) : PureR Tryz.prog 166 [Ty.val (.mk k n p ins), Vl.val (.mk a b c d bits pb items pi pick)].toArray (J5 (Yj s bits.length)) R := by
 refine Jc Tryz.func166 O O fun w => NB fun r1 r2 => ?_; refine kP ?_; refine JW (k := 3) O O O O O (enters_of Tryz.func165 m6 O) h oR ?_; exact Fa
theorem J5z {l : List BS} (hst : Seg R ins.length (Jci ins) p) (hl : l.length ≤ ins.length) (hn : ins.length ≤ 16) (h32 : ∀ s ∈ l, s.length = 32) (h : PureT (α := ZC l) Tryz.prog 169 [Ty.val (.mk k n p ins), KA items.length pi].toArray (fun x => rV x) [] (fun x => rL x) R) :
  PureR Tryz.prog 167 [Ty.val (.mk k n p ins), Vl.val (.mk a b c d bits pb items pi pick)].toArray (J5 (QY l ins.length)) R := by
 refine Jc Tryz.func167 O O fun w => NB fun r1 r2 => ?_; refine Gb ?_
 refine JI [] [(1, .pure), (3, .grow (KD (jd l) (fun x => rV x) (fun x => rL x))), (4, .pure), (6, .pure), (8, .pure)] 9 [0, 1, 2, 4, 5, 6, 3, 7, 8] m6 m6 m8 (JY (k := 0) O O O O O (Jd (xs := (Ty.mk k n p ins).cells) (n := 3) O (kn 1 O) O O (Ty.mk k n p ins).len) ?_)
 refine NJ ?_
 refine GN ?_; refine JY (k := 5) O O O O O (Je O (kn 1 O) O O) (Jm (k := 6) O O O O O (fun _ hS => (Jy O hst O)) (JZ (k := 3) O O O O O (enters_of Tryz.func169 m6 O) h (fun q hq => .inr hq) fun x => JW (k := 7) O O O O O Jlj (yu hl m5 (JQ x.2 m7) h32) (fun q hq => .inl (List.mem_append_left _ hq)) (gS ?_))); exact En
theorem J50 {y : Ty} {x : Vl} (hst : Seg R ins.length (Jci ins) p) (hs : Seg R items.length (Ql items) pi) (hm : m ≤ 8) (hy : ins[m]? = some y) (hx : items[0]? = some x) (h32 : s.length = 32) (h : PureR Tryz.prog 100 [y.val, x.val].toArray (J5 s) R) :
  PureR Tryz.prog 170 [Ty.val (.mk k n p ins), Vl.val (.mk a b c d bits pb items pi (m : Int))].toArray (J5 (Yj s m)) R := by
 have hm1 := (List.getElem?_eq_some_iff.1 hy).1
 have hm2 := (List.getElem?_eq_some_iff.1 hx).1
 refine Jc Tryz.func170 O O fun w => NB fun r1 r2 => ?_; refine Gb ?_
 refine JI [] [(0, .pure), (2, .pure), (4, .pure), (6, .pure), (8, .pure), (11, .pure), (13, .pure), (14, .pure)] 15 [0, 1, 2, 3, 4, 5, 6, 7, 8, 9, 11, 12, 10, 13, 14] m6 m6 m8 ?_
 refine EK ?_; refine JY (k := 1) O O O O O (Je O (kn 1 O) O O) ?_
 refine gC ?_; refine JY (k := 3) O O O O O (Je O (kn 0 O) O O) (Jm (k := 4) O O O O O (fun E' hS => Jk (j := m) O hst O O O O hm1) (JY (k := 5) O O O O O (KC oR O hst hy O O) ?_))
 refine Jm (k := 6) O O O O O (fun _ hS => (J6 O O O)) (JY (k := 7) O O O O O (Je O (kn 0 O) O O) ?_)
 refine Jm (k := 8) O O O O O (fun E' hS => Jk (j := 0) O hs O O O me hm2) (JY (k := 9) O O O O O (QV oR O hs hx O O) ?_)
 refine Jm (k := 11) O O O O O (fun _ hS => (J6 O O O)) (JY (k := 12) O O O O O (Je O (kn 0 O) O O) (JW (k := 10) O O O O O Jld h oR (Qq (k := 13) O O O O O Jr2 (Js8 m5 m5) (Hz ?_)))); exact En
theorem Ys (hlk : KW ZB (.int .i64 k) (rootM.toList.map V9) = some (.func (.func g) #[] #[])) (eg : Enters Tryz.prog g) (hg : PureR Tryz.prog g [Ty.val (.mk k n p ins), Vl.val (.mk a b c d bits pb items pi pick)].toArray (J5 s) R) :
  PureR Tryz.prog 100 [Ty.val (.mk k n p ins), Vl.val (.mk a b c d bits pb items pi pick)].toArray (J5 s) R := by
 refine Jc Tryz.func100 O O fun w => NB fun r1 r2 => ?_; refine kL ?_; refine yV O O fun rm => Qs (q := 0) (key := .int .i64 1) (val := .func (.func 159) #[] #[]) (Yg (t := 3) m6) O O O O O O ⟨_, rfl⟩ (by intro e he; simp at he) rfl rfl ?_
 refine Qs (q := 0) (key := .int .i64 2) (val := .func (.func 159) #[] #[]) (Yg (t := 3) m6) O O O O O O ⟨_, rfl⟩ Mw O O ?_
 refine Qs (q := 0) (key := .int .i64 3) (val := .func (.func 160) #[] #[]) (Yg (t := 3) m6) O O O O O O ⟨_, rfl⟩ Mp O O ?_
 refine Qs (q := 0) (key := .int .i64 4) (val := .func (.func 162) #[] #[]) (Yg (t := 3) m6) O O O O O O ⟨_, rfl⟩ Mf O O ?_
 refine Qs (q := 0) (key := .int .i64 5) (val := .func (.func 164) #[] #[]) (Yg (t := 3) m6) O O O O O O ⟨_, rfl⟩ M2 O O ?_
 refine Qs (q := 0) (key := .int .i64 6) (val := .func (.func 166) #[] #[]) (Yg (t := 3) m6) O O O O O O ⟨_, rfl⟩ nW O O ?_
 refine Qs (q := 0) (key := .int .i64 7) (val := .func (.func 167) #[] #[]) (Yg (t := 3) m6) O O O O O O ⟨_, rfl⟩ nQ O O ?_
 refine Qs (q := 0) (key := .int .i64 8) (val := .func (.func 170) #[] #[]) (Yg (t := 3) m6) O O O O O O ⟨_, rfl⟩ nM O O ?_; change HL _ _ _ ((rm, .map rootM 8) :: _) _ _ _ _; refine XG 9 [2] O O (LR O (XO (v := .func (.func g) #[] #[]) (Yg (t := 3) m6) O O (kn 0 O) O O ⟨_, rfl⟩ Joz (by show (KW ZB (.int .i64 k) (rootM.toList.map V9)).getD _ = _; rw [hlk]; rfl)) (LS 2 [2, 1] rfl rfl (Ji rfl rfl rfl eg hg oR ?_))); exact NU
end
theorem vP {l : List Vl} {k pick : Int} {ins : List Ty} (h : l.length = 1) : (Kg l k pick ins 0).headD [] = KZ (X0 l 0) (JT k pick ins 0) := by
 match l, h with
 | [x], _ => rw [Kg]; rfl
theorem Jg7 {a : Nat} {bits : List Bool} {items : List Vl} {pick k n : Int} {p : Pl} {ins : List Ty} (hcz : chk (.mk k n p ins) 0 = 0) (hfit : Qd (.mk a b c d bits pb items pi pick) (.mk k n p ins) = 0) (hk : k = 3 ∨ k = 4 ∨ k = 7) : (VS k n ins items (Kg items k 0 ins 0)).length = 32 := by
 obtain ⟨q1, q2, q3⟩ := qV hcz hfit
 have hrow := fun (j : Nat) x (h : items[j]? = some x) => Jdk hcz hfit m5 h
 have hrs : ∀ s ∈ Kg items k 0 ins 0, s.length = 32 := fun s hs => by
  obtain ⟨j, x, h1, rfl⟩ := WZ hs
  rw [Nat.zero_add]
  obtain ⟨_, r1, r2, r3⟩ := hrow j x h1
  exact Vx x _ 0 r2 r3
 have hrl := Vw items k 0 ins 0
 unfold VS
 by_cases h7 : k = 7
 ·rw [if_pos h7]
  exact Vv (by have := q3 h7; omega) hrs
 ·rw [if_neg h7]
  obtain ⟨w1, w2, w3, w4⟩ := q1 m5
  match ins, w4 with
  | [x0], _ =>
  rw [show [x0].getD 0 default = x0 from rfl]
  by_cases hp : WJ x0 = true
  ·rw [if_pos hp]
   have hc0 := WL hcz _ List.mem_cons_self
   obtain ⟨f1, f2, f3, f4⟩ := YJ hc0 hp
   refine Vv ?_ (VL _); rw [Yb]
   unfold vO
   have hz : ∀ v ∈ items, (Vj v x0).length = (KX x0).toNat := fun v hv => by
    obtain ⟨j, hj⟩ := List.getElem?_of_mem hv
    have hg := (hrow j v hj).2.2.2
    rw [WM h7 m5] at hg
    have := f4 v hg
    omega
   rw [jc hz]
   have hm : items.length * (KX x0).toNat ≤ n.toNat * (KX x0).toNat := Nat.mul_le_mul_right _ m5
   omega
  ·rw [if_neg hp]
   exact Vv m5 hrs
set_option maxHeartbeats 1000000 in
theorem J2g (hv : v.In R) : ∀ (t : Ty) (dp : Nat), t.In R → chk t (dp : Int) = 0 → Qd v t = 0 → Yy v ≤ 20000 → PureR Tryz.prog 100 [t.val, v.val].toArray (J5 (KZ v t)) R := by
 have hv0 := hv
 induction hv with
 | @mk a b c d bits pb items pi pick ha hb hcc hd hlb hsb hl hs hp hi ih =>
 intro t dp ht hck hfit hw
 obtain ⟨k, n, p, ins⟩ := t
 have ht0 := ht
 cases ht with
 | mk hk hn hlt hst hit =>
 obtain ⟨hk8, ho, h6, hci⟩ := QZ hck
 obtain ⟨hf1, hf2, hf3⟩ := Wv hfit
 obtain ⟨m1, m2, m3, m4⟩ := qT hck hfit
 obtain ⟨q1, q2, q3⟩ := qV hck hfit
 have hcz := zU hck
 have hrow := fun (h8 : k ≠ 8) (j : Nat) x (h : items[j]? = some x) => Jdk hcz hfit h8 h
 have hwi : ∀ x ∈ items, Yy x ≤ 20000 := fun x hx => Nat.le_trans (vN hx) hw
 have hrec : k ≠ 8 → ∀ (i : Nat) x, items[i]? = some x → PureR Tryz.prog 100 [(JT k 0 ins i).val, x.val].toArray (J5 (KZ x (JT k 0 ins i))) R := fun h8 i x hx => by
  exact Df
 have hlen := Vx _ _ dp hck hfit
 rw [Xu] at hlen ⊢
 by_cases h1 : k = 1
 ·subst h1
  rw [if_pos (.inl rfl)]; exact Ys O (enters_of Tryz.func159 m6 O) (Jgw _ hv0).toR
 by_cases h2 : k = 2
 ·subst h2
  rw [if_pos (.inr rfl)]; exact Ys O (enters_of Tryz.func159 m6 O) (Jgw _ hv0).toR
 rw [if_neg m5] at hlen ⊢
 have hone : k ≠ 7 → k ≠ 8 → ∀ x0, ins = [x0] → ∀ N : Nat, n = (N : Int) → N ≤ 512 → items.length ≤ N → PureR Tryz.prog 161 [Ty.val (.mk k n p ins), KA items.length pi].toArray (J5 (VS k n ins items (Kg items k 0 ins 0))) R := fun h7 h8 x0 e N en hN hle => by
  subst e; subst en; refine J2f ht0 h7 h8 (WL hcz _ List.mem_cons_self) hs hle hN (fun v hv => ?_) hwi hi fun i x hx => ?_
  ·obtain ⟨j, hj⟩ := List.getElem?_of_mem hv
   have := (hrow h8 j v hj).2.2.2
   rwa [WM h7 h8] at this
  ·have := hrec h8 i x hx
   rwa [WM h7 h8] at this
 by_cases h4 : k = 4
 ·subst h4
  obtain ⟨w1, w2, w3, w4⟩ := q1 (.inr rfl)
  rw [if_pos rfl, qU m7] at hlen ⊢
  have hrl : (VS 4 n ins items (Kg items 4 0 ins 0)).length = 32 := Jg7 hcz hfit (.inr (.inl rfl))
  obtain ⟨x0, hx0⟩ := List.length_eq_one_iff.1 w4
  exact Ys O (enters_of Tryz.func162 m6 O) (J5w hs hrl m1 (hone m7 m7 x0 hx0 n.toNat m5 m5 m5))
 rw [if_neg h4] at hlen ⊢
 by_cases h5 : k = 5
 ·subst h5
  obtain ⟨w1, w2, w3⟩ := q2 (.inl rfl)
  rw [if_pos rfl] at hlen ⊢; refine Ys O (enters_of Tryz.func164 m6 O) (J5x ?_)
  have := Jmg (k := 5) (p := p) (ins := ins) (l := bits) (n := n.toNat) m5 m5 hsb
  rwa [show ((n.toNat : Nat) : Int) = n by omega] at this
 rw [if_neg h5] at hlen ⊢
 by_cases h6 : k = 6
 ·subst h6
  obtain ⟨w1, w2, w3⟩ := q2 (.inr rfl)
  rw [if_pos rfl] at hlen ⊢; refine Ys O (enters_of Tryz.func166 m6 O) (J5y hsb (Vv (jx w3) (VL _)) m2 ?_)
  have := Jmg (k := 6) (p := p) (ins := ins) (l := bits) (n := n.toNat) m5 m5 hsb
  rwa [show ((n.toNat : Nat) : Int) = n by omega] at this
 rw [if_neg h6] at hlen ⊢
 by_cases h8 : k = 8
 ·subst h8
  obtain ⟨w1, w2, w3, w4⟩ := m4 rfl
  obtain ⟨m, rfl⟩ : ∃ m : Nat, pick = (m : Int) := ⟨pick.toNat, by omega⟩
  have hx8 := V3 (l := items) (i := 0) m5
  have hg := VG (j := 0) hf3 hx8.1
  have hin := Zm (v := .mk a b c d bits pb items pi (m : Int)) (i := 0) hcz hf2 N4
  have hty := Qi hin
  have hX := ih _ hx8.2 (hi _ hx8.2) _ 0 (hit _ hty.2) (WL hcz _ hty.2) hg (hwi _ hx8.2)
  have hXl := Vx _ _ 0 (WL hcz _ hty.2) hg
  rw [if_pos rfl, vP w1, Int.toNat_natCast]; exact Ys O (enters_of Tryz.func170 m6 O) (J50 hst hs m5 (show ins[m]? = some _ from hty.1) hx8.1 hXl hX)
 rw [if_neg h8, qU h8] at hlen ⊢
 by_cases h3 : k = 3
 ·subst h3
  obtain ⟨w1, w2, w3, w4⟩ := q1 (.inl rfl)
  obtain ⟨x0, hx0⟩ := List.length_eq_one_iff.1 w4
  exact Ys O (enters_of Tryz.func160 m6 O) (J5v (hone m7 m7 x0 hx0 n.toNat m5 m5 m5))
 have h7 : k = 7 := by omega
 subst h7
 obtain ⟨w1, w2, w3⟩ := q3 rfl
 have hM : VS 7 n ins items (Kg items 7 0 ins 0) = QY (Kg items 7 0 ins 0) ins.length := by unfold VS; rw [if_pos rfl]
 rw [hM]
 have hrl := Vw items 7 0 ins 0
 refine Ys O (enters_of Tryz.func167 m6 O) (J5z hst m5 w3 (fun s hs => ?_) (Jbb ht0 m7 hs m5 (fun i hi => ?_) (hrec m7)))
 ·exact Dz
 ·show i < ins.length
  omega
def YL (t : Ty) (v : Vl) : BS × Int := if VF t v ≠ 0 then ([], VF t v) else (KZ v t, 0)
theorem Jyx (ht : t.In R) (hv : v.In R) (hw : Yy v ≤ 20000) : PureR Tryz.prog 45 [t.val, v.val].toArray (Wm (YL t v)) R := by
 have h1 := Jsr ht hv
 have h2 := fun h => J2g hv t 0 ht (Zr (t := t) (v := v) h).1 (Zr h).2 hw
 unfold YL
 generalize VF t v = e at h1 h2 ⊢
 generalize KZ v t = s at h2 ⊢
 obtain ⟨k, n, p, ins⟩ := t
 obtain ⟨a, b, c, d, bits, pb, items, pi, pick⟩ := v
 refine Jc Tryz.func45 O O fun w => NB fun r1 r2 => ?_; refine XG 9 [1, 0] O O (Ji O O O (enters_of Tryz.func99 m6 O) h1 oR (H2 ?_)); refine cD (fun g => ?_) fun g => ?_
 refine D4 fun w1 hs1 => ?_; rw [if_pos m5]; rfl
 ·refine Qy 6 [1, 0] O O (Ji O O O Jld (h2 m5) oR (gy ?_)); refine NA fun w1 hs1 => ?_; rw [if_neg m5]; rfl
theorem Jmh {x : Ty} (h : chk x 0 = 0) : WJ x = decide (¬ x.k > 2) := by
 obtain ⟨k, n, p, ins⟩ := x
 obtain ⟨hk, _, _, _⟩ := QZ h
 show (decide (k = 1) || decide (k = 2)) = decide (¬ k > 2)
 by_cases h1 : k = 1
 ·subst h1; rfl
 by_cases h2 : k = 2
 ·subst h2; rfl
 rw [decide_eq_false h1, decide_eq_false h2, decide_eq_false m5]; rfl
theorem Jyy {k n : Int} (hk : 1 ≤ k ∧ k ≤ 8) (h : Km k n m = true) : 0 ≤ n := by
 unfold Km at h
 have h9 : k = 1 ∨ k = 2 ∨ k = 3 ∨ k = 4 ∨ k = 5 ∨ k = 6 ∨ k = 7 ∨ k = 8 := by omega
 rcases h9 with rfl | rfl | rfl | rfl | rfl | rfl | rfl | rfl
 all_goals simp at h
 all_goals omega
theorem Jg8 {k n : Int} {p : Pl} {ins : List Ty} {a : Nat} {bits : List Bool} {items : List Vl} {pick : Int} (ht : Ty.In R (.mk k n p ins)) (hv : Vl.In R (.mk a b c d bits pb items pi pick)) (h8 : k ≠ 8) (hl : items.length ≤ 600) (hx : ∀ i, i < items.length → W1 k 0 i < ins.length)
  (hb : ∀ (i : Nat) x, items[i]? = some x → PureR Tryz.prog 89 [(JT k 0 ins i).val, x.val].toArray (J5 (KZ x (JT k 0 ins i))) R) :
  PureT (α := ZC (Kg items k 0 ins 0)) Tryz.prog 201 [Ty.val (.mk k n p ins), Vl.val (.mk a b c d bits pb items pi pick)].toArray (fun x => rV x) [] (fun x => rL x) R := by
 have hs : Seg R items.length (Ql items) pi := by cases hv; assumption
 have hin := fun i (h : i < items.length) => zC (v := .mk a b c d bits pb items pi pick) (i := i) (y := JT k 0 ins i) ht hv (fun e => absurd e h8) nZ
 have hRL := Vw items k 0 ins 0
 obtain ⟨RS, hRS⟩ : ∃ x, x = Kg items k 0 ins 0 := ⟨_, rfl⟩
 have htk := fun i x (h : items[i]? = some x) => jQ k ins (i := 0) h
 simp only [← hRS, Nat.zero_add] at htk; rw [← hRS] at hRL ⊢; rw [Jdq]; refine J4 Tryz.func201 O O fun w => NB fun r1 r2 => ?_; refine JN 15 O (Jw (σ := Nat × QC) (fun q => q.1 ≤ items.length ∧ rowOk 1 q.1 (V1 (RS.take q.1)) q.2) (fun q => [(2, Wn r1), (3, Wn r2), (5, J9 q.1 q.2), (6, .int .i64 (q.1 : Int))]) (fun q => Xq r2 (Vl.mk a b c d bits pb items pi pick) :: WG r1 (Ty.mk k n p ins) :: JE 9 (V1 (RS.take q.1)) q.2) (fun _ _ _ => True) (fun q => items.length - q.1) (0, none) ⟨Nat.zero_le _, rfl, rfl⟩ (lK O) (List.Sublist.refl _) (fun _ _ h => h) ?_); rintro ⟨i, row⟩ ⟨hi1, hrow⟩; simp only at hi1 hrow; change HC _ _ [(2, _), (3, _), (5, J9 i row), (6, .int .i64 (i : Int))] ((r2, _) :: (r1, _) :: JE _ (V1 (RS.take i)) row) _ _ _; refine Gw ?_; refine cD (fun g => ?_) fun g => ?_
 ·refine FR ?_
  have hil : i < items.length := by omega
  have hix := V3 hil
  have hini := hin i hil
  have hbi := hb i _ hix.1
  obtain ⟨sv, hsv⟩ : ∃ x, x = KZ (X0 items i) (JT k 0 ins i) := ⟨_, rfl⟩
  have htki := htk i _ hix.1
  rw [← hsv] at hbi htki
  refine JI [] [(0, .pure), (3, .pure), (5, .pure), (7, .pure), (8, .pure), (11, .grow (Vu (slV 1) (.cells #[J5 sv] 9 (0, 0))))] 12 [0, 1, 2, 3, 4, 5, 6, 7, 8, 9, 10, 11] m6 m6 m8 (Hk ?_); refine JY (k := 1) O O O O O (Jd (xs := (Ty.mk k n p ins).cells) (n := 3) O (kn 1 O) O O (Ty.mk k n p ins).len) (JY (k := 2) O O O O O (Jd (xs := (Vl.mk a b c d bits pb items pi pick).cells) (n := 7) O (kn 0 O) O O (Vl.mk a b c d bits pb items pi pick).len) (Jm (k := 3) O O O O O (fun _ hS => (Jg O)) (JW (k := 4) O O O O O Jr9 hini oR ?_)))
  refine Jm (k := 5) O O O O O (fun _ hS => (J6 O O O)) (JY (k := 6) O O O O O (Je O (kn 0 O) O O) (Jm (k := 7) O O O O O (fun _ hS => (Jg O)) ?_))
  refine Jm (k := 8) O O O O O (fun E' hS => Jk (j := i) O hs O O O me hil) (JY (k := 9) O O O O O (QV oR O hs hix.1 O O) (JW (k := 10) O O O O O Jxs hbi oR (Va (k := 11) (n := 1) (sz := 1) (vs := [_]) (zs := [_]) (r := [J5 sv]) O O O O O O O O O O O mg O fun rv => Ka (JA (L0 := [_, _, _]) (xs := V1 (RS.take i)) (row := row) (n := i) (sz := 1) (b := 16) (news := [J5 sv]) (List.perm_append_comm (l₁ := [_, _, _])) O O O O (kn 0 O) O O O O O m7 O O O m7 hrow m5 m5 fun ra cap sp hra => gY ?_)))); refine NX ?_; refine KU [2, 3, 0] (L' := [_, _, _]) m7 O ?_; exact Jo (i + 1, some (ra, cap, sp)) ⟨by simp only; omega, by simp only; rw [htki, Wf]; exact hra⟩ mh (lK O) Mc (fun _ _ h => h)
 ·refine NO ?_
  have hin2 : i = items.length := by omega
  rw [hin2, ← hRL, List.take_length] at hrow; rw [hin2, ← hRL, List.take_length]; refine Kk 6 O (NW fun w1 hs1 => ?_); exact ⟨⟨row, hrow⟩, rfl, hs1.weakL (.cons _ (.cons _ (List.Sublist.refl _)))⟩
set_option maxHeartbeats 1000000 in
theorem Jyz {k : Int} {n : Nat} {p : Pl} {a : Nat} {bits : List Bool} {items : List Vl} {pick : Int} (ht : Ty.In R (.mk k (n : Int) p [x0])) (hv : Vl.In R (.mk a b c d bits pb items pi pick)) (hk7 : k ≠ 7) (hk8 : k ≠ 8) (hc : chk x0 0 = 0) (hl : items.length ≤ n) (hn : n ≤ 512)
  (hfit : ∀ v ∈ items, Qd v x0 = 0) (hw : ∀ v ∈ items, Yy v ≤ 20000) (hIn : ∀ v ∈ items, v.In R)
  (hb : ∀ (i : Nat) x, items[i]? = some x → PureR Tryz.prog 89 [x0.val, x.val].toArray (J5 (KZ x x0)) R) :
  PureR Tryz.prog 141 [Ty.val (.mk k (n : Int) p [x0]), Vl.val (.mk a b c d bits pb items pi pick)].toArray (J5 (VS k (n : Int) [x0] items (Kg items k 0 [x0] 0))) R := by
 have hs : Seg R items.length (Ql items) pi := by cases hv; assumption
 have hro := Jg8 ht hv hk8 m5 (fun i _ => by unfold W1; rw [if_neg hk7, if_neg hk8]; exact Nat.lt_succ_self 0) (fun i x hx => by rw [WM hk7 hk8]; exact hb i x hx)
 have hrl := Vw items k 0 [x0] 0
 have hr32 : ∀ s ∈ Kg items k 0 [x0] 0, s.length = 32 := fun s hs => by
  obtain ⟨j, x, h1, rfl⟩ := WZ hs
  rw [WM hk7 hk8]; exact Vx x x0 0 hc (hfit x (List.mem_of_getElem? h1))
 have hM : VS k (n : Int) [x0] items (Kg items k 0 [x0] 0) = if WJ x0 = true then QY (Wo (WK items x0)) ((n * (KX x0).toNat + 31) / 32) else QY (Kg items k 0 [x0] 0) n := by
  unfold VS
  rw [if_neg hk7]; rfl
 rw [hM, Jmh hc]
 have hx0 := ht.sub x0 List.mem_cons_self
 cases ht with
 | @mk k n p ins hk hn2 hlt hst hit =>
 refine Jc Tryz.func141 O O fun w => NB fun r1 r2 => ?_; refine Goc 11 [1] O O (J7 O (fun h4 => ?_) (fun h4 => ?_))
 exact absurd h4 (by simpa using hk7)
 ·try simp only [ZZ] at h4
  refine Qy 7 [1] O O ?_
  refine LR O (Jk (j := 0) O hst O O O me (Nat.lt_succ_self 0)) (LR O (JV (off' := Xe p) O O O) (LR O (qt (j := 0) (v := .int .i64 x0.k) oR O hst (Nat.lt_succ_self 0) O (by cases x0; rfl)) (ki ?_))); refine cD (fun g => ?_) fun g => ?_
  refine HS ?_
  refine JI [] [(2, .grow (KD (jd (Kg items k 0 [x0] 0)) (fun x => rV x) (fun x => rL x))), (3, .pure), (6, .pure)] 7 [0, 1, 3, 4, 2, 5, 6] m6 m6 m8 (JY (k := 0) O O O O O (Jd (xs := (Ty.mk k (n : Int) p [x0]).cells) (n := 3) O (kn 1 O) O O (Ty.mk k (n : Int) p [x0]).len) (G1 ?_))
  refine JZ (k := 2) O O O O O (enters_of Tryz.func201 m6 O) hro (fun q hq => by first | exact .inr hq | cases hq) fun x => ?_; refine JW (k := 5) O O O O O zA (Zp (m := n) m5 m5 (JQ x.2 m7) hr32) (fun q hq => .inl (List.mem_append_left _ hq)) ?_; refine Jm (k := 6) O O O O O (fun _ hS => (J8 O)) ?_; refine Ka ?_; refine DE fun w1 hs1 => ?_; rw [if_neg (by rw [decide_eq_true_eq]; omega)]; rfl
  ·refine GU ?_
   have hk2 : ¬ x0.k > 2 := by omega
   have hp : WJ x0 = true := by rw [Jmh hc]; exact decide_eq_true hk2
   obtain ⟨f1, f2, f3, f4⟩ := YJ hc hp
   obtain ⟨z, hz⟩ : ∃ z, z = (KX x0).toNat := ⟨_, rfl⟩
   have hSz := zB hx0
   have hsz : ZA x0 = (z : Int) := by unfold ZA; rw [if_pos f1]; omega
   rw [hsz] at hSz
   have hnz : n * z ≤ 16384 := by
    have := Nat.mul_le_mul hn (show z ≤ 32 by omega)
    omega
   obtain ⟨C, hC⟩ : ∃ C, C = WK items x0 := ⟨_, rfl⟩
   have hCl : C.length = items.length * z := by rw [hC]; exact jc fun v hv => by have := f4 v (hfit v hv); omega
   have hCn : C.length ≤ n * z := by rw [hCl]; exact Nat.mul_le_mul_right _ hl
   have hcn : (Wo C).length ≤ (n * z + 31) / 32 := by rw [Yb]; unfold vO; omega
   refine JC 11 O (Jw (σ := Nat) (fun i => i ≤ items.length) (fun i => [(2, Wn r1), (3, Wn r2), (5, J5 (WK (items.take i) x0)), (6, .int .i64 (i : Int))]) (fun _ => [Xq r2 (Vl.mk a b c d bits pb items pi pick), WG r1 (Ty.mk k (n : Int) p [x0])]) (fun _ _ _ => True) (fun i => items.length - i) 0 (Nat.zero_le _) (lK O) (List.Sublist.refl _) (fun _ _ h => h) ?_); intro i hi1; change HC _ _ _ ((r2, _) :: (r1, _) :: []) _ _ _; refine Gw ?_; refine cD (fun g => ?_) fun g => ?_
   ·refine FR ?_
    have hil : i < items.length := by omega
    have hix := V3 hil
    have hpr := Zu hc hp (hfit _ hix.2)
    have hby := Jth (hIn _ hix.2) x0 0 hx0 hc (hfit _ hix.2) (hw _ hix.2)
    have hsn := Jbc (x := x0) hix.1
    have hcl := Jdr (x := x0) (l := items.take i) fun v hv => (Zu hc hp (hfit v (List.mem_of_mem_take hv))).2
    rw [List.length_take] at hcl
    have hp2 := hpr.2
    refine JK 13 m6 m6 (Nm ?_)
    refine Hn ?_; refine Ja O O O (Je O (kn 1 O) O O) ?_
    refine ED ?_
    refine Nx ?_; refine Nm ?_
    refine kW ?_; refine Ja O O O (QV oR O hs hix.1 O O) (Vt O O O Jr4 hby oR (Ja O O O (KB (a := WK (items.take i) x0) (b := Vj (X0 items i) x0) O O m5) (Ks (show _ = J5 (WK (items.take (i + 1)) x0) from by rw [hsn]) (NP ?_)))); refine Gu ?_; refine NX ?_; exact NE
   ·refine NO ?_
    have hie : i = items.length := by omega
    rw [hie, List.take_length, ← hC]
    refine JI [] [(0, .pure), (1, .grow (KD (jd (Wo C)) (fun x => rV x) (fun x => rL x))), (2, .pure), (4, .pure), (6, .pure), (9, .pure), (10, .pure), (11, .pure), (13, .pure)] 14 [0, 2, 3, 4, 5, 6, 7, 1, 8, 9, 10, 11, 12, 13] m6 m6 m8 (Hk ?_)
    refine gC ?_; refine JY (k := 3) O O O O O (Je O (kn 1 O) O O) ?_
    refine GN ?_; refine JY (k := 5) O O O O O (Je O (kn 1 O) O O) ?_
    refine FF ?_; refine JY (k := 7) O O O O O (KC oR O hst M8 O O) ?_
    refine JZ (k := 1) O O O O O Jf8 (Yd (s := C) m5) (fun q hq => by first | exact .inr hq | cases hq) fun x => ?_; refine JW (k := 8) O O O O O (enters_of Tryz.func203 m6 O) hSz oR ?_; refine Jm (k := 9) O O O O O (fun _ _ => (J2 O O O)) ?_; refine Qt n9 ?_
    refine Jm (k := 10) O O O O O (fun _ _ => (J2 O O O)) (Qt (show _ = Value.int .i64 ((n * z + 31 : Nat) : Int) from congrArg (Value.int .i64) mf) ?_)
    refine Jm (k := 11) O O O O O (fun _ _ => (J2 O O O)) (Qt (show _ = Value.int .i64 (((n * z + 31) / 32 : Nat) : Int) from congrArg (Value.int .i64) mf) (JW (k := 12) rfl rfl rfl rfl rfl zA (Zp hcn m5 (JQ x.2 m7) (VL _)) (fun q hq => .inl (List.mem_append_left _ hq)) (Jm (k := 13) rfl rfl rfl rfl rfl (fun _ hS => (J8 rfl)) (Ka (H6 ?_))))); refine Ni fun w1 hs1 => ?_; rw [if_pos (decide_eq_true hk2)]; (try rw [← hz]); (try rw [← hC]); rfl
theorem Jy0 {n : Int} {p : Pl} {ins : List Ty} {a : Nat} {bits : List Bool} {items : List Vl} {pick : Int} {l : List BS} (hst : Seg R ins.length (Jci ins) p) (hl : l.length ≤ ins.length) (hn : ins.length ≤ 16) (h32 : ∀ s ∈ l, s.length = 32)
  (h : PureT (α := ZC l) Tryz.prog 201 [Ty.val (.mk 7 n p ins), Vl.val (.mk a b c d bits pb items pi pick)].toArray (fun x => rV x) [] (fun x => rL x) R) :
  PureR Tryz.prog 141 [Ty.val (.mk 7 n p ins), Vl.val (.mk a b c d bits pb items pi pick)].toArray (J5 (QY l ins.length)) R := by
 refine Jc Tryz.func141 O O fun w => NB fun r1 r2 => ?_; refine Goc 11 [1] O O (J7 O (fun h4 => ?_) (fun h4 => ?_))
 try simp only [ZZ] at h4
 refine HS ?_
 refine JI [] [(2, .grow (KD (jd l) (fun x => rV x) (fun x => rL x))), (3, .pure), (5, .pure), (7, .pure)] 8 [0, 1, 3, 4, 5, 2, 6, 7] m6 m6 m8 (JY (k := 0) O O O O O (Jd (xs := (Ty.mk 7 n p ins).cells) (n := 3) O (kn 1 O) O O (Ty.mk 7 n p ins).len) (G1 ?_)); refine Jm (k := 5) O O O O O (fun _ hS => (Jy O hst O)) ?_
 refine JZ (k := 2) O O O O O (enters_of Tryz.func201 m6 O) h (fun q hq => by first | exact .inr hq | cases hq) fun x => ?_; refine JW (k := 6) O O O O O zA (Zp hl m5 (JQ x.2 m7) h32) (fun q hq => .inl (List.mem_append_left _ hq)) ?_; refine Jm (k := 7) O O O O O (fun _ hS => (J8 O)) ?_; refine Ka ?_; exact NU
 ·exact absurd h4 m7
set_option maxHeartbeats 1000000 in
theorem J4b (hv : v.In R) : ∀ (t : Ty) (dp : Nat), t.In R → chk t (dp : Int) = 0 → Qd v t = 0 → Yy v ≤ 20000 → PureR Tryz.prog 89 [t.val, v.val].toArray (J5 (KZ v t)) R := by
 have hv0 := hv
 induction hv with
 | @mk a b c d bits pb items pi pick ha hb hcc hd hlb hsb hl hs hp hi ih =>
 intro t dp ht hck hfit hw
 obtain ⟨k, n, p, ins⟩ := t
 have ht0 := ht
 cases ht with
 | mk hk hn hlt hst hit =>
 obtain ⟨hk8, ho, h6, hci⟩ := QZ hck
 obtain ⟨N, rfl⟩ : ∃ N : Nat, n = (N : Int) := ⟨n.toNat, by have := Jyy hk8 ho; omega⟩
 obtain ⟨hf1, hf2, hf3⟩ := Wv hfit
 obtain ⟨m1, m2, m3, m4⟩ := qT hck hfit
 obtain ⟨q1, q2, q3⟩ := qV hck hfit
 have hcz := zU hck
 have hwd : WOk [a, b, c, d] := ⟨rfl, fun x hx => by simp at hx; rcases hx with rfl | rfl | rfl | rfl <;> assumption⟩
 have hrow := fun (h8 : k ≠ 8) (j : Nat) x (h : items[j]? = some x) => Jdk hcz hfit h8 h
 have hwi : ∀ x ∈ items, Yy x ≤ 20000 := fun x hx => Nat.le_trans (vN hx) hw
 have hrec : k ≠ 8 → ∀ (i : Nat) x, items[i]? = some x → PureR Tryz.prog 89 [(JT k 0 ins i).val, x.val].toArray (J5 (KZ x (JT k 0 ins i))) R := fun h8 i x hx => by
  exact Df
 have hrw : k = 3 ∨ k = 4 ∨ k = 7 → PureR Tryz.prog 141 [Ty.val (.mk k (N : Int) p ins), Vl.val (.mk a b c d bits pb items pi pick)].toArray (J5 (VS k (N : Int) ins items (Kg items k 0 ins 0))) R := fun hk => by
  by_cases h7 : k = 7
  subst h7
  obtain ⟨w1, w2, w3⟩ := q3 rfl
  have hM : VS 7 (N : Int) ins items (Kg items 7 0 ins 0) = QY (Kg items 7 0 ins 0) ins.length := by unfold VS; rw [if_pos rfl]
  rw [hM]
  have hrl := Vw items 7 0 ins 0
  refine Jy0 hst m5 w3 (fun s hs => ?_) (Jg8 ht0 hv0 m7 m5 (fun i hi => ?_) (hrec m7))
  exact Dz
  show i < ins.length
  omega
  obtain ⟨w1, w2, w3, w4⟩ := q1 m5
  obtain ⟨x0, hx0⟩ := List.length_eq_one_iff.1 w4
  subst hx0
  have h8 : k ≠ 8 := by omega
  refine Jyz ht0 hv0 h7 h8 (WL hcz _ List.mem_cons_self) m5 m5 (fun v hv => ?_) hwi hi fun i x hx => ?_
  obtain ⟨j, hj⟩ := List.getElem?_of_mem hv
  have := (hrow h8 j v hj).2.2.2
  rwa [WM h7 h8] at this
  have := hrec h8 i x hx
  rwa [WM h7 h8] at this
 have hrl32 : k = 3 ∨ k = 4 ∨ k = 7 → (VS k (N : Int) ins items (Kg items k 0 ins 0)).length = 32 := fun hk => Jg7 hcz hfit hk
 obtain ⟨RM, hRM⟩ : ∃ x, x = VS k (N : Int) ins items (Kg items k 0 ins 0) := ⟨_, rfl⟩
 have hRM8 : k ≠ 8 → VS k (N : Int) ins items (Kg items k pick ins 0) = RM := fun h8 => by rw [qU h8, hRM]
 rw [← hRM] at hrw hrl32
 obtain ⟨PB, hPB⟩ : ∃ x, x = WB bits := ⟨_, rfl⟩
 have hnb : k = 5 ∨ k = 6 → (Wo PB).length ≤ (N + 255) / 256 := fun h => by have := jx (q2 h).2.2; rw [hPB]; simpa using this
 have hpl : PB.length ≤ 64 := by rw [hPB, Y8]; omega
 have hpk := vM (l := bits) (p := pb) m5 hsb
 rw [← hPB] at hpk; rw [Xu, ← hPB]; refine Jc Tryz.func89 O O fun w => NB fun r1 r2 => ?_; refine Goc 18 [1] O O (cD (fun h6 => ?_) fun h6 => ?_)
 refine JC 2 O (cD (fun h7 => ?_) fun h7 => ?_)
 exact ET
 refine NO ?_; refine cD (fun g => ?_) fun g => ?_
 refine D0 ?_; refine gy ?_; refine Ni fun w1 hs1 => ?_
 exfalso; omega
 refine NO ?_; refine cD (fun g => ?_) fun g => ?_
 refine HS ?_
 have hN5 := (q2 m5).2.1
 refine GO fun x => ?_; refine Ni fun w1 hs1 => ?_
 exfalso; omega
 refine NO ?_; refine cD (fun g => ?_) fun g => ?_
 refine HS ?_
 have hN5 := (q2 m5).2.1
 refine EW fun x w1 hs1 => ?_
 exfalso; omega
 refine NO ?_; refine cD (fun g => ?_) fun g => ?_
 refine HS ?_
 have hk0 : k = 8 := by assumption
 obtain ⟨h81, h82, h83, h84⟩ := m4 hk0
 have hx8 := V3 (l := items) (i := 0) m5
 have hin8 := Zm (v := .mk a b c d bits pb items pi pick) (i := 0) hcz hf2 N4
 have hty8 := Qi hin8
 have hix8 : W1 k (Vl.pick (.mk a b c d bits pb items pi pick)) 0 = pick.toNat := by unfold W1; rw [if_neg m5, if_pos hk0]; rfl
 rw [hix8] at hty8
 have hg8 := VG (j := 0) hf3 hx8.1
 have hrec8 := ih _ hx8.2 (hi _ hx8.2) _ 0 (hit _ hty8.2) (WL hcz _ hty8.2) hg8 (hwi _ hx8.2)
 have hXl := Vx _ _ 0 (WL hcz _ hty8.2) hg8
 have hro8 := vP (k := k) (pick := pick) (ins := ins) h81
 refine H7 ?_; refine Ni fun w1 hs1 => ?_
 exfalso; omega
 refine gX ?_; refine DE fun w1 hs1 => ?_
 exfalso; omega
 ·refine gk ?_; refine cD (fun g => ?_) fun g => ?_
  exact ET
  ·refine NO ?_; refine cD (fun g => ?_) fun g => ?_
   refine D0 ?_; refine gy ?_; refine Ni fun w1 hs1 => ?_; rw [if_neg m5, if_pos m5, hRM8 m5]; rfl
   ·refine NO ?_; refine cD (fun g => ?_) fun g => ?_
    refine HS ?_
    have hN5 := (q2 m5).2.1
    refine GO fun x => ?_; refine Ni fun w1 hs1 => ?_; rw [if_neg m5, if_neg m5, if_pos m5]; rfl
    ·refine NO ?_; refine cD (fun g => ?_) fun g => ?_
     refine HS ?_
     have hN5 := (q2 m5).2.1
     refine EW fun x w1 hs1 => ?_; rw [if_neg m5, if_neg m5, if_neg m5, if_pos m5]; rfl
     ·refine NO ?_; refine cD (fun g => ?_) fun g => ?_
      refine HS ?_
      have hk0 : k = 8 := by assumption
      obtain ⟨h81, h82, h83, h84⟩ := m4 hk0
      have hx8 := V3 (l := items) (i := 0) m5
      have hin8 := Zm (v := .mk a b c d bits pb items pi pick) (i := 0) hcz hf2 N4
      have hty8 := Qi hin8
      have hix8 : W1 k (Vl.pick (.mk a b c d bits pb items pi pick)) 0 = pick.toNat := by unfold W1; rw [if_neg m5, if_pos hk0]; rfl
      rw [hix8] at hty8
      have hg8 := VG (j := 0) hf3 hx8.1
      have hrec8 := ih _ hx8.2 (hi _ hx8.2) _ 0 (hit _ hty8.2) (WL hcz _ hty8.2) hg8 (hwi _ hx8.2)
      have hXl := Vx _ _ 0 (WL hcz _ hty8.2) hg8
      have hro8 := vP (k := k) (pick := pick) (ins := ins) h81
      refine H7 ?_; refine Ni fun w1 hs1 => ?_; rw [if_neg m5, if_neg m5, if_neg m5, if_neg m5, if_pos m5, hro8]; rfl
      ·refine gX ?_; refine DE fun w1 hs1 => ?_; rw [if_neg m5, if_neg m5, if_neg m5, if_neg m5, if_neg m5, hRM8 m5]; rfl
theorem Jmi (l : List Vl) : (yw l).length = l.length := by rw [Xi, List.length_map]
theorem J0y : ∀ l : List Vl, (∀ x ∈ l, Yy (jy x) = Yy x) → wL (yw l) = wL l
 | [], _ => by rw [yw]
 | x :: xs, h => by rw [yw, wL, wL, h x List.mem_cons_self, J0y xs fun y hy => h y (List.mem_cons_of_mem _ hy)]
theorem J0z (v : Vl) : Yy (jy v) = Yy v := by
 induction v using Vl.ind with
 | h a b c d bits pb items pi pick ih => rw [Xa, Yy, Yy, J0y items ih]
theorem Jmj (k pick : Int) (ins : List Ty) : ∀ (l : List Vl), (∀ x ∈ l, ∀ t, Qd (jy x) t = Qd x t) → ∀ i : Nat, Vh (yw l) k pick ins i = Vh l k pick ins i
 | [], _, i => by rw [yw]
 | x :: xs, h, i => by rw [yw, Vh, Vh, h x List.mem_cons_self, Jmj k pick ins xs fun y hy => h y (List.mem_cons_of_mem _ hy)]
theorem J2h (k n : Int) (m : Nat) (v : Vl) : ofT k n m (jy v) = ofT k n m v := by
 obtain ⟨a, b, c, d, bits, pb, items, pi, pick⟩ := v
 rw [Xa]; rw [VQ k n m a b c d bits none (yw items) none pick _ rfl, VQ k n m a b c d bits pb items pi pick _ rfl]; simp only [VE, Jmi]
theorem Jtw (v : Vl) : ∀ t, Qd (jy v) t = Qd v t := by
 induction v using Vl.ind with
 | h a b c d bits pb items pi pick ih =>
 intro t
 obtain ⟨k, n, p, ins⟩ := t
 have hl := Jmi items
 have ho := J2h k n ins.length (.mk a b c d bits pb items pi pick)
 rw [Xa] at ho ⊢; rw [Qd, Qd, hl, Jmj k pick ins items ih, ho]
theorem Jtx (t : Ty) : (Zs t).k = t.k := by cases t; rw [Zs]; rfl
theorem J00 (t : Ty) : (Zs t).n = t.n := by cases t; rw [Zs]; rfl
theorem Jmk (t : Ty) : (Zs t).ins = XE t.ins := by cases t; rw [Zs]; rfl
theorem erT_def : Zs default = default := by show Zs (.mk 0 0 none []) = .mk 0 0 none []; rw [Zs, XE]
mutual
theorem yz : ∀ (t : Ty) (d : Int), chk (Zs t) d = chk t d
 | .mk k n p ins, d => by rw [Zs, chk, chk, Jg9 ins, zZ]
theorem Jg9 : ∀ (l : List Ty) (d : Int), Xx (XE l) d = Xx l d
 | [], _ => by rw [XE]
 | x :: xs, d => by rw [XE, Xx, Xx, yz x, Jg9 xs]
end
mutual
theorem Jha : ∀ (t : Ty), WA (Zs t) = WA t
 | .mk k n p ins => by rw [Zs, WA, WA, Jhb ins]
theorem Jhb : ∀ (l : List Ty), ZN (XE l) = ZN l
 | [] => by rw [XE]
 | x :: xs => by rw [XE, ZN, ZN, Jha x, Jhb xs]
end
mutual
theorem xf : ∀ (t : Ty), KX (Zs t) = KX t
 | .mk k n p ins => by rw [Zs, KX, KX, Jhc ins]
theorem Jhc : ∀ (l : List Ty), V7 (XE l) = V7 l
 | [] => by rw [XE]
 | x :: xs => by rw [XE, V7, V7, xf x, Jhc xs]
end
theorem Jbd (t : Ty) : VD (Zs t) = VD t := by unfold VD; rw [yz, Jha]
theorem Jty (t : Ty) : xR (Zs t) = xR t := by unfold xR; rw [Jbd, xf]
theorem Jhd : ∀ l : List Ty, Vc (l.map Zs) = Vc l
 | [] => rfl
 | x :: xs => by rw [List.map_cons, Vc, Vc, Jty, Jhd xs]
theorem Jhe (ins : List Ty) (i : Nat) : (XE ins).getD i default = Zs (ins.getD i default) := by
 rw [zY, List.getD_eq_getElem?_getD, List.getD_eq_getElem?_getD, List.getElem?_map]
 cases ins[i]? with
 | none => exact erT_def.symm
 | some x => rfl
theorem xg (k pick : Int) (ins : List Ty) (i : Nat) : JT k pick (XE ins) i = Zs (JT k pick ins i) := by unfold JT; exact Jhe ins _
mutual
theorem Jds : ∀ (v : Vl) (t : Ty), Qd v (Zs t) = Qd v t
 | .mk a b c d bits pb items pi pick, .mk k n p ins => by rw [Zs, Qd, Qd, zZ, Jhf items]
theorem Jhf : ∀ (l : List Vl) (k pick : Int) (ins : List Ty) (i : Nat), Vh l k pick (XE ins) i = Vh l k pick ins i
 | [], _, _, _, _ => by rw [Vh, Vh]
 | x :: xs, k, pick, ins, i => by rw [Vh, Vh, xg, Jds x, Jhf xs]
end
theorem Jtz (t : Ty) (v : Vl) : VF (Zs t) v = VF t v := by unfold VF; rw [yz, Jds]
theorem xh (h : Nat) : ∀ (l : List (Ty × BS)) (f th : BS), YD h (l.map fun p => (Zs p.1, p.2)) f th = YD h l f th
 | [], f, th => rfl
 | (x, s) :: l, f, th => by rw [List.map_cons, YD, YD, Jbd, xh h l, xh h l]
mutual
theorem Jml : ∀ (v : Vl) (t : Ty), Vj v (Zs t) = Vj v t
 | .mk a b c d bits pb items pi pick, t => by
  have h1 : ((Qr items t.k pick t.ins 0).map fun p => (Zs p.1, p.2)).headD (default, []) = (fun p : Ty × BS => (Zs p.1, p.2)) ((Qr items t.k pick t.ins 0).headD (default, [])) := by
   cases Qr items t.k pick t.ins 0 with
   | nil => show (default, []) = (Zs default, []); rw [erT_def]
   | cons x l => rfl
  have h2 : (((Qr items t.k pick t.ins 0).map fun p => (Zs p.1, p.2)).map Prod.fst) = ((Qr items t.k pick t.ins 0).map Prod.fst).map Zs := by rw [List.map_map, List.map_map]; rfl
  rw [Vj, Vj, Jtx, J00, Jmk, Jhg items, xh, h1, h2, Jhd]
theorem Jhg : ∀ (l : List Vl) (k pick : Int) (ins : List Ty) (i : Nat), Qr l k pick (XE ins) i = (Qr l k pick ins i).map fun p => (Zs p.1, p.2)
 | [], _, _, _, _ => by rw [Qr, Qr]; rfl
 | x :: xs, k, pick, ins, i => by rw [Qr, Qr, xg, Jml x, Jhg xs]; rfl
end
theorem Jt0 (items : List Vl) (x : Ty) : WK items (Zs x) = WK items x := by unfold WK; rw [List.map_congr_left fun v _ => Jml v x]
theorem Jt1 (k n : Int) (ins : List Ty) (items : List Vl) (rs : List BS) : VS k n (XE ins) items rs = VS k n ins items rs := by
 unfold VS WJ
 rw [Jhe, zZ, Jtx, Jt0, xf]
mutual
theorem xj : ∀ (v : Vl) (t : Ty), KZ v (Zs t) = KZ v t
 | .mk a b c d bits pb items pi pick, t => by rw [KZ, KZ, Jtx, J00, Jmk, Jbe items, Jt1]
theorem Jbe : ∀ (l : List Vl) (k pick : Int) (ins : List Ty) (i : Nat), Kg l k pick (XE ins) i = Kg l k pick ins i
 | [], _, _, _, _ => by rw [Kg, Kg]
 | x :: xs, k, pick, ins, i => by rw [Kg, Kg, xg, xj x, Jbe xs]
end
theorem Jpa (t : Ty) (v : Vl) : YL (Zs t) v = YL t v := by unfold YL; rw [Jtz, xj]
def wO (x : BS × BS) : Vl := Qv [xK x.1, xK x.2] 0
def acV (a : AcE) : Vl := Qv [xK a.addr, .mk a.nonce 0 0 0 [] none [] none 0, .mk a.bal.a a.bal.b a.bal.c a.bal.d [] none [] none 0, xK a.code, Qv (a.slots.map wO) 0] 0
def YM (l : List AcE) : Vl := Qv (l.map acV) 0
theorem yA : chk ZG 0 = 0 := by decide +kernel
def Q6 (l : List AcE) : BS × Int := if KP l ≠ 0 then ([], KP l) else YL ZG (YM l)
theorem qY {s : BS} (hl : s.length ≤ 100000) : PureT (α := VR (xK s)) Tryz.prog 146 [J5 s].toArray (fun y => y.x.val) [] (fun y => y.L) [] := by
 refine J4 Tryz.func146 O O fun w => Nj fun r1 => ?_; refine EJ ?_; refine LN O fun r2 => ?_
 refine NQ ?_; refine H2 ?_; refine Jw (σ := Nat × QC) (fun q => q.1 ≤ s.length ∧ rowOk 7 q.1 (Ql ((s.take q.1).map Zt)) q.2) (fun q => [(0, J5 s), (2, Wn r1), (3, Wn r2), (4, .int .i64 (q.1 : Int))]) (fun q => (r2, .cells #[.int .u64 0, .int .u64 0, .int .u64 0, .int .u64 0, .slice none 0 0, J9 q.1 q.2, .int .i64 0] 89 (0, 0)) :: (r1, .cells #[.int .u64 0, .int .u64 0, .int .u64 0, .int .u64 0, .slice none 0 0, .slice none 0 0, .int .i64 0] 89 (0, 0)) :: JE 89 (Ql ((s.take q.1).map Zt)) q.2) (fun _ _ _ => True) (fun q => s.length - q.1) (0, none) ⟨Nat.zero_le _, rfl, rfl⟩ (lK O) (List.Sublist.refl _) (fun _ _ h => h) ?_; rintro ⟨i, row⟩ ⟨hi1, hrow⟩; simp only at hi1 hrow; change HC _ _ [(0, J5 s), (2, Wn r1), (3, Wn r2), (4, .int .i64 (i : Int))] ((r2, .cells #[.int .u64 0, .int .u64 0, .int .u64 0, .int .u64 0, .slice none 0 0, J9 i row, .int .i64 0] 89 (0, 0)) :: (r1, .cells #[.int .u64 0, .int .u64 0, .int .u64 0, .int .u64 0, .slice none 0 0, .slice none 0 0, .int .i64 0] 89 (0, 0)) :: JE 89 (Ql ((s.take i).map Zt)) row) _ _ _; refine gn ?_; refine gt ?_; refine ki ?_; refine cD (fun g => ?_) fun g => ?_
 ·refine FR ?_
  refine NV ?_; refine Jm (k := 6) O O O O O (fun _ hS => (Ju (r := [_, _, _, _]) O O)) (G7 fun rb => ?_); refine JA (L0 := [_, _, _]) (xs := Ql ((s.take i).map Zt)) (row := row) (n := i) (sz := 7) (b := 88) (news := [_, _, _, _, _, _, _]) (List.perm_append_comm (l₁ := [_, _, _])) O O O O (kn 0 O) O O O O O m7 O O O m7 hrow m5 m5 fun ra cap sp hra => ?_
  refine Hp ?_; refine Gu ?_; exact GP
 ·refine NO ?_
  have honeV : ([.int .u64 0, .int .u64 0, .int .u64 0, .int .u64 0, .slice none 0 0, J9 i row, .int .i64 0] : List Value).all QE = true := by cases row <;> rfl
  exact NL
theorem Vl.In.up {R' : Jx} (h : v.In R) (hs : ∀ q ∈ R, q ∈ R') : v.In R' := h.mono hs
theorem J4c {s : BS} {r : Nat} (hl : s.length ≤ 100000) (h : (r, Obj.cells (Ql (s.map Zt)).toArray 0 (0, 0)) ∈ Lr) : Vl.In Lr (.mk 0 0 0 0 [] none (s.map Zt) (some (⟨r, 0, none⟩, s.length)) 0) :=
 .mk u0 u0 u0 u0 m7 rfl N3 ⟨by rw [List.length_map]; exact Nat.le_refl _, fun _ => ⟨rfl, _, 0, (0, 0), h, by rw [List.drop_zero, List.toList_toArray, List.take_length]⟩⟩ i0 fun x hx => by
  obtain ⟨b, _, rfl⟩ := List.mem_map.1 hx
  exact (Jtq b).mono fun q hq => absurd hq List.not_mem_nil
def Jdt {s : BS} (hl : s.length ≤ 100000) : VR (xK s) := ⟨_, [(0, .cells (Ql (s.map Zt)).toArray 0 (0, 0))], J4c hl (List.mem_singleton_self _), Jtr s _⟩
theorem Jt2 {its : List Vl} {r n : Nat} (h : (r, Obj.cells (Ql its).toArray e (0, 0)) ∈ Lr) (hn : its.length = n) (hl : n ≤ 1000) (hi : ∀ x ∈ its, x.In Lr) : Vl.In Lr (.mk 0 0 0 0 [] none its (some (⟨r, 0, none⟩, n)) 0) :=
 .mk u0 u0 u0 u0 m7 rfl m5 ⟨Nat.le_of_eq hn, fun _ => ⟨rfl, _, e, (0, 0), h, by rw [List.drop_zero, List.toList_toArray, List.take_length]⟩⟩ i0 hi
theorem Jt3 {F yL zL : Jx} {y z : Vl} (hin : ∀ x ∈ us, x.In F) (hy : y.In yL) (hz : z.In zL) (hq : q ∈ us ++ [Vl.mk 0 0 0 0 [] none [y, z] (some (⟨rb, 0, none⟩, 2)) 0]) : q.In ((rb, Obj.cells (Ql [y, z]).toArray e (0, 0)) :: (zL ++ (yL ++ F))) := by
 rcases List.mem_append.1 hq with hq | hq
 ·exact (hin q hq).mono fun p hp => by simp [hp]
 ·rw [List.mem_singleton.1 hq]
  refine Jt2 List.mem_cons_self O m7 fun x hx => ?_; simp only [List.mem_cons, List.not_mem_nil, or_false] at hx
  rcases hx with rfl | rfl
  ·exact hy.mono fun p hp => by simp [hp]
  ·exact hz.mono fun p hp => by simp [hp]
theorem Jt4 {k v : BS} {y z : Vl} {p : Pl} (her : us.map jy = (slots.take j).map wO) (hx : slots[j]? = some (k, v)) (hy : jy y = xK k) (hz : jy z = xK v) : (us ++ [Vl.mk 0 0 0 0 [] none [y, z] p 0]).map jy = (slots.take (j + 1)).map wO := by
 rw [List.map_append, her, jR hx, List.map_append]
 congr 1
 show [jy _] = [wO (k, v)]
 rw [Xa, Xi, List.map_cons, List.map_cons, List.map_nil, hy, hz]; rfl
theorem Jt5 {vs : List Vl} {F U yL zL : Jx} {y z : Vl} {nonce ba bb bc bd n : Nat} {p : Pl} (hin : ∀ x ∈ vs, x.In E) (hs : Seg U n (Ql us) p) (hn : us.length = n) (hn2 : n ≤ 100000) (hin2 : ∀ x ∈ us, x.In F) (hnu : Wr nonce) (hba : W4.ok ⟨ba, bb, bc, bd⟩) (hy : y.In yL) (hz : z.In zL)
  (hq : q ∈ vs ++ [Vl.mk 0 0 0 0 [] none [y, .mk nonce 0 0 0 [] none [] none 0, .mk ba bb bc bd [] none [] none 0, z, .mk 0 0 0 0 [] none us p 0] (some (⟨rb, 0, none⟩, 5)) 0]) : q.In ((rb, Obj.cells (Ql [y, .mk nonce 0 0 0 [] none [] none 0, .mk ba bb bc bd [] none [] none 0, z, .mk 0 0 0 0 [] none us p 0]).toArray e (0, 0)) :: (zL ++ (yL ++ (U ++ (F ++ E))))) := by
 rcases List.mem_append.1 hq with hq | hq
 ·exact (hin q hq).mono fun p hp => by simp [hp]
 ·rw [List.mem_singleton.1 hq]
  refine Jt2 List.mem_cons_self O m7 fun x hx => ?_; simp only [List.mem_cons, List.not_mem_nil, or_false] at hx
  rcases hx with rfl | rfl | rfl | rfl | rfl
  ·exact hy.mono fun p hp => by simp [hp]
  ·exact .mk hnu u0 u0 u0 m7 O m7 O i0 (fun x hx => nomatch hx)
  ·exact .mk hba.a hba.b hba.c hba.d m7 O m7 O i0 (fun x hx => nomatch hx)
  ·exact hz.mono fun p hp => by simp [hp]
  ·refine .mk u0 u0 u0 u0 m7 O m5 (by rw [hn]; exact hs.mono fun p hp => by simp [hp]) i0 fun x hx => (hin2 x hx).mono fun p hp => by simp [hp]
theorem Jt6  {vs : List Vl} {addr code : BS} {nonce ba bb bc bd : Nat} {ap p p2 : Pl} {y z : Vl} (her : vs.map jy = (accts.take i).map fun a => acV a.er) (hx : accts[i]? = some ⟨addr, nonce, ⟨ba, bb, bc, bd⟩, code, slots, ap⟩) (hy : jy y = xK addr) (hz : jy z = xK code) (hu : us.map jy = (slots.take slots.length).map wO) :
  (vs ++ [Vl.mk 0 0 0 0 [] none [y, .mk nonce 0 0 0 [] none [] none 0, .mk ba bb bc bd [] none [] none 0, z, .mk 0 0 0 0 [] none us p 0] p2 0]).map jy = (accts.take (i + 1)).map fun a => acV a.er := by
 rw [List.map_append, her, jR hx, List.map_append]
 congr 1
 show [jy _] = [acV (AcL.er ⟨addr, nonce, ⟨ba, bb, bc, bd⟩, code, slots, ap⟩)]
 rw [List.take_length] at hu; simp only [Xa, Xi, List.map_cons, List.map_nil, hy, hz, hu]
 rfl
theorem Jt7 (accts : List AcL) : Vl.mk 0 0 0 0 [] none (accts.map fun a => acV a.er) none 0 = YM (accts.map AcL.er) := by
 unfold YM Qv
 rw [List.map_map]; rfl
open Classical in
theorem Jmm (a b : α) (Z Y M U W : List α) : (a :: b :: (Z ++ (Y ++ (M ++ (U ++ W))))).Perm (U ++ (a :: b :: (M ++ (Z ++ (Y ++ W))))) := by
 exact Gl
open Classical in
theorem Jmn (a b : α) (Z Y M U F V E : List α) : (a :: b :: (Z ++ (Y ++ (M ++ (U ++ (F ++ (V ++ E))))))).Perm (V ++ (a :: b :: (M ++ (Z ++ (Y ++ (U ++ (F ++ E))))))) := by
 exact Gl
open Classical in
theorem Jmo (r a b : α) (M Z Y F W : List α) : (r :: a :: b :: (M ++ (Z ++ (Y ++ (F ++ W))))).Perm (a :: (M ++ (r :: ((b :: (Z ++ (Y ++ F))) ++ W)))) := by
 exact Gl
open Classical in
theorem Jmp (r a b : α) (M W : List α) : (r :: a :: b :: (M ++ W)).Perm (a :: (M ++ (r :: (b :: W)))) := by
 exact Gl
def Ac1 (a : AcL) : Prop := a.addr.length ≤ 100000 ∧ a.code.length ≤ 100000 ∧ a.slots.length ≤ 100000 ∧ ∀ x ∈ a.slots, x.1.length ≤ 100000 ∧ x.2.length ≤ 100000
set_option maxHeartbeats 2000000 in
theorem Jy1 {p : Pl} (hs : StL.In R ⟨accts, p⟩) (hn : accts.length ≤ 100000) (hb : ∀ a ∈ accts, Ac1 a) : PureT (α := VR (YM (accts.map AcL.er))) Tryz.prog 47 [KA accts.length p].toArray (fun y => y.x.val) [] (fun y => y.L) R := by
 have hseg : Seg R accts.length (KV accts) p := hs.seg
 refine J4 Tryz.func47 O O fun w => Nj fun r1 => ?_; refine Ge ?_; refine LN O fun r2 => Gu ?_; refine Gt ?_; refine Gb ?_; refine Jw (σ := Nat × List Vl × QC × Jx) (fun q => q.1 ≤ accts.length ∧ rowOk 7 q.1 (Ql q.2.1) q.2.2.1 ∧ (∀ x ∈ q.2.1, Vl.In q.2.2.2 x) ∧ q.2.1.map jy = (accts.take q.1).map fun a => acV a.er) (fun q => [(2, Wn r1), (3, Wn r2), (9, KA accts.length p), (10, .int .i64 (accts.length : Int)), (11, .int .i64 (q.1 : Int))]) (fun q => (r2, .cells #[.int .u64 0, .int .u64 0, .int .u64 0, .int .u64 0, .slice none 0 0, J9 q.1 q.2.2.1, .int .i64 0] 89 (0, 0)) :: (r1, .cells #[.int .u64 0, .int .u64 0, .int .u64 0, .int .u64 0, .slice none 0 0, .slice none 0 0, .int .i64 0] 89 (0, 0)) :: (JE 89 (Ql q.2.1) q.2.2.1 ++ q.2.2.2)) (fun _ _ _ => True) (fun q => accts.length - q.1) (0, [], none, []) ⟨Nat.zero_le _, ⟨rfl, rfl⟩, fun x hx => (nomatch hx), rfl⟩ (lK O) mT (fun _ _ h => h) ?_; rintro ⟨i, vs, row, E⟩ ⟨hi1, hrow, hin, her⟩; simp only at hi1 hrow hin her; refine NO ?_; refine cD (fun g => ?_) fun g => ?_
 ·refine gk ?_
  obtain ⟨a, ha, hma⟩ := QD (show i < accts.length by omega)
  have ha2 := hs.accts a hma
  obtain ⟨hb1, hb2, hb3, hb4⟩ := hb a hma
  obtain ⟨addr, nonce, ⟨ba, bb, bc, bd⟩, code, slots, ap⟩ := a
  have hnu : Wr nonce := ha2.nonce
  have hba : W4.ok ⟨ba, bb, bc, bd⟩ := ha2.bal
  have hsg : Seg R slots.length (Jrf slots) ap := ha2.seg
  simp only at hb1 hb2 hb3 hb4; refine HY ?_
  refine Gr ?_; refine LN O fun r3 => ?_
  refine NQ ?_; refine Ge ?_; refine LN O fun r4 => XG 7 [1] O O (LR O (Jy O hsg O) (Gb ?_)); refine Jw (σ := Nat × List Vl × QC × Jx) (fun q => q.1 ≤ slots.length ∧ rowOk 7 q.1 (Ql q.2.1) q.2.2.1 ∧ (∀ x ∈ q.2.1, Vl.In q.2.2.2 x) ∧ q.2.1.map jy = (slots.take q.1).map wO) (fun q => [(2, Wn r1), (3, Wn r2), (5, Wn r3), (6, Wn r4), (9, KA accts.length p), (10, .int .i64 (accts.length : Int)), (11, .int .i64 (i : Int)), (16, KA slots.length ap), (17, .int .i64 (slots.length : Int)), (18, .int .i64 (q.1 : Int))]) (fun q => (r4, .cells #[.int .u64 0, .int .u64 0, .int .u64 0, .int .u64 0, .slice none 0 0, J9 q.1 q.2.2.1, .int .i64 0] 89 (0, 0)) :: (r3, .cells #[J5 addr, uV nonce, uV ba, uV bb, uV bc, uV bd, J5 code, KA slots.length ap] 48 (0, 0)) :: (r2, .cells #[.int .u64 0, .int .u64 0, .int .u64 0, .int .u64 0, .slice none 0 0, J9 i row, .int .i64 0] 89 (0, 0)) :: (r1, .cells #[.int .u64 0, .int .u64 0, .int .u64 0, .int .u64 0, .slice none 0 0, .slice none 0 0, .int .i64 0] 89 (0, 0)) :: (JE 89 (Ql q.2.1) q.2.2.1 ++ (q.2.2.2 ++ (JE 89 (Ql vs) row ++ E)))) (fun _ _ _ => True) (fun q => slots.length - q.1) (0, [], none, []) ⟨Nat.zero_le _, ⟨rfl, rfl⟩, fun x hx => (nomatch hx), rfl⟩ (lK O) mT (fun _ _ h => h) ?_; rintro ⟨j, us, rw2, F⟩ ⟨hj1, hrow2, hin2, her2⟩; simp only at hj1 hrow2 hin2 her2; refine NO ?_; refine cD (fun g => ?_) fun g => ?_
  ·refine gk ?_
   obtain ⟨⟨k, v⟩, hx, hmx⟩ := QD (show j < slots.length by omega)
   obtain ⟨hk1, hv1⟩ := hb4 _ hmx
   simp only at hk1 hv1; refine HY ?_
   refine LR O (Jk (j := j) O hsg O O O me m5) (LR O (Kl Ki oR O hsg hx O O) (LN O fun r5 => ?_))
   refine NQ ?_; refine H9 ?_
   refine JI [(r4, .cells #[.int .u64 0, .int .u64 0, .int .u64 0, .int .u64 0, .slice none 0 0, J9 j rw2, .int .i64 0] 89 (0, 0)), (r5, .cells #[J5 k, J5 v] 97 (0, 0))] [(0, .pure), (1, .pure), (2, .pure), (3, .pure), (4, .grow (KD (Jdt hk1) (fun y => y.x.val) (fun y => y.L))), (5, .pure), (6, .pure), (7, .grow (KD (Jdt hv1) (fun y => y.x.val) (fun y => y.L))), (8, .dep [26, 29] (jF 2 89)), (9, .pure), (10, .dep [31] (jF 1 89))] 11 [0, 1, 2, 3, 5, 6, 4, 7, 8, 9, 10] m6 m6 m8 ?_
   refine NC ?_; refine JZ (k := 4) O O O O O Jle (Jdp hk1) oN fun y => ?_
   obtain ⟨⟨ya, yb, yc, yd, ybits, ypb, yitems, ypi, ypick⟩, yL, yok, yer⟩ := y
   refine JZ (k := 7) O O O O O Jle (Jdp hv1) oN fun y => ?_
   obtain ⟨⟨za, zb, zc, zd, zbits, zpb, zitems, zpi, zpick⟩, zL, zok, zer⟩ := y
   refine Qh (k := 8) (dv := [_, _]) (n := 2) (sz := 7) (vs := [_, _]) (zs := [_, _, _, _, _, _, _, _, _, _, _, _, _, _]) (r := [uV ya, uV yb, uV yc, uV yd, KA ybits.length ypb, KA yitems.length ypi, .int .i64 ypick, uV za, uV zb, uV zc, uV zd, KA zbits.length zpb, KA zitems.length zpi, .int .i64 zpick]) O O O O O O O O O O O O O mj O fun rb => Jm (k := 9) O O O O O (fun _ hS => (Ju (r := [_, _, _, _, _, _, _]) O O)) (Qh (k := 10) (dv := [_]) (n := 1) (sz := 7) (vs := [_]) (zs := [_, _, _, _, _, _, _]) (r := [.int .u64 0, .int .u64 0, .int .u64 0, .int .u64 0, .slice none 0 0, .slice (some ⟨rb, 0, none⟩) 2 2, .int .i64 0]) O O O O O O O O O O O O O mj O fun rc => Ka (Kv (Jmm (M := [_, _, _, _, _]) ..) (JA (L0 := _) (xs := Ql us) (row := rw2) (n := j) (sz := 7) (b := 88) (news := [_, _, _, _, _, _, _]) (List.Perm.refl _) O O O O (kn 0 O) O O O O O m7 O O O m7 hrow2 m5 m5 fun ra cap sp hra => ?_)))
   refine LS 1 [] O O (Ko (k := 4) (cs' := #[.int .u64 0, .int .u64 0, .int .u64 0, .int .u64 0, .slice none 0 0, J9 (j + 1) (some (ra, cap, sp)), .int .i64 0]) O O O O O O O O O O (kL ?_)); refine Jq nG (Dn ?_)
   have hvc : Ql us ++ Vl.cells (.mk 0 0 0 0 [] none [(.mk ya yb yc yd ybits ypb yitems ypi ypick), (.mk za zb zc zd zbits zpb zitems zpi zpick)] (some (⟨rb, 0, none⟩, 2)) 0) = Ql (us ++ [.mk 0 0 0 0 [] none [(.mk ya yb yc yd ybits ypb yitems ypi ypick), (.mk za zb zc zd zbits zpb zitems zpi zpick)] (some (⟨rb, 0, none⟩, 2)) 0]) := by unfold Ql; rw [List.flatMap_append]; simp
   refine qX (Jmo (M := [_, _, _, _, _]) ..) ?_; exact Jo (j + 1, us ++ [.mk 0 0 0 0 [] none [(.mk ya yb yc yd ybits ypb yitems ypi ypick), (.mk za zb zc zd zbits zpb zitems zpi zpick)] (some (⟨rb, 0, none⟩, 2)) 0], some (ra, cap, sp), _ :: (zL ++ (yL ++ F))) ⟨by simp only; omega, by simp only; rw [← hvc]; exact hra, fun z hz => Jt3 hin2 yok zok hz, Jt4 her2 hx yer zer⟩ mh (lK O) (by simp only; rw [← hvc]; exact .cons _ (.cons _ (List.Sublist.refl _))) (fun _ _ h => h)
  ·refine gk ?_
   obtain rfl : j = slots.length := by omega
   have hul : us.length = slots.length := by have := congrArg List.length her2; simpa using this
   have hvr2 : J9 slots.length rw2 = KA us.length (KY rw2) := by rw [hul]; exact (QG _ _ (fun h => by rw [h] at hrow2; exact hrow2.1)).symm
   rw [hvr2]
   refine JI [(r2, .cells #[.int .u64 0, .int .u64 0, .int .u64 0, .int .u64 0, .slice none 0 0, J9 i row, .int .i64 0] 89 (0, 0)), (r3, .cells #[J5 addr, uV nonce, uV ba, uV bb, uV bc, uV bd, J5 code, KA slots.length ap] 48 (0, 0)), (r4, .cells #[.int .u64 0, .int .u64 0, .int .u64 0, .int .u64 0, .slice none 0 0, KA us.length (KY rw2), .int .i64 0] 89 (0, 0))] [(0, .pure), (1, .pure), (2, .pure), (3, .pure), (4, .grow (KD (Jdt hb1) (fun y => y.x.val) (fun y => y.L))), (5, .pure), (6, .pure), (7, .pure), (8, .pure), (9, .pure), (10, .pure), (11, .pure), (12, .pure), (13, .pure), (14, .grow (KD (Jdt hb2) (fun y => y.x.val) (fun y => y.L))), (15, .pure), (16, .dep [40, 44, 47, 50, 51] (jF 5 89)), (17, .pure), (18, .dep [53] (jF 1 89))] 19 [0, 1, 2, 3, 5, 6, 9, 10, 11, 12, 13, 15, 4, 7, 8, 14, 16, 17, 18] m6 m6 m8 ?_
   refine NC ?_
   refine kg ?_; refine JZ (k := 4) O O O O O Jle (Jdp hb1) oN fun y => ?_
   obtain ⟨⟨ya, yb, yc, yd, ybits, ypb, yitems, ypi, ypick⟩, yL, yok, yer⟩ := y
   refine Qq (k := 7) O O O O O wu (Wu _) (Jm (k := 8) O O O O O (fun _ hS => (Ju (r := [_, _, _, _, _, _, _]) O O)) (JZ (k := 14) O O O O O Jle (Jdp hb2) oN fun y => ?_))
   obtain ⟨⟨za, zb, zc, zd, zbits, zpb, zitems, zpi, zpick⟩, zL, zok, zer⟩ := y
   refine Ny fun rb rc => ?_; refine Kv (Jmn (M := [_, _, _, _]) ..) (JA (L0 := _) (xs := Ql vs) (row := row) (n := i) (sz := 7) (b := 88) (news := [_, _, _, _, _, _, _]) (List.Perm.refl _) O O O O (kn 0 O) O O O O O m7 O O O m7 hrow m5 m5 fun ra cap sp hra => ?_)
   refine Hy ?_; refine kL ?_; refine NX ?_
   have hvc : Ql vs ++ Vl.cells (.mk 0 0 0 0 [] none [(.mk ya yb yc yd ybits ypb yitems ypi ypick), (.mk nonce 0 0 0 [] none [] none 0), (.mk ba bb bc bd [] none [] none 0), (.mk za zb zc zd zbits zpb zitems zpi zpick), .mk 0 0 0 0 [] none us (KY rw2) 0] (some (⟨rb, 0, none⟩, 5)) 0) = Ql (vs ++ [.mk 0 0 0 0 [] none [(.mk ya yb yc yd ybits ypb yitems ypi ypick), (.mk nonce 0 0 0 [] none [] none 0), (.mk ba bb bc bd [] none [] none 0), (.mk za zb zc zd zbits zpb zitems zpi zpick), .mk 0 0 0 0 [] none us (KY rw2) 0] (some (⟨rb, 0, none⟩, 5)) 0]) := by unfold Ql; rw [List.flatMap_append]; simp
   refine qX (Jmp (M := [_, _, _, _]) ..) ?_; exact ku
 ·refine NO ?_
  have honeV : ([.int .u64 0, .int .u64 0, .int .u64 0, .int .u64 0, .slice none 0 0, J9 i row, .int .i64 0] : List Value).all QE = true := by cases row <;> rfl
  refine Nt fun w1 hs1 => ?_
  have hiM : i = accts.length := by omega
  have hvl : vs.length = i := by have := congrArg List.length her; simp at this; omega
  rw [hiM, List.take_length] at her; rw [← hvl] at hrow
  have hvr : J9 i row = KA vs.length (KY row) := by rw [← hvl]; exact (QG _ _ (fun h => by rw [h] at hrow; exact hrow.1)).symm
  exact ⟨⟨.mk 0 0 0 0 [] none vs (KY row) 0, JE 89 (Ql vs) row ++ E, qW m5 (JQ hrow m7) hin i0, by rw [Xa, Xi, her]; exact Jt7 ..⟩, congrArg (fun z => Ending.returned (Value.agg #[.int .u64 0, .int .u64 0, .int .u64 0, .int .u64 0, .slice none 0 0, z, .int .i64 0])) hvr, hs1.weakL (.cons _ (.cons _ (List.Sublist.refl _)))⟩
set_option maxHeartbeats 2000000 in
theorem Jt8 {p : Pl} (hs : StL.In R ⟨accts, p⟩) (hn : accts.length ≤ 100000) (hb : ∀ a ∈ accts, Ac1 a) : PureT (α := VR (YM (accts.map AcL.er))) Tryz.prog 91 [StL.val ⟨accts, p⟩].toArray (fun y => y.x.val) [] (fun y => y.L) R := by
 have hseg : Seg R accts.length (KV accts) p := hs.seg
 refine J4 Tryz.func91 O O fun w => NB fun r1 r2 => ?_; refine EJ ?_; refine LN O fun r3 => ?_
 refine NQ ?_; refine H2 ?_; refine Jw (σ := Nat × List Vl × QC × Jx) (fun q => q.1 ≤ accts.length ∧ rowOk 7 q.1 (Ql q.2.1) q.2.2.1 ∧ (∀ x ∈ q.2.1, Vl.In q.2.2.2 x) ∧ q.2.1.map jy = (accts.take q.1).map fun a => acV a.er) (fun q => [(1, Wn r1), (2, Wn r2), (3, Wn r3), (4, .int .i64 (q.1 : Int))]) (fun q => (r3, .cells #[.int .u64 0, .int .u64 0, .int .u64 0, .int .u64 0, .slice none 0 0, J9 q.1 q.2.2.1, .int .i64 0] 89 (0, 0)) :: (r2, .cells #[.int .u64 0, .int .u64 0, .int .u64 0, .int .u64 0, .slice none 0 0, .slice none 0 0, .int .i64 0] 89 (0, 0)) :: (r1, .cells #[KA accts.length p] 36 (0, 0)) :: (JE 89 (Ql q.2.1) q.2.2.1 ++ q.2.2.2)) (fun _ _ _ => True) (fun q => accts.length - q.1) (0, [], none, []) ⟨Nat.zero_le _, ⟨rfl, rfl⟩, fun x hx => (nomatch hx), rfl⟩ (lK O) mT (fun _ _ h => h) ?_; rintro ⟨i, vs, row, E⟩ ⟨hi1, hrow, hin, her⟩; simp only at hi1 hrow hin her; refine Qy 6 [2] O O (F3 ?_); refine cD (fun g => ?_) fun g => ?_
 ·refine gk ?_
  obtain ⟨a, ha, hma⟩ := QD (show i < accts.length by omega)
  have ha2 := hs.accts a hma
  obtain ⟨hb1, hb2, hb3, hb4⟩ := hb a hma
  obtain ⟨addr, nonce, ⟨ba, bb, bc, bd⟩, code, slots, ap⟩ := a
  have hnu : Wr nonce := ha2.nonce
  have hba : W4.ok ⟨ba, bb, bc, bd⟩ := ha2.bal
  have hsg : Seg R slots.length (Jrf slots) ap := ha2.seg
  simp only at hb1 hb2 hb3 hb4; refine F7 ?_
  refine Gr ?_; refine LN O fun r4 => ?_
  refine NQ ?_; refine EJ ?_; refine LN O fun r5 => ?_
  refine NQ ?_; refine H2 ?_; refine Jw (σ := Nat × List Vl × QC × Jx) (fun q => q.1 ≤ slots.length ∧ rowOk 7 q.1 (Ql q.2.1) q.2.2.1 ∧ (∀ x ∈ q.2.1, Vl.In q.2.2.2 x) ∧ q.2.1.map jy = (slots.take q.1).map wO) (fun q => [(1, Wn r1), (2, Wn r2), (3, Wn r3), (4, .int .i64 (i : Int)), (5, Wn r4), (6, Wn r5), (7, .int .i64 (q.1 : Int))]) (fun q => (r5, .cells #[.int .u64 0, .int .u64 0, .int .u64 0, .int .u64 0, .slice none 0 0, J9 q.1 q.2.2.1, .int .i64 0] 89 (0, 0)) :: (r4, .cells #[J5 addr, uV nonce, uV ba, uV bb, uV bc, uV bd, J5 code, KA slots.length ap] 48 (0, 0)) :: (r3, .cells #[.int .u64 0, .int .u64 0, .int .u64 0, .int .u64 0, .slice none 0 0, J9 i row, .int .i64 0] 89 (0, 0)) :: (r2, .cells #[.int .u64 0, .int .u64 0, .int .u64 0, .int .u64 0, .slice none 0 0, .slice none 0 0, .int .i64 0] 89 (0, 0)) :: (r1, .cells #[KA accts.length p] 36 (0, 0)) :: (JE 89 (Ql q.2.1) q.2.2.1 ++ (q.2.2.2 ++ (JE 89 (Ql vs) row ++ E)))) (fun _ _ _ => True) (fun q => slots.length - q.1) (0, [], none, []) ⟨Nat.zero_le _, ⟨rfl, rfl⟩, fun x hx => (nomatch hx), rfl⟩ (lK O) mT (fun _ _ h => h) ?_; rintro ⟨j, us, rw2, F⟩ ⟨hj1, hrow2, hin2, her2⟩; simp only at hj1 hrow2 hin2 her2; refine Qy 6 [1] O O (LR O (Jy O hsg O) (ki ?_)); refine cD (fun g => ?_) fun g => ?_
  ·refine FR ?_
   obtain ⟨⟨k, v⟩, hx, hmx⟩ := QD (show j < slots.length by omega)
   obtain ⟨hk1, hv1⟩ := hb4 _ hmx
   simp only at hk1 hv1
   refine JI [(r5, .cells #[.int .u64 0, .int .u64 0, .int .u64 0, .int .u64 0, .slice none 0 0, J9 j rw2, .int .i64 0] 89 (0, 0)), (r4, .cells #[J5 addr, uV nonce, uV ba, uV bb, uV bc, uV bd, J5 code, KA slots.length ap] 48 (0, 0))] [(0, .pure), (1, .pure), (2, .pure), (3, .pure), (4, .pure), (5, .pure), (6, .pure), (8, .grow (KD (Jdt hk1) (fun y => y.x.val) (fun y => y.L))), (9, .pure), (10, .pure), (11, .pure), (12, .pure), (13, .pure), (15, .grow (KD (Jdt hv1) (fun y => y.x.val) (fun y => y.L))), (16, .dep [37, 44] (jF 2 89)), (17, .pure), (18, .dep [46] (jF 1 89))] 19 [0, 1, 2, 3, 4, 5, 6, 7, 9, 10, 11, 12, 13, 14, 8, 15, 16, 17, 18] m6 m6 m8 ?_
   refine EK ?_; refine Jm (k := 1) O O O O O (fun _ hS => (Je O (.inl (hS _ (J3 (n := 0) O))) O O)) ?_
   refine gC ?_; refine Jm (k := 3) O O O O O (fun _ hS => (Je O (.inl (hS _ (J3 (n := 1) O))) O O)) (Jm (k := 4) O O O O O (fun _ hS => (Jg O)) (Jm (k := 5) O O O O O (fun _ _ => Jk (j := j) O hsg O O O O m5) (Jm (k := 6) O O O O O (fun _ _ => JV (off' := Xe ap + (j * 2 + 0)) O O (by show Xe ap + j * 2 + 0 = _; omega)) (JY (k := 7) rfl rfl rfl rfl rfl (Qc Ki (k := 0) (v := J5 k) oR rfl hsg hx rfl rfl) ?_))))
   refine EM ?_; refine Jm (k := 10) O O O O O (fun _ hS => (Je O (.inl (hS _ (J3 (n := 1) O))) O O)) (Jm (k := 11) O O O O O (fun _ hS => (Jg O)) (Jm (k := 12) O O O O O (fun _ _ => Jk (j := j) O hsg O O O O m5) (Jm (k := 13) O O O O O (fun _ _ => JV (off' := Xe ap + (j * 2 + 1)) O O (by show Xe ap + j * 2 + 1 = _; omega)) (JY (k := 14) rfl rfl rfl rfl rfl (Qc Ki (k := 1) (v := J5 v) oR rfl hsg hx rfl rfl) (JZ (k := 8) rfl rfl rfl rfl rfl Jlh (qY hk1) oN fun y => ?_)))))
   obtain ⟨⟨ya, yb, yc, yd, ybits, ypb, yitems, ypi, ypick⟩, yL, yok, yer⟩ := y
   refine JZ (k := 15) O O O O O Jlh (qY hv1) oN fun y => ?_
   obtain ⟨⟨za, zb, zc, zd, zbits, zpb, zitems, zpi, zpick⟩, zL, zok, zer⟩ := y
   refine Qh (k := 16) (dv := [_, _]) (n := 2) (sz := 7) (vs := [_, _]) (zs := [_, _, _, _, _, _, _, _, _, _, _, _, _, _]) (r := [uV ya, uV yb, uV yc, uV yd, KA ybits.length ypb, KA yitems.length ypi, .int .i64 ypick, uV za, uV zb, uV zc, uV zd, KA zbits.length zpb, KA zitems.length zpi, .int .i64 zpick]) O O O O O O O O O O O O O mj O fun rb => Jm (k := 17) O O O O O (fun _ hS => (Ju (r := [_, _, _, _, _, _, _]) O O)) (Qh (k := 18) (dv := [_]) (n := 1) (sz := 7) (vs := [_]) (zs := [_, _, _, _, _, _, _]) (r := [.int .u64 0, .int .u64 0, .int .u64 0, .int .u64 0, .slice none 0 0, .slice (some ⟨rb, 0, none⟩) 2 2, .int .i64 0]) O O O O O O O O O O O O O mj O fun rc => Ka (Kv (Jmm (M := [_, _, _, _, _]) ..) (JA (L0 := _) (xs := Ql us) (row := rw2) (n := j) (sz := 7) (b := 88) (news := [_, _, _, _, _, _, _]) (List.Perm.refl _) O O O O (kn 0 O) O O O O O m7 O O O m7 hrow2 m5 m5 fun ra cap sp hra => ?_)))
   refine LS 1 [] O O (Ko (k := 3) (cs' := #[.int .u64 0, .int .u64 0, .int .u64 0, .int .u64 0, .slice none 0 0, J9 (j + 1) (some (ra, cap, sp)), .int .i64 0]) O O O O O O O O O O (Gu ?_)); refine Jq nG (Dn ?_)
   have hvc : Ql us ++ Vl.cells (.mk 0 0 0 0 [] none [(.mk ya yb yc yd ybits ypb yitems ypi ypick), (.mk za zb zc zd zbits zpb zitems zpi zpick)] (some (⟨rb, 0, none⟩, 2)) 0) = Ql (us ++ [.mk 0 0 0 0 [] none [(.mk ya yb yc yd ybits ypb yitems ypi ypick), (.mk za zb zc zd zbits zpb zitems zpi zpick)] (some (⟨rb, 0, none⟩, 2)) 0]) := by unfold Ql; rw [List.flatMap_append]; simp
   refine qX (Jmo (M := [_, _, _, _, _]) ..) ?_; exact Jo (j + 1, us ++ [.mk 0 0 0 0 [] none [(.mk ya yb yc yd ybits ypb yitems ypi ypick), (.mk za zb zc zd zbits zpb zitems zpi zpick)] (some (⟨rb, 0, none⟩, 2)) 0], some (ra, cap, sp), _ :: (zL ++ (yL ++ F))) ⟨by simp only; omega, by simp only; rw [← hvc]; exact hra, fun z hz => Jt3 hin2 yok zok hz, Jt4 her2 hx yer zer⟩ mh (lK O) (by simp only; rw [← hvc]; exact .cons _ (List.Sublist.refl _)) (fun _ _ h => h)
  ·refine gk ?_
   obtain rfl : j = slots.length := by omega
   have hul : us.length = slots.length := by have := congrArg List.length her2; simpa using this
   have hvr2 : J9 slots.length rw2 = KA us.length (KY rw2) := by rw [hul]; exact (QG _ _ (fun h => by rw [h] at hrow2; exact hrow2.1)).symm
   rw [hvr2]
   refine JI [(r3, .cells #[.int .u64 0, .int .u64 0, .int .u64 0, .int .u64 0, .slice none 0 0, J9 i row, .int .i64 0] 89 (0, 0)), (r4, .cells #[J5 addr, uV nonce, uV ba, uV bb, uV bc, uV bd, J5 code, KA slots.length ap] 48 (0, 0)), (r5, .cells #[.int .u64 0, .int .u64 0, .int .u64 0, .int .u64 0, .slice none 0 0, KA us.length (KY rw2), .int .i64 0] 89 (0, 0))] [(0, .pure), (1, .pure), (2, .pure), (3, .pure), (4, .grow (KD (Jdt hb1) (fun y => y.x.val) (fun y => y.L))), (5, .pure), (6, .pure), (7, .pure), (8, .pure), (9, .pure), (10, .pure), (11, .pure), (12, .pure), (13, .pure), (14, .grow (KD (Jdt hb2) (fun y => y.x.val) (fun y => y.L))), (15, .pure), (16, .dep [54, 58, 61, 64, 65] (jF 5 89)), (17, .pure), (18, .dep [67] (jF 1 89))] 19 [0, 1, 2, 3, 5, 6, 7, 8, 9, 10, 11, 12, 13, 15, 4, 14, 16, 17, 18] m6 m6 m8 ?_
   refine NC ?_; refine Jm (k := 7) O O O O O (fun _ hS => (Ju (r := [_, _, _, _]) O O)) (Jm (k := 8) O O O O O (fun _ hS => (Ju (r := [_, _, _, _, _, _, _]) O O)) ?_)
   refine kg ?_; refine JZ (k := 4) O O O O O Jlh (qY hb1) oN fun y => ?_
   obtain ⟨⟨ya, yb, yc, yd, ybits, ypb, yitems, ypi, ypick⟩, yL, yok, yer⟩ := y
   refine JZ (k := 14) O O O O O Jlh (qY hb2) oN fun y => ?_
   obtain ⟨⟨za, zb, zc, zd, zbits, zpb, zitems, zpi, zpick⟩, zL, zok, zer⟩ := y
   refine Ny fun rb rc => ?_; refine Kv (Jmn (M := [_, _, _, _, _]) ..) (JA (L0 := _) (xs := Ql vs) (row := row) (n := i) (sz := 7) (b := 88) (news := [_, _, _, _, _, _, _]) (List.Perm.refl _) O O O O (kn 0 O) O O O O O m7 O O O m7 hrow m5 m5 fun ra cap sp hra => ?_)
   refine Hy ?_; refine Gu ?_; refine NX ?_
   have hvc : Ql vs ++ Vl.cells (.mk 0 0 0 0 [] none [(.mk ya yb yc yd ybits ypb yitems ypi ypick), (.mk nonce 0 0 0 [] none [] none 0), (.mk ba bb bc bd [] none [] none 0), (.mk za zb zc zd zbits zpb zitems zpi zpick), .mk 0 0 0 0 [] none us (KY rw2) 0] (some (⟨rb, 0, none⟩, 5)) 0) = Ql (vs ++ [.mk 0 0 0 0 [] none [(.mk ya yb yc yd ybits ypb yitems ypi ypick), (.mk nonce 0 0 0 [] none [] none 0), (.mk ba bb bc bd [] none [] none 0), (.mk za zb zc zd zbits zpb zitems zpi zpick), .mk 0 0 0 0 [] none us (KY rw2) 0] (some (⟨rb, 0, none⟩, 5)) 0]) := by unfold Ql; rw [List.flatMap_append]; simp
   refine qX (Jmp (M := [_, _, _, _, _]) ..) ?_; exact ku
 ·refine NO ?_
  have honeV : ([.int .u64 0, .int .u64 0, .int .u64 0, .int .u64 0, .slice none 0 0, J9 i row, .int .i64 0] : List Value).all QE = true := by cases row <;> rfl
  refine Nt fun w1 hs1 => ?_
  have hiM : i = accts.length := by omega
  have hvl : vs.length = i := by have := congrArg List.length her; simp at this; omega
  rw [hiM, List.take_length] at her; rw [← hvl] at hrow
  have hvr : J9 i row = KA vs.length (KY row) := by rw [← hvl]; exact (QG _ _ (fun h => by rw [h] at hrow; exact hrow.1)).symm
  exact ⟨⟨.mk 0 0 0 0 [] none vs (KY row) 0, JE 89 (Ql vs) row ++ E, qW m5 (JQ hrow m7) hin i0, by rw [Xa, Xi, her]; exact Jt7 ..⟩, congrArg (fun z => Ending.returned (Value.agg #[.int .u64 0, .int .u64 0, .int .u64 0, .int .u64 0, .slice none 0 0, z, .int .i64 0])) hvr, hs1.weakL (.cons _ (.cons _ (.cons _ (List.Sublist.refl _))))⟩
def vA (x : AcL) : Value := .agg (AcL.cells x).toArray
theorem Jdu (x : AcL) : Pure Tryz.prog 98 [vA x].toArray (J5 (AcL.addr x)) := by
 refine Jl Tryz.func98 O O fun w => ?_; exact DV
theorem Jt9 {p : Pl} (hl : xs.length ≤ 9223372036854775807) (hs : Seg R xs.length (xs.flatMap AcL.cells) p) {pr : AcL → Bool} (eg : Enters Tryz.prog g) (hg : ∀ x ∈ xs, PureR Tryz.prog g (vA x :: caps).toArray (.bool (pr x)) R) :
  PureR Tryz.prog 42 [KA xs.length p, .func (.func g) #[] caps.toArray].toArray (.int .i64 (Zi pr xs)) R := by
 refine Jc Tryz.func42 O O fun w => kV ?_; refine Dd ?_; refine gw ?_; rintro i ⟨hi1, hinv⟩; refine NO ?_; refine cD (fun h6 => ?_) fun h6 => ?_
 refine JC 11 O ?_
 obtain ⟨x, hx, hmx⟩ := QD nP
 refine gZ ?_
 refine kT ?_; refine LR O (Kl AcL.len oR O hs hx O O) (Ji O O O eg (hg x hmx) oR (H9 ?_)); refine cD (fun h10 => ?_) fun h10 => ?_
 refine Hv fun w1 hs1 => ?_; rw [Jfq hx m9 hinv]; rfl
 refine Gz ?_
 exact Jo (i + 1) ⟨by omega, fun j hj y hy => by
  rcases Nat.lt_succ_iff_lt_or_eq.1 hj with hj | rfl
  exact hinv j hj y hy
  rw [hx] at hy; cases hy; assumption⟩ m5 (lK rfl) (List.nil_sublist _) (fun _ _ h => h)
 ·exact DK
theorem Jua {p : Pl} (hl : xs.length ≤ 9223372036854775807) (hs : Seg R xs.length (xs.flatMap AcL.cells) p) :
  PureR Tryz.prog 97 [KA xs.length p, fV 98].toArray (.bool (QO AcL.addr xs)) R := by
 refine Jc Tryz.func97 O O fun w => HI ?_; refine Jw (σ := Nat) (fun i => (i = 0 ∨ i < xs.length) ∧ ∀ j x y, j < i → xs[j]? = some x → xs[j + 1]? = some y → Op.bytesLess (AcL.addr x) (AcL.addr y) = true) (fun i => [(0, KA xs.length p), (1, fV 98), (5, .int .i64 ((i + 1 : Nat) : Int))]) (fun _ => []) (fun _ _ _ => True) (fun i => xs.length - i) 0 ⟨.inl O, fun j _ _ hj => absurd hj m5⟩ (lK O) (List.nil_sublist _) (fun _ _ h => h) ?_; rintro i ⟨hi1, hinv⟩; refine gn ?_; refine ND ?_; refine ki ?_; refine cD (fun g => ?_) fun g => ?_
 refine gk ?_
 obtain ⟨x, hx, hmx⟩ := QD nP
 obtain ⟨y, hy, hmy⟩ := QD (show i + 1 < xs.length by omega)
 refine JK 14 m6 m6 (k5 ?_); refine gr ?_; refine QT m5 m5 ?_
 refine kW ?_; refine Ja O O O (Kl AcL.len oR O hs hx O O) (KI O O O Jxu (Jdu x) (k5 ?_)); refine Nm ?_
 refine D3 ?_; refine Ja O O O (Kl AcL.len oR O hs hy O O) (KI O O O Jxu (Jdu y) (Ja O O O (ym O O) (F4 ?_))); refine cD (fun g => ?_) fun g => ?_
 refine G5 fun w1 hs1 => ?_; rw [qC hx hy mt]; rfl
 refine Hs ?_
 exact Jo (i + 1) ⟨.inr m5, fun j u v hj hu hv => by
  rcases Nat.lt_succ_iff_lt_or_eq.1 hj with hj | rfl
  exact hinv j u v hj hu hv
  rw [hx] at hu; rw [hy] at hv; cases hu; cases hv; simp_all⟩ m5 (lK rfl) (List.nil_sublist _) (fun _ _ h => h)
 ·exact Dm
def vS (x : (BS × BS)) : Value := .agg (Q7 x).toArray
theorem Jdv (x : (BS × BS)) : Pure Tryz.prog 156 [vS x].toArray (J5 (Prod.fst x)) := by
 refine Jl Tryz.func156 O O fun w => ?_; exact DV
theorem Jhh {xs : List (BS × BS)} {p : Pl} (hl : xs.length ≤ 9223372036854775807) (hs : Seg R xs.length (xs.flatMap Q7) p) {pr : (BS × BS) → Bool} (eg : Enters Tryz.prog g) (hg : ∀ x ∈ xs, PureR Tryz.prog g (vS x :: caps).toArray (.bool (pr x)) R) :
  PureR Tryz.prog 114 [KA xs.length p, .func (.func g) #[] caps.toArray].toArray (.int .i64 (Zi pr xs)) R := by
 refine Jc Tryz.func114 O O fun w => kV ?_; refine Dd ?_; refine gw ?_; rintro i ⟨hi1, hinv⟩; refine NO ?_; refine cD (fun h6 => ?_) fun h6 => ?_
 refine JC 11 O ?_
 obtain ⟨x, hx, hmx⟩ := QD nP
 refine gZ ?_
 refine kT ?_; refine LR O (Kl Ki oR O hs hx O O) (Ji O O O eg (hg x hmx) oR (H9 ?_)); refine cD (fun h10 => ?_) fun h10 => ?_
 refine Hv fun w1 hs1 => ?_; rw [Jfq hx m9 hinv]; rfl
 refine Gz ?_
 exact Jo (i + 1) ⟨by omega, fun j hj y hy => by
  rcases Nat.lt_succ_iff_lt_or_eq.1 hj with hj | rfl
  exact hinv j hj y hy
  rw [hx] at hy; cases hy; assumption⟩ m5 (lK rfl) (List.nil_sublist _) (fun _ _ h => h)
 ·exact DK
theorem Jub {xs : List (BS × BS)} {p : Pl} (hl : xs.length ≤ 9223372036854775807) (hs : Seg R xs.length (xs.flatMap Q7) p) :
  PureR Tryz.prog 155 [KA xs.length p, fV 156].toArray (.bool (QO Prod.fst xs)) R := by
 refine Jc Tryz.func155 O O fun w => HI ?_; refine Jw (σ := Nat) (fun i => (i = 0 ∨ i < xs.length) ∧ ∀ j x y, j < i → xs[j]? = some x → xs[j + 1]? = some y → Op.bytesLess (Prod.fst x) (Prod.fst y) = true) (fun i => [(0, KA xs.length p), (1, fV 156), (5, .int .i64 ((i + 1 : Nat) : Int))]) (fun _ => []) (fun _ _ _ => True) (fun i => xs.length - i) 0 ⟨.inl O, fun j _ _ hj => absurd hj m5⟩ (lK O) (List.nil_sublist _) (fun _ _ h => h) ?_; rintro i ⟨hi1, hinv⟩; refine gn ?_; refine ND ?_; refine ki ?_; refine cD (fun g => ?_) fun g => ?_
 refine gk ?_
 obtain ⟨x, hx, hmx⟩ := QD nP
 obtain ⟨y, hy, hmy⟩ := QD (show i + 1 < xs.length by omega)
 refine JK 14 m6 m6 (k5 ?_); refine gr ?_; refine QT m5 m5 ?_
 refine kW ?_; refine Ja O O O (Kl Ki oR O hs hx O O) (KI O O O Jli (Jdv x) (k5 ?_)); refine Nm ?_
 refine D3 ?_; refine Ja O O O (Kl Ki oR O hs hy O O) (KI O O O Jli (Jdv y) (Ja O O O (ym O O) (F4 ?_))); refine cD (fun g => ?_) fun g => ?_
 refine G5 fun w1 hs1 => ?_; rw [qC hx hy mt]; rfl
 refine Hs ?_
 exact Jo (i + 1) ⟨.inr m5, fun j u v hj hu hv => by
  rcases Nat.lt_succ_iff_lt_or_eq.1 hj with hj | rfl
  exact hinv j u v hj hu hv
  rw [hx] at hu; rw [hy] at hv; cases hu; cases hv; simp_all⟩ m5 (lK rfl) (List.nil_sublist _) (fun _ _ h => h)
 ·exact Dm
theorem Jy2 (a : BS) : (!decide (a = a)) = false := by simp
theorem Jmq (a : BS) : Pure Tryz.prog 126 [J5 a].toArray (.bool false) := by
 refine Jl Tryz.func126 O O fun w => kV ?_; refine LR O (ji O O) (Jq (congrArg Value.bool (Jy2 a)) ?_); exact NU
theorem Jbf (a b : BS) : Pure Tryz.prog 76 [J5 a, J5 b].toArray (.int .i64 (YB a b)) := by
 refine Jl Tryz.func76 O O fun w => Gi ?_; refine Jn O O O (enters_of Tryz.func126 m6 O) (Jmq a) (Gu ?_); refine Jn O O O (enters_of Tryz.func126 m6 O) (Jmq b) (H2 ?_); refine J7 O (fun g => ?_) (fun g => ?_)
 try exact Bool.noConfusion g
 ·try simp only [ZZ] at g
  refine JC 8 O (J7 O (fun g => ?_) (fun g => ?_))
  try exact Bool.noConfusion g
  ·try simp only [ZZ] at g
   refine Jt 7 O (LR O (Jkk O O) (H9 ?_)); refine cD (fun g => ?_) fun g => ?_
   refine Gv fun w1 hs1 => ?_
   unfold YB
   simp_all [JB]
   ·refine Jt 7 O (LR O (Jcv O O) (H9 ?_)); refine cD (fun g => ?_) fun g => ?_
    refine Gv fun w1 hs1 => ?_
    unfold YB
    simp_all [JB]
    ·refine Ej fun w1 hs1 => ?_
     unfold YB
     simp_all [JB]
theorem Juc : Lib.repeatL [0] 32 = Qx := by decide +kernel
theorem Jud : Pure Tryz.prog 116 [].toArray (J5 Qx) := by
 rw [← Juc]; refine Jl Tryz.func116 O O fun w => E3 ?_; refine Jn O O O (enters_of Tryz.func189 m6 O) (Jaz (n := 32) m7) ?_; exact NU
theorem J4d (hb : (rb, Obj.cells #[fV 98] e (0, 0)) ∈ R) (x : AcL) (k : BS) : PureR Tryz.prog 351 [vA x, J5 k, .pointer (some ⟨rb, 0, none⟩)].toArray (.int .i64 (YB (AcL.addr x) k)) R := by
 refine Jc Tryz.func351 O O fun w => Nj fun r1 => ?_; refine kL ?_; refine LR O (Je O (Or.inr hb) O O) (LR O (Jz (vs := [_, _, _, _, _, _, _, _]) O (kn 0 O) O O O O) (Jn O O O Jxu (Jdu x) (Q1 O (Jn O O O (enters_of Tryz.func76 m6 O) (Jbf (AcL.addr x) k) (J1 4 O ?_))))); exact Nz
theorem Jpb {p : Pl} (hl : xs.length ≤ 1000) (hs : Seg R xs.length (xs.flatMap AcL.cells) p) (hso : KN AcL.addr xs) {k : BS} (eg : Enters Tryz.prog g) (hg : ∀ x ∈ xs, PureR Tryz.prog g (vA x :: J5 k :: caps).toArray (.int .i64 (YB (AcL.addr x) k)) R) :
  PureR Tryz.prog 350 [KA xs.length p, J5 k, .func (.func g) #[] caps.toArray].toArray (.tuple #[.int .i64 (jY AcL.addr k xs : Nat), .bool (Wk AcL.addr k xs)]) R := by
 refine Jc Tryz.func350 O O fun w => kV ?_; refine ND ?_; refine JN 12 O (Jw (σ := Nat × Nat) (fun s => (s.1 ≤ s.2 ∧ s.2 ≤ xs.length) ∧ (∀ q y, q < s.1 → xs[q]? = some y → Op.bytesLess (AcL.addr y) k = true) ∧ ∀ q y, s.2 ≤ q → xs[q]? = some y → Op.bytesLess (AcL.addr y) k = false) (fun s => [(0, KA xs.length p), (1, J5 k), (2, .func (.func g) #[] caps.toArray), (8, .int .i64 (xs.length : Int)), (9, .int .i64 (s.1 : Int)), (10, .int .i64 (s.2 : Int))]) (fun _ => []) (fun _ _ _ => True) (fun s => s.2 - s.1) (0, xs.length) ⟨⟨Nat.zero_le _, Nat.le_refl _⟩, fun q _ hq => absurd hq (Nat.not_lt_zero q), fun q y hq hy => absurd (List.getElem?_eq_some_iff.1 hy).1 m5⟩ (lK O) (List.nil_sublist _) (fun _ _ h => h) ?_); rintro ⟨i, j⟩ ⟨⟨hi0, hj0⟩, hi1, hi2⟩; simp only at hi0 hj0 hi1 hi2; refine EQ ?_; refine cD (fun h7 => ?_) fun h7 => ?_
 refine Db ?_
 obtain ⟨x, hx, hmx⟩ := QD (show (i + j) / 2 < xs.length by omega)
 refine gZ ?_
 refine LR O (Jk (j := ((i + j) / 2)) O hs O O O me m5) (LR O (Kl AcL.len oR O hs hx O O) (Q1 O (Ji O O O eg (hg x hmx) oR ?_))); refine QN O (Jq (congrArg Value.bool (yq (AcL.addr x) k)) (JN 2 O ?_)); refine cD (fun h10 => ?_) fun h10 => ?_
 exact Hu
 exact Hg
 ·refine NO ?_
  have hij : i = j := by omega
  have hlo : i = jY AcL.addr k xs := Jrq m5 hi1 (fun y hy => hi2 i y m5 hy)
  refine Gq ?_
  refine Jv 39 O (fun gb => ?_) (fun gb => ?_) <;> (try simp only [ZZ] at gb) <;> first | (refine Q1 O ?_) | (refine LK O ?_)
  all_goals refine Fs ?_
  all_goals first | (obtain ⟨x, hx, hmx⟩ := QD nP; refine LR O (Jk (j := i) O hs O O O me m5) ?_) | refine LK O ?_
  all_goals first | refine LR O (Kl AcL.len oR O hs hx O O) ?_ | refine LK O ?_
  all_goals refine LW 1 [] O O ?_
  all_goals first | refine Ji O O O eg (hg x hmx) oR ?_ | refine LK O ?_
  all_goals first | (refine QN O ?_; refine Jq (congrArg Value.bool (Jfs (AcL.addr x) k)) ?_) | refine LK O ?_
  all_goals (
   refine LW 1 [] O O (J1 3 O (Xk 2 O ?_)); refine NA fun w1 hs1 => ?_
   first | (rw [← Jfv (kf := AcL.addr) (hlo ▸ hx), ← hlo]; rfl) | (rw [vF (kf := AcL.addr) m5, ← hlo]; rfl)
   skip)
theorem Jue {p : Pl} (hl : xs.length ≤ 1000) (hs : Seg R xs.length (xs.flatMap AcL.cells) p) (hso : KN AcL.addr xs) {k : BS} :
  PureR Tryz.prog 322 [KA xs.length p, J5 k, fV 98].toArray (.tuple #[.int .i64 (jY AcL.addr k xs : Nat), .bool (Wk AcL.addr k xs)]) R := by
 refine Jc Tryz.func322 O O fun w => Nj fun r1 => ?_; refine JH 8 O (kJ ?_); refine Ji (Rl := (r1, Obj.cells #[fV 98] _ (0, 0)) :: R) O O O (enters_of Tryz.func350 m6 O) (Jpb (caps := [.pointer (some ⟨r1, 0, none⟩)]) hl (hs.mono fun q hq => List.mem_cons_of_mem _ hq) hso (enters_of Tryz.func351 m6 O) (fun x hx => J4d List.mem_cons_self x k)) (fun q hq => (List.mem_cons.1 hq).elim (fun h => Or.inl Mt) Or.inr) (J1 7 O (Nl fun w1 hs1 => ?_)); exact No
theorem J4e (hb : (rb, Obj.cells #[fV 156] e (0, 0)) ∈ R) (x : (BS × BS)) (k : BS) : PureR Tryz.prog 355 [vS x, J5 k, .pointer (some ⟨rb, 0, none⟩)].toArray (.int .i64 (YB (Prod.fst x) k)) R := by
 refine Jc Tryz.func355 O O fun w => Nj fun r1 => ?_; refine kL ?_; refine LR O (Je O (Or.inr hb) O O) (LR O (Jz (vs := [_, _]) O (kn 0 O) O O O O) (Jn O O O Jli (Jdv x) (Q1 O (Jn O O O (enters_of Tryz.func76 m6 O) (Jbf (Prod.fst x) k) (J1 4 O ?_))))); exact Nz
theorem Jpc {xs : List (BS × BS)} {p : Pl} (hl : xs.length ≤ 1000) (hs : Seg R xs.length (xs.flatMap Q7) p) (hso : KN Prod.fst xs) {k : BS} (eg : Enters Tryz.prog g) (hg : ∀ x ∈ xs, PureR Tryz.prog g (vS x :: J5 k :: caps).toArray (.int .i64 (YB (Prod.fst x) k)) R) :
  PureR Tryz.prog 354 [KA xs.length p, J5 k, .func (.func g) #[] caps.toArray].toArray (.tuple #[.int .i64 (jY Prod.fst k xs : Nat), .bool (Wk Prod.fst k xs)]) R := by
 refine Jc Tryz.func354 O O fun w => kV ?_; refine ND ?_; refine JN 12 O (Jw (σ := Nat × Nat) (fun s => (s.1 ≤ s.2 ∧ s.2 ≤ xs.length) ∧ (∀ q y, q < s.1 → xs[q]? = some y → Op.bytesLess (Prod.fst y) k = true) ∧ ∀ q y, s.2 ≤ q → xs[q]? = some y → Op.bytesLess (Prod.fst y) k = false) (fun s => [(0, KA xs.length p), (1, J5 k), (2, .func (.func g) #[] caps.toArray), (8, .int .i64 (xs.length : Int)), (9, .int .i64 (s.1 : Int)), (10, .int .i64 (s.2 : Int))]) (fun _ => []) (fun _ _ _ => True) (fun s => s.2 - s.1) (0, xs.length) ⟨⟨Nat.zero_le _, Nat.le_refl _⟩, fun q _ hq => absurd hq (Nat.not_lt_zero q), fun q y hq hy => absurd (List.getElem?_eq_some_iff.1 hy).1 m5⟩ (lK O) (List.nil_sublist _) (fun _ _ h => h) ?_); rintro ⟨i, j⟩ ⟨⟨hi0, hj0⟩, hi1, hi2⟩; simp only at hi0 hj0 hi1 hi2; refine EQ ?_; refine cD (fun h7 => ?_) fun h7 => ?_
 refine Db ?_
 obtain ⟨x, hx, hmx⟩ := QD (show (i + j) / 2 < xs.length by omega)
 refine gZ ?_
 refine LR O (Jk (j := ((i + j) / 2)) O hs O O O me m5) (LR O (Kl Ki oR O hs hx O O) (Q1 O (Ji O O O eg (hg x hmx) oR ?_))); refine QN O (Jq (congrArg Value.bool (yq (Prod.fst x) k)) (JN 2 O ?_)); refine cD (fun h10 => ?_) fun h10 => ?_
 exact Hu
 exact Hg
 ·refine NO ?_
  have hij : i = j := by omega
  have hlo : i = jY Prod.fst k xs := Jrq m5 hi1 (fun y hy => hi2 i y m5 hy)
  refine Gq ?_
  refine Jv 39 O (fun gb => ?_) (fun gb => ?_) <;> (try simp only [ZZ] at gb) <;> first | (refine Q1 O ?_) | (refine LK O ?_)
  all_goals refine Fs ?_
  all_goals first | (obtain ⟨x, hx, hmx⟩ := QD nP; refine LR O (Jk (j := i) O hs O O O me m5) ?_) | refine LK O ?_
  all_goals first | refine LR O (Kl Ki oR O hs hx O O) ?_ | refine LK O ?_
  all_goals refine LW 1 [] O O ?_
  all_goals first | refine Ji O O O eg (hg x hmx) oR ?_ | refine LK O ?_
  all_goals first | (refine QN O ?_; refine Jq (congrArg Value.bool (Jfs (Prod.fst x) k)) ?_) | refine LK O ?_
  all_goals (
   refine LW 1 [] O O (J1 3 O (Xk 2 O ?_)); refine NA fun w1 hs1 => ?_
   first | (rw [← Jfv (kf := Prod.fst) (hlo ▸ hx), ← hlo]; rfl) | (rw [vF (kf := Prod.fst) m5, ← hlo]; rfl)
   skip)
theorem Juf {xs : List (BS × BS)} {p : Pl} (hl : xs.length ≤ 1000) (hs : Seg R xs.length (xs.flatMap Q7) p) (hso : KN Prod.fst xs) {k : BS} :
  PureR Tryz.prog 324 [KA xs.length p, J5 k, fV 156].toArray (.tuple #[.int .i64 (jY Prod.fst k xs : Nat), .bool (Wk Prod.fst k xs)]) R := by
 refine Jc Tryz.func324 O O fun w => Nj fun r1 => ?_; refine JH 8 O (kJ ?_); refine Ji (Rl := (r1, Obj.cells #[fV 156] _ (0, 0)) :: R) O O O (enters_of Tryz.func354 m6 O) (Jpc (caps := [.pointer (some ⟨r1, 0, none⟩)]) hl (hs.mono fun q hq => List.mem_cons_of_mem _ hq) hso (enters_of Tryz.func355 m6 O) (fun x hx => J4e List.mem_cons_self x k)) (fun q hq => (List.mem_cons.1 hq).elim (fun h => Or.inl Mt) Or.inr) (J1 7 O (Nl fun w1 hs1 => ?_)); exact No
theorem Jhi {p : Pl} (hl : xs.length ≤ 1000) (hs : Seg R xs.length (xs.flatMap AcL.cells) p) :
  PureT (α := { row : QC // rowOk 8 xs.length (xs.flatMap AcL.cells) row }) Tryz.prog 79 [KA xs.length p].toArray (fun x => J9 xs.length x.1) [] (fun x => JE 48 (xs.flatMap AcL.cells) x.1) R := by
 cases p with
 | none =>
  have h0 : xs = [] := List.length_eq_zero_iff.1 hs
  subst h0; refine J4 Tryz.func79 O O fun w => HI ?_; refine cD (fun g => ?_) fun g => ?_
  exact Ho
  try exact Bool.noConfusion g
 | some q =>
  refine J4 Tryz.func79 O O fun w => HI ?_; refine J7 O (fun g => ?_) (fun g => ?_)
  try exact Bool.noConfusion g
  ·refine gZ ?_; refine XX O O O O fun r1 => Q1 O (zr (k := 0) (b := 96) (sz := 8) O O O O O O hs oR O O O O O m7 (KO AcL.len xs) (Zj AcL.one xs) m5 m5 fun row hrow => (J1 4 O ?_)); exact GX
theorem Jpd (hl : xs.length ≤ 1000) (hrow : rowOk 8 xs.length (xs.flatMap AcL.cells) row) (hi : i ≤ xs.length) {y : AcL} (hv : (rv, Obj.cells (AcL.cells y).toArray 48 (0, 0)) ∈ R) :
  PureT (α := { row' : QC // rowOk 8 (xs.length + 1) ((xs.take i ++ y :: xs.drop i).flatMap AcL.cells) row' }) Tryz.prog 323 [J9 xs.length row, .int .i64 (i : Int), .slice (some ⟨rv, 0, none⟩) 1 1].toArray (fun x => J9 (xs.length + 1) x.1) (JE 48 (xs.flatMap AcL.cells) row) (fun x => JE 48 ((xs.take i ++ y :: xs.drop i).flatMap AcL.cells) x.1) R := by
 obtain ⟨A, hA⟩ : ∃ A, A = (xs.take i).flatMap AcL.cells := ⟨_, rfl⟩
 obtain ⟨B, hB⟩ : ∃ B, B = (xs.drop i).flatMap AcL.cells := ⟨_, rfl⟩
 obtain ⟨n, hn⟩ : ∃ n, n = xs.length := ⟨_, rfl⟩
 have e1 : xs.flatMap AcL.cells = A ++ B := by rw [hA, hB, ← List.flatMap_append, List.take_append_drop]
 have e2 : (xs.take i ++ y :: xs.drop i).flatMap AcL.cells = A ++ (AcL.cells y ++ B) := by rw [List.flatMap_append, List.flatMap_cons, hA, hB]
 have lA : A.length = i * 8 := by rw [hA, KO AcL.len, List.length_take, Nat.min_eq_left hi]
 have lB : B.length = (n - i) * 8 := by rw [hB, KO AcL.len, List.length_drop, hn]
 have lF : (AcL.cells y).length = 8 := AcL.len y
 have oF : (AcL.cells y).all QE = true := AcL.one y
 have oA : A.all QE = true := by rw [hA]; exact Zj AcL.one _
 have oB : B.all QE = true := by rw [hB]; exact Zj AcL.one _
 rw [e1] at hrow; rw [e1, e2]; rw [← hn] at hl hi hrow ⊢; clear hA hB e1 e2 hn
 cases row with
 | none =>
  obtain ⟨rfl, hAB⟩ := hrow
  obtain rfl : i = 0 := by omega
  obtain ⟨rfl, rfl⟩ := List.append_eq_nil_iff.1 hAB
  refine J4 Tryz.func323 O O fun w => JJ (Jt 15 O (kF ?_)); refine Ht ?_; refine cD (fun g => ?_) fun g => ?_
  first | exact Bool.noConfusion g | omega
  refine EV ?_; refine JN 11 O (J7 O (fun g => ?_) (fun g => ?_))
  try simp only [ZZ] at g
  refine gZ ?_; refine WQ (n := 0) (m := 1) (b := 96) (sz := 8) (news := AcL.cells y) (xs := []) (L0 := []) O O O O (Or.inr hv) O O O O O m7 O O oF m7 SlOwn.nil m7 m7 fun r1 cap1 sp1 hsp1 => ?_; exact DH
  try exact Bool.noConfusion g
 | some q =>
  obtain ⟨r, cap, sp⟩ := q
  obtain ⟨hr1, hr2⟩ := hrow
  have hcap : n ≤ cap := by omega
  refine J4 Tryz.func323 O O fun w => JJ ?_; change HC _ _ _ [(r, .cells ((A ++ B) ++ sp).toArray 48 (0, 0))] _ _ _; refine GT ?_; refine J7 O (fun g => ?_) (fun g => ?_)
  try exact Bool.noConfusion g
  ·refine EV ?_; refine JN 11 O (J7 O (fun g => ?_) (fun g => ?_))
   try simp only [ZZ] at g
   refine gZ ?_
   obtain rfl : B = [] := List.length_eq_zero_iff.1 m5
   refine WQ (n := n) (m := 1) (b := 96) (sz := 8) (news := AcL.cells y) (xs := A ++ []) (L0 := []) O O O O (Or.inr hv) O O O O O m7 O lF oF m7 (SlOwn.own (k := 0) O MF hr1 MK O) m5 m5 fun r1 cap1 sp1 hsp1 => gy ?_; exact HF
   ·try simp only [ZZ] at g
    refine Jt 8 O (Ew ?_); refine Q1 O (LR O (Jk6 O O) (JN 3 O ?_)); refine cD (fun g => ?_) fun g => ?_
    ·refine gZ ?_
     refine LR O (Ke (sz := 8) (q := i) (kl := none) (kh := some (i)) (km := none) (m := 0) (z := cap) (off' := 0) O O O trivial ⟨_, rfl⟩ trivial O O O m5 m5 m5 (fun h => by cases h) MH) (HO ?_); refine Ew ?_; refine JH 2 O (Jq nE (zk (r := r) (off := 0) (n := i) (cap := cap) (m := n + 1 - i) (sz := 8) (b := 96) (xs := A) O O O O (kn 0 O) O O O O O O m7 nV lA m5 m5 m5 m5 m5 fun r2 cap2 Z sp2 hZ hsp2 => ?_)); rw [show i + (n + 1 - i) = n + 1 by omega] at hsp2 ⊢
     obtain ⟨Z1, Z2, rfl, lZ1⟩ := cut (l := Z) (a := 8) m5
     have lZ2 : Z2.length = (n - i) * 8 := by rw [List.length_append, lZ1] at hZ; omega
     rw [show A ++ (Z1 ++ Z2) ++ sp2 = A ++ (Z1 ++ (Z2 ++ sp2)) by simp only [List.append_assoc]]; refine gY ?_; refine LR O (Ke (sz := 8) (m := i) (kl := some (i)) (kh := none) (km := none) (q := n + 1) (z := cap2) (off' := i * 8) O O O ⟨_, rfl⟩ trivial trivial O O O m5 m5 m5 (fun _ => rfl) mq) (Q1 O ?_)
     refine Yp (k := 0) (n := 1) (sz := 8) (vs := AcL.cells y) (cs' := A ++ (AcL.cells y ++ (Z2 ++ sp2))) O O O O O (Or.inr hv) O O mK O lF oF mD (XY lA (by rw [lZ1])) rfl (ki ?_); refine DI ?_; refine Ja O O O (Ke (sz := 8) (m := i + 1) (kl := some (i + 1)) (kh := none) (km := none) (q := n + 1) (z := cap2) (off' := (i + 1) * 8) O O O ⟨_, rfl⟩ trivial trivial O O O m5 m5 m5 (fun _ => rfl) mq) (k5 ?_); refine Ja O O O (Ke (sz := 8) (m := i) (kl := some (i)) (kh := none) (km := none) (q := n) (z := cap) (off' := i * 8) O O O ⟨_, rfl⟩ trivial trivial O O O m5 m5 m5 (fun _ => rfl) mq) (JS ?_); rw [show A ++ (AcL.cells y ++ (Z2 ++ sp2)) = (A ++ AcL.cells y) ++ (Z2 ++ sp2) by simp only [List.append_assoc]]
     refine Yp (k := 0) (n := n - i) (sz := 8) (vs := B) (cs' := (A ++ AcL.cells y) ++ (B ++ sp2)) O O O O O (kn 1 O) O O mK nR lB oB mD (XY (by rw [List.length_append, lA, lF]; omega) lZ2) rfl ?_; exact D7
    ·refine Jt 8 O (Jq nH ?_)
     refine LR O (Ke (sz := 8) (q := n + 1) (kl := none) (kh := some (n + 1)) (km := none) (m := 0) (z := cap) (off' := 0) O O O trivial ⟨_, rfl⟩ trivial O O O m5 m5 m5 (fun h => by cases h) MH) (JH 11 rfl (Jq mb (LR rfl (Ke (sz := 8) (m := i + 1) (kl := some (i + 1)) (kh := none) (km := none) (q := n + 1) (z := cap) (off' := (i + 1) * 8) rfl rfl rfl ⟨_, rfl⟩ trivial trivial rfl rfl rfl m5 m5 m5 (fun _ => rfl) mq) (LR rfl (wn (k := 0) rfl rfl rfl hv rfl rfl rfl mD Tryz.func352 rfl rfl rfl rfl) (ki ?_))))); refine J7 O (fun g => ?_) (fun g => ?_)
     ·try simp only [ZZ] at g
      refine HS ?_; refine DI ?_; refine Ja O O O (Ke (sz := 8) (m := i + 1) (kl := some (i + 1)) (kh := none) (km := none) (q := n + 1) (z := cap) (off' := (i + 1) * 8) O O O ⟨_, rfl⟩ trivial trivial O O O m5 m5 m5 (fun _ => rfl) mq) (k5 ?_); refine Ja O O O (Ke (sz := 8) (m := i) (kl := some (i)) (kh := none) (km := none) (q := n + 1) (z := cap) (off' := i * 8) O O O ⟨_, rfl⟩ trivial trivial O O O m5 m5 m5 (fun _ => rfl) mq) (JS ?_)
      obtain ⟨X1, X2, hX, lX1⟩ := cut (l := B ++ sp) (a := 8) mL
      obtain ⟨X3, X4, rfl, lX3⟩ := cut (l := X2) (a := (n - i) * 8) Md
      refine FI ?_
      refine Yp (k := 0) (n := n - i) (sz := 8) (vs := B) (cs' := (A ++ X1) ++ (B ++ X4)) O O O O O (kn 0 O) O O mK nL lB oB nN (XY (by rw [List.length_append, lA, lX1]; omega) lX3) rfl (Gu ?_); refine LR O (Ke (sz := 8) (m := i) (kl := some (i)) (kh := none) (km := none) (q := n + 1) (z := cap) (off' := i * 8) O O O ⟨_, rfl⟩ trivial trivial O O O m5 m5 m5 (fun _ => rfl) mq) (FU ?_)
      refine Yp (k := 0) (n := 1) (sz := 8) (vs := AcL.cells y) (cs' := A ++ (AcL.cells y ++ (B ++ X4))) O O O O O (Or.inr hv) O O mK O lF oF mD (XY lA (by rw [lX1])) rfl ?_; exact Gs
     ·try exact Bool.noConfusion g
end Go.Proofs.YtfaagelglpgpkaaGreatDoor
