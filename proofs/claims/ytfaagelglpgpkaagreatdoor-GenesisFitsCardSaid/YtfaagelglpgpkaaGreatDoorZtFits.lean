import Derived.Test.YtfaagelglpgpkaaGreatDoorZtFitsf
set_option maxRecDepth 100000
namespace Go.Proofs.YtfaagelglpgpkaaGreatDoor
set_option linter.all false
open Go.SL Go.RowKit Go.Shelf
theorem Jy5 {xs : List AcL} {i : Nat} {y : AcL} (hy : xs[i]? = some y) : ((KO xs).drop (i * 8 + 2)).take 4 = [uV y.bal.a, uV y.bal.b, uV y.bal.c, uV y.bal.d] := by
 have h := VE AcL.len hy
 have e : ((KO xs).drop (i * 8 + 2)).take 4 = ((((KO xs).drop (i * 8)).take 8).drop 2).take 4 := by
  rw [List.drop_take, List.drop_drop, List.take_take]
  congr 1
 change ((KO xs).drop (i * 8)).take 8 = _ at h; rw [e, h]; rfl
theorem Jl8 {s : StL} {ts : List Nat} {t : Nat} {rc : Rec} {l : List AcE} {f : Int} (h : GenOk ts t rc l s.er f) {y : AcL} (hy : y.er ∈ l) :
  Wc s y.addr = true ∧ (y.addr ≠ A0 → y.addr ≠ A1 → (JW s y.addr).er = y.er) ∧ (JW s y.addr).nonce = y.nonce ∧ (JW s y.addr).bal = y.bal := by
 obtain ⟨h1, h2, h3, h4⟩ := Jrp h hy
 change (JZ s.er y.addr).isSome = true at h1; change y.addr ≠ A0 → y.addr ≠ A1 → JZ s.er y.addr = some y.er at h2
 have e : (JW s y.addr).er = Q1 s.er y.addr := Zg s y.addr
 refine ⟨by rw [Jct]; exact h1, fun a b => ?_, ?_, ?_⟩
 ·rw [e]; unfold Q1; rw [h2 a b]; rfl
 ·show (JW s y.addr).er.nonce = _
  rw [e]; exact h3
 ·show (JW s y.addr).er.bal = _
  rw [e]; exact h4
theorem L_GenesisFits {R : Ji} {g : GenL} (hg : g.In R) : PureR Tryz.prog 7 [g.val].toArray (.bool true) R := by
  have hacs := hg.st.seg
  change Seg R g.accts.length (KO g.accts) g.ap at hacs; refine Ja Tryz.func7 rfl rfl fun w => ?_; refine JA ?_; refine Jq 2 rfl ?_; refine Kh (cs := g.cells.toArray) rfl rfl rfl rfl fun r1 => ?_; refine JG 5 rfl ?_; refine Je rfl rfl rfl (enters_of Tryz.func9 (by kernel_rfl) rfl) Jl7 oR ?_; refine JK 10 rfl ?_; refine Jz rfl (fun h5 => ?_) (fun h5 => ?_)
  try exact Bool.noConfusion h5
  · try simp only [ZZ] at h5
    refine Jq 4 rfl ?_; refine LR rfl (Jh (xs := g.cells) (n := 20) rfl (kn 0 rfl) rfl rfl rfl) ?_; refine Je rfl rfl rfl (enters_of Tryz.func10 (by kernel_rfl) rfl) (Jyv hg) oR ?_; refine JK 10 rfl ?_; refine cD (fun h10 => ?_) fun h10 => ?_
    refine Ko 8 rfl ?_; refine pT rfl rfl rfl fun w1 hs1 => ?_; exact ⟨rfl, hs1.keep⟩
    · refine JN 3 rfl ?_
      have hfw : Jrg g = true := by simp_all
      have hf : ZI g.ac = true := (Bool.and_eq_true_iff.1 hfw).1
      have hl := yl hf
      refine Jq 1 rfl ?_; refine LR rfl (Jh (xs := g.cells) (n := 20) rfl (kn 0 rfl) rfl rfl rfl) ?_; refine Kz rfl rfl rfl Jfn (Yz hg (by omega)) oR fun x => ?_; refine Kx List.perm_append_comm ?_; change HL _ _ ((25, .tuple #[x.s.val, .int .i64 x.f, .int .i64 x.err]) :: _) ((r1, _) :: x.L) _ _ _ _
      have hxs := x.ok.seg
      refine LS 4 [] rfl rfl ?_; refine LN rfl fun r5 => ?_; refine Jk (k := 0) (n := 1) (ys := x.s.cells) rfl rfl rfl rfl rfl rfl rfl rfl rfl ?_; refine JK 11 rfl ?_; refine cD (fun h15 => ?_) fun h15 => ?_
      refine JN 1 rfl ?_
      have hne : x.err ≠ 0 := by omega
      have hbad := Jv0 (ts := g.ts) (t := g.time) (rc := g.rc) (l := g.ac) (by rw [← x.eq]; exact hne)
      rw [← x.eq] at hbad
      have hx0 : x.s.er = [] := hbad.1
      have hxf : x.f = 0 := hbad.2
      refine Jq 5 rfl ?_; refine J3 (show _ = Value.bool true from j6 (Jzm hxf)) ?_; refine LS 2 [] rfl rfl ?_; refine LR rfl (Jh (xs := x.s.cells) (n := 1) rfl (kn 0 rfl) rfl rfl rfl) ?_; refine LR rfl (Js (r := [_]) rfl rfl) ?_; refine Je rfl rfl rfl (enters_of Tryz.func23 (by kernel_rfl) rfl) (Jqf (R := x.L ++ R) (t := st0L) x.ok Jfb) (fun q hq => (List.mem_append.1 hq).elim (fun h => Or.inl (List.mem_cons_of_mem _ (List.mem_cons_of_mem _ h))) (fun hq => Or.inr hq)) ?_; refine J3 (jC (decide_eq_true hx0)) ?_; refine Jw 6 rfl ?_; refine pT rfl rfl rfl fun w1 hs1 => ?_; exact ⟨rfl, hs1.keep⟩
      · refine JN 3 rfl ?_
        have he : x.err = 0 := by omega
        have hok := Jgq x he
        have hb := back hg.rc hok.wr
        have hlen : x.s.accts.length ≤ g.accts.length + 2 := by
          have := Jv1 hok
          unfold GenL.ac at this
          rwa [x.s.er_len, List.length_map] at this
        refine Jq 2 rfl ?_; refine LR rfl (Jh (xs := x.s.cells) (n := 1) rfl (kn 0 rfl) rfl rfl rfl) ?_; refine Je rfl rfl rfl (enters_of Tryz.func24 (by kernel_rfl) rfl) (Jvd (R := x.L ++ R) x.f x.ok) (fun q hq => (List.mem_append.1 hq).elim (fun h => Or.inl (List.mem_cons_of_mem _ (List.mem_cons_of_mem _ h))) (fun hq => Or.inr hq)) ?_; refine J3 (Jvh hb.2.1) ?_; refine LS 3 [] rfl rfl ?_; refine LN rfl fun r8 => ?_; refine Jk (k := 0) (n := 17) (ys := (g.rc).cells) rfl rfl rfl rfl rfl rfl rfl rfl rfl ?_; refine JG 9 rfl ?_; refine LR rfl (Jh (xs := g.rc.cells) (n := 17) rfl (kn 0 rfl) rfl rfl rfl) ?_
        refine LS 1 [] rfl rfl ?_; refine LR rfl (Jo (vs := g.rc.cells) rfl (kn 2 rfl) rfl rfl rfl rfl) ?_; refine LR rfl (vj (xs := g.rc.cells) (ys := g.rc.cells) rfl rfl rfl (by kernel_rfl) (by kernel_rfl) (.scal (by decide) rfl rfl rfl rfl rfl (.scal (by decide) rfl rfl rfl rfl rfl (.arr (by decide) rfl rfl rfl rfl rfl rfl rfl rfl rfl rfl (.arr (by decide) rfl rfl rfl rfl rfl rfl rfl rfl rfl rfl (.arr (by decide) rfl rfl rfl rfl rfl rfl rfl rfl rfl rfl (.scal (by decide) rfl rfl rfl rfl rfl (.scal (by decide) rfl rfl rfl rfl rfl (.scal (by decide) rfl rfl rfl rfl rfl .nil))))))))) ?_; refine J3 (congrArg (fun b => Value.bool (!b)) (Jqt g.rc g.rc)) ?_; refine J3 (jC (show (!decide (g.rc = g.rc)) = false from by simp)) ?_; refine LS 3 [] rfl rfl ?_; refine LR rfl (Jh (xs := x.s.cells) (n := 1) rfl (kn 1 rfl) rfl rfl rfl) ?_; refine Je rfl rfl rfl (enters_of Tryz.func25 (by kernel_rfl) rfl) (Jd4 (R := x.L ++ R) x.f x.ok) (fun q hq => (List.mem_append.1 hq).elim (fun h => Or.inl (List.mem_cons_of_mem _ (List.mem_cons_of_mem _ (List.mem_cons_of_mem _ h)))) (fun hq => Or.inr hq)) ?_; refine J3 (Jf6 hb.1) ?_; refine JK 4 rfl ?_; refine Jz rfl (fun h26 => ?_) (fun h26 => ?_)
        try exact Bool.noConfusion h26
        · try simp only [ZZ] at h26
          refine JN 9 rfl ?_; refine J0 (σ := Nat) (fun i => i ≤ g.accts.length) (fun i => [(1, Ql r1 0), (3, .bool true), (5, Ql r5 0), (10, .int .i64 (i : Int))]) (fun _ => (r8, .cells g.rc.cells.toArray 29 (0, 0)) :: (r5, .cells x.s.cells.toArray 36 (0, 0)) :: (r1, .cells g.cells.toArray 32 (0, 0)) :: x.L) (fun _ _ _ => True) (fun i => g.accts.length - i) 0 (Nat.zero_le _) (lK rfl) (List.Sublist.refl _) (fun _ _ h => h) ?_; intro i hi1; refine Xs 6 [2] rfl rfl ?_; refine LR rfl (J1 rfl hacs rfl) ?_; refine JK 3 rfl ?_; refine cD (fun h32 => ?_) fun h32 => ?_
          · refine JN 5 rfl ?_
            obtain ⟨y, hy, hmy⟩ := Q4 (show i < g.accts.length by omega)
            obtain ⟨hfa, hfe, hfn, hfb⟩ := Jl8 hok (y := y) (List.mem_map_of_mem hmy)
            refine JJ [] [(1, .pure), (3, .pure), (4, .pure), (5, .pure), (8, .pure), (9, .pure), (10, .pure), (11, .grow (Vo jR (.cells #[.string ⟨#[]⟩, .int .u64 0, .int .u64 0, .int .u64 0, .int .u64 0, .int .u64 0, .string ⟨#[]⟩, .slice none 0 0] 48 (0, 0)))), (12, .turn), (13, .pure)] 14 [0, 1, 2, 3, 4, 5, 6, 7, 8, 9, 10, 11, 12, 13] (by kernel_rfl) (by kernel_rfl) (by first | exact (fun _ h => absurd h List.not_mem_nil) | simp [SubS] | (intro p hp; simp [hp])) ?_; refine Kv (k := 0) rfl rfl rfl rfl rfl (Jh (xs := x.s.cells) (n := 1) rfl (kn 1 rfl) rfl rfl rfl) ?_
            refine Jj (k := 1) rfl rfl rfl rfl rfl (fun _ hS => (J9 rfl rfl rfl)) ?_; refine Kv (k := 2) rfl rfl rfl rfl rfl (Jd rfl (kn 2 rfl) rfl rfl) ?_; refine Jj (k := 3) rfl rfl rfl rfl rfl (fun _ hS => (Jf rfl)) ?_
            refine Jj (k := 4) rfl rfl rfl rfl rfl (fun _ hS => Jp (j := i) rfl hacs rfl rfl rfl (by first | rfl | omega) (by omega)) ?_; refine Jj (k := 5) rfl rfl rfl rfl rfl (fun _ hS => KM (off' := jT g.ap + (i * 8 + 0)) rfl rfl (by show jT g.ap + i * 8 + 0 = _; omega)) ?_; refine Kv (k := 6) rfl rfl rfl rfl rfl (Wu AcL.len (k := 0) (v := J4 y.addr) oR rfl hacs hy rfl rfl) ?_; refine KA (k := 7) rfl rfl rfl rfl rfl Jkz (qg (R := x.L ++ R) x.ok y.addr) (fun q hq => (List.mem_append.1 hq).elim (fun h => Or.inl (List.mem_cons_of_mem _ (List.mem_cons_of_mem _ (List.mem_cons_of_mem _ h)))) (fun hq => Or.inr hq)) ?_; refine VN (congrArg (fun z => Value.tuple #[(JW x.s y.addr).val, .bool z]) hfa) ?_; refine Jj (k := 8) rfl rfl rfl rfl rfl (fun _ hS => (Jf rfl)) ?_; refine Jj (k := 9) rfl rfl rfl rfl rfl (fun _ hS => (JL rfl rfl)) ?_; refine Jj (k := 10) rfl rfl rfl rfl rfl (fun _ hS => (JL rfl rfl)) ?_; refine Vu (k := 11) (cs := #[_, _, _, _, _, _, _, _]) rfl rfl rfl rfl rfl rfl fun r9 => ?_; refine Qx (k := 12) (q := 0) (n := 8) (ys := (JW x.s y.addr).cells) rfl rfl rfl rfl rfl rfl rfl rfl rfl rfl rfl (fun _ h => absurd h List.not_mem_nil) ?_; refine Jj (k := 13) rfl rfl rfl rfl rfl (fun _ hS => (J6 rfl)) ?_; refine Km ?_; refine JK 3 rfl ?_; refine JD 8 (by kernel_rfl) (by kernel_rfl) ?_; refine Jb rfl rfl rfl (Jh (xs := (JW x.s y.addr).cells) (n := 8) rfl (kn 0 rfl) rfl rfl rfl) ?_
            refine Jb rfl rfl rfl (J9 rfl rfl rfl) ?_; refine Jb rfl rfl rfl (Jd rfl (kn 3 rfl) rfl rfl) ?_; refine Jb rfl rfl rfl (Jf rfl) ?_
            refine Jb rfl rfl rfl (Jp (j := i) rfl hacs rfl rfl rfl (by first | rfl | omega) (by omega)) ?_; refine Jb rfl rfl rfl (Ka AcL.len oR rfl hacs hy rfl rfl) ?_; refine QM rfl rfl rfl (enters_of Tryz.func26 (by kernel_rfl) rfl) (Jf7 (R := x.L ++ R) (Zh x.ok y.addr) ((hg.st.accts y hmy).mono fun q hq => List.mem_append_right _ hq)) (fun q hq => (List.mem_append.1 hq).elim (fun h => Or.inl (List.mem_cons_of_mem _ (List.mem_cons_of_mem _ (List.mem_cons_of_mem _ (List.mem_cons_of_mem _ h))))) (fun hq => Or.inr hq)) ?_; refine Jb rfl rfl rfl (J6 rfl) ?_; refine JS ?_; refine JK 3 rfl ?_; refine JD 19 (by kernel_rfl) (by kernel_rfl) ?_
            refine Jb rfl rfl rfl (J9 rfl rfl rfl) ?_; refine Jb rfl rfl rfl (Jd rfl (kn 3 rfl) rfl rfl) ?_; refine Jb rfl rfl rfl (Jf rfl) ?_
            refine Jb rfl rfl rfl (Jp (j := i) rfl hacs rfl rfl rfl (by first | rfl | omega) (by omega)) ?_; refine Jb rfl rfl rfl (KM (off' := jT g.ap + (i * 8 + 0)) rfl rfl (by show jT g.ap + i * 8 + 0 = _; omega)) ?_; refine Jb rfl rfl rfl (Wu AcL.len (k := 0) (v := J4 y.addr) oR rfl hacs hy rfl rfl) ?_; refine Kl rfl rfl rfl Jcz P_Addr0 ?_; refine Jb rfl rfl rfl (Wi (a := y.addr) (b := A0) rfl rfl) ?_; refine Jb rfl rfl rfl (Jf rfl) ?_
            refine qW 94 rfl (fun gb => ?_) (fun gb => ?_) <;> (try simp only [ZZ] at gb) <;> first | (refine Jb rfl rfl rfl (J9 rfl rfl rfl) ?_) | (refine KQ rfl rfl rfl ?_)
            all_goals first | refine Jb rfl rfl rfl (Jd rfl (kn 3 rfl) rfl rfl) ?_ | refine KQ rfl rfl rfl ?_
            all_goals first | refine Jb rfl rfl rfl (Jf rfl) ?_ | refine KQ rfl rfl rfl ?_
            all_goals first | (refine Jb rfl rfl rfl (Jp (j := i) rfl hacs rfl rfl rfl (by first | rfl | omega) (by omega)) ?_) | refine KQ rfl rfl rfl ?_
            all_goals first | (refine Jb rfl rfl rfl (KM (off' := jT g.ap + (i * 8 + 0)) rfl rfl (by show jT g.ap + i * 8 + 0 = _; omega)) ?_) | refine KQ rfl rfl rfl ?_
            all_goals first | refine Jb rfl rfl rfl (Wu AcL.len (k := 0) (v := J4 y.addr) oR rfl hacs hy rfl rfl) ?_ | refine KQ rfl rfl rfl ?_
            all_goals first | (refine Kl rfl rfl rfl Jcz Ji8 ?_) | refine KQ rfl rfl rfl ?_
            all_goals first | refine Jb rfl rfl rfl (Wi (a := y.addr) (b := A1) rfl rfl) ?_ | refine KQ rfl rfl rfl ?_
            all_goals first | refine Jb rfl rfl rfl (Yh rfl rfl) ?_ | refine Jb rfl rfl rfl (Wh rfl rfl) ?_
            all_goals (
             refine Jb rfl rfl rfl (J6 rfl) (JS (Jw 1 rfl (Y6 2 rfl ?_))); refine JD 32 (by kernel_rfl) (by kernel_rfl) ?_; refine Jb rfl rfl rfl (Jf rfl) ?_; refine Jb rfl rfl rfl (Jv rfl rfl rfl) ?_; refine Jb rfl rfl rfl (Jf rfl) ?_; refine Jb rfl rfl rfl (Jf rfl) ?_; refine Jb rfl rfl rfl (Jv rfl rfl rfl) ?_; refine Jb rfl rfl rfl (Jf rfl) ?_
             first | refine KQ rfl rfl rfl ?_ | (refine qW 109 rfl (fun gb => ?_) (fun gb => ?_) <;> (try simp only [ZZ] at gb) <;> first | (refine Jb rfl rfl rfl (Jf rfl) ?_) | (refine KQ rfl rfl rfl ?_))
             all_goals first | (refine Jb rfl rfl rfl (Jv rfl rfl rfl) ?_; refine KU (jC (show _ = false from (by have hh := hfe (by assumption) (by assumption); simp [hh]))) ?_) | refine KQ rfl rfl rfl ?_
             all_goals first | refine Jb rfl rfl rfl (Yh rfl rfl) ?_ | refine Jb rfl rfl rfl (Wh rfl rfl) ?_
             all_goals (refine Jb rfl rfl rfl (Wh rfl rfl) ?_)
             all_goals refine Jb rfl rfl rfl (Jf rfl) ?_
             all_goals (refine Jb rfl rfl rfl (J9 rfl rfl rfl) ?_)
             all_goals (refine Jb rfl rfl rfl (Jd rfl (kn 0 rfl) rfl rfl) ?_)
             all_goals (refine Jb rfl rfl rfl (J9 rfl rfl rfl) ?_)
             all_goals (refine Jb rfl rfl rfl (Jd rfl (kn 3 rfl) rfl rfl) ?_)
             all_goals (refine Jb rfl rfl rfl (Jf rfl) ?_)
             all_goals (refine Jb rfl rfl rfl (Jp (j := i) rfl hacs rfl rfl rfl (by first | rfl | omega) (by omega)) ?_)
             all_goals (refine Jb rfl rfl rfl (KM (off' := jT g.ap + (i * 8 + 1)) rfl rfl (by show jT g.ap + i * 8 + 1 = _; omega)) ?_)
             all_goals (refine Jb rfl rfl rfl (Wu AcL.len (k := 1) (v := uV y.nonce) oR rfl hacs hy rfl rfl) ?_)
             all_goals (refine Jb rfl rfl rfl (Jv rfl rfl rfl) ?_; refine KU (jC (show _ = false from J1g (congrArg Int.ofNat hfn))) ?_)
             all_goals (refine Jb rfl rfl rfl (Wh rfl rfl) ?_)
             all_goals refine Jb rfl rfl rfl (Jf rfl) ?_
             all_goals (refine Jb rfl rfl rfl (J9 rfl rfl rfl) ?_)
             all_goals (refine Jb rfl rfl rfl (Jo (vs := [_, _, _, _]) rfl (kn 0 rfl) rfl rfl rfl rfl) ?_)
             all_goals (refine Jb rfl rfl rfl (J9 rfl rfl rfl) ?_)
             all_goals (refine Jb rfl rfl rfl (Jd rfl (kn 3 rfl) rfl rfl) ?_)
             all_goals (refine Jb rfl rfl rfl (Jf rfl) ?_)
             all_goals (refine Jb rfl rfl rfl (Jp (j := i) rfl hacs rfl rfl rfl (by first | rfl | omega) (by omega)) ?_)
             all_goals (refine Jb rfl rfl rfl (KM (off' := jT g.ap + (i * 8 + 2)) rfl rfl (by show jT g.ap + i * 8 + 2 = _; omega)) ?_)
             all_goals (refine Jb rfl rfl rfl (YZ (vs := [uV y.bal.a, uV y.bal.b, uV y.bal.c, uV y.bal.d]) oR rfl hacs (by omega) rfl rfl (Jy5 hy) rfl) ?_)
             all_goals (refine Jb rfl rfl rfl (Jg0 rfl rfl rfl rfl rfl (by kernel_rfl) rfl rfl rfl rfl) ?_; refine KU (jC (show _ = false from (congrArg (fun b => !b) ((eqW _ _).trans (decide_eq_true hfb))))) ?_)
             all_goals (refine Jb rfl rfl rfl (Wh rfl rfl) ?_)
             all_goals (
              refine JS (Jw 1 rfl (Y6 1 rfl ?_)); refine Jz rfl (fun h70 => ?_) (fun h70 => ?_)
              try exact Bool.noConfusion h70
              try simp only [ZZ] at h70
              refine Jq 6 rfl ?_; refine Jc (by omega) (by omega) ?_; refine Jw 2 rfl ?_; refine Jx ?_; exact Jt (i + 1) (by omega) (by omega) (lK rfl) (.cons _ (List.Sublist.refl _)) (fun _ _ h => h)
              skip)
             skip)
          · refine Xs 11 [1] rfl rfl ?_; refine LR rfl (J1 rfl hxs rfl) ?_
            refine LS 2 [2] rfl rfl ?_; refine LR rfl (J1 rfl hacs rfl) ?_; refine VQ rfl (Jc (by omega) (by omega) ?_); refine VQ rfl (J3 (show _ = Value.bool true from j6 (decide_eq_true (show ((x.s.accts.length : Nat) : Int) ≤ ((g.accts.length : Nat) : Int) + 2 from by omega))) (Jw 5 rfl ?_)); refine pT rfl rfl rfl fun w1 hs1 => ?_; exact ⟨rfl, hs1.keep⟩
end Go.Proofs.YtfaagelglpgpkaaGreatDoor
