import Derived.Test.YteceenlfegnigaaGreatDoorZtSetsf
set_option maxRecDepth 100000
namespace Go.Proofs.YteceenlfegnigaaGreatDoor
set_option linter.all false
open Go.SL Go.RowKit Go.Shelf
open Go.Proofs (Enters enters_of)
theorem Jry {R : Jr} {a : AcL} (ha : a.In R) (r e : Nat) : StL.In ((r, Obj.cells a.cells.toArray e (0, 0)) :: R) ⟨[a], some (⟨r, 0, none⟩, 1)⟩ :=
  ⟨by show 1 ≤ Wt; decide, ⟨Nat.le_refl _, fun _ => ⟨rfl, _, _, _, List.mem_cons_self, rfl⟩⟩, fun b hb => by rw [List.mem_singleton.1 hb]; exact ha.mono fun q hq => List.mem_cons_of_mem _ hq⟩
theorem L_StateSets {R : Jr} {a : AcL} (ha : a.In R) (key val other : BS) : PureR Tryz.prog 9 [a.val, J5 key, J5 val, J5 other].toArray (.bool true) R := by
  have hlen := ha.len
  have hseg := ha.seg
  have f2 := Ji9 ha
  generalize hfa : Jaf a.er = b2 at f2
  have hsl : b2 = true → a.slots.length ≤ 20 := fun h => Jrk (a := a.er) (by rw [hfa]; exact h)
  have g1 := Jn3 ha key val
  have gb := Jrv (a := a.er) (k := key) (v := val)
  have gk := Joi (a := a.er) (k := key) (v := val)
  generalize Ws a.er key val = p1 at g1 gb gk
  refine Je Tryz.func9 rfl rfl fun w => ?_; refine sR fun K1 hK1 => ?_; refine Jp (cs := (a).cells.toArray) rfl rfl rfl rfl fun r1 => ?_; refine Jj rfl (nK hK1 ?_); clear hK1 K1; refine sR fun K2 hK2 => ?_; refine JF rfl rfl rfl (enters_of Tryz.func11 (by kernel_rfl) rfl) Jjd ?_; refine Jj rfl (nK hK2 ?_); clear hK2 K2; refine sQ fun K3 hK3 => sR fun K4 hK4 => ?_; refine LS 2 [] rfl rfl (nK hK4 ?_); clear hK4 K4; refine Jd rfl (fun h5 => ?_) (fun h5 => ?_)
  try exact Bool.noConfusion h5
  · try simp only [ZZ] at h5
    refine Jg (hK3 ?_); clear hK3 K3; refine sR fun K7 hK7 => ?_; refine LR rfl (Ju (xs := (a).cells) (n := 8) rfl (Ja (k := 0) rfl) rfl rfl rfl) ?_; refine Ji rfl rfl rfl (enters_of Tryz.func22 (by kernel_rfl) rfl) f2 (fun q hq => Or.inr hq) ?_; refine Jj rfl (nK hK7 ?_); clear hK7 K7; refine sQ fun K8 hK8 => sR fun K9 hK9 => ?_; refine LS 3 [] rfl rfl ?_
    refine JH 21 rfl (fun hb10 => ?_) (fun hb10 => ?_) <;> (try simp only [ZZ] at hb10) <;> first | (refine Jj rfl ?_) | (refine LK rfl ?_)
    all_goals first
      | (refine LR rfl (JY rfl rfl) ?_)
      | (refine LK rfl ?_)
    all_goals refine LW 3 [] rfl rfl ?_
    all_goals first
      | (refine LK rfl ?_)
      | (refine JH 26 rfl (fun hb13 => ?_) (fun hb13 => ?_) <;> (try simp only [ZZ] at hb13) <;> first | (refine Jj rfl ?_) | (refine LK rfl ?_))
    all_goals first
      | (refine LR rfl (JY rfl rfl) ?_)
      | (refine LK rfl ?_)
    all_goals refine LW 3 [] rfl rfl ?_
    all_goals first
      | (refine LK rfl ?_)
      | (refine JH 31 rfl (fun hb16 => ?_) (fun hb16 => ?_) <;> (try simp only [ZZ] at hb16) <;> first | (refine Jj rfl ?_) | (refine LK rfl ?_))
    all_goals first
      | (refine LR rfl (JY rfl rfl) ?_)
      | (refine LK rfl ?_)
    all_goals refine LW 2 [] rfl rfl ?_
    all_goals refine Jh ?_
    all_goals (
     refine hK9 ?_; clear hK9 K9; refine Jd rfl (fun h19 => ?_) (fun h19 => ?_)
     try simp only [ZZ] at h19
     refine sR fun K20 hK20 => LS 2 [] rfl rfl (nK hK20 ?_); clear hK20 K20; refine Jc (Jf ?_); clear hK8 K8; refine pT rfl rfl rfl fun w1 hs1 => ?_; exact ⟨rfl, hs1.keep⟩
     · try exact Bool.noConfusion h19
       all_goals try simp only [ZZ] at h19
       all_goals (
        refine Jg (hK8 ?_); clear hK8 K8; refine sR fun K21 hK21 => ?_; refine LR rfl (Ju (xs := (a).cells) (n := 8) rfl (Ja (k := 0) rfl) rfl rfl rfl) ?_; refine LS 2 [] rfl rfl ?_; refine Qn (Rl := R) rfl rfl rfl (enters_of Tryz.func25 (by kernel_rfl) rfl) (g1) (fun q hq => Or.inr hq) fun x => ?_; refine KH List.perm_append_comm ?_
        obtain ⟨xs, xe, xL, xok, xeq⟩ := x
        change HL _ _ ((41, .tuple #[xs.val, .int .i64 xe]) :: _) (_ :: xL) _ _ _ _; subst xeq
        dsimp only at gb gk
        refine LS 3 [] rfl rfl ?_; refine Js (cs := #[_, _, _, _, _, _, _, _]) rfl rfl rfl rfl fun r1 => ?_; refine J2 (k := 0) (n := 8) (ys := (xs).cells) rfl rfl rfl rfl rfl rfl rfl rfl rfl ?_; refine Jj rfl (nK hK21 ?_); clear hK21 K21; refine sQ fun K22 hK22 => sR fun K23 hK23 => ?_; refine LS 2 [] rfl rfl (nK hK23 ?_); clear hK23 K23; refine Jd rfl (fun h24 => ?_) (fun h24 => ?_)
        · try simp only [ZZ] at h24
          refine sR fun K25 hK25 => ?_; refine LR rfl (Ju (xs := (a).cells) (n := 8) rfl (Ja (k := 1) rfl) rfl rfl rfl) ?_; refine LR rfl (Ju (xs := (xs).cells) (n := 8) rfl (Ja (k := 0) rfl) rfl rfl rfl) ?_
          refine Ji (Rl := xL ++ R) rfl rfl rfl (enters_of Tryz.func16 (by kernel_rfl) rfl) (ZM (R := xL ++ R) (ha.mono fun q hq => List.mem_append_right _ hq) xok) (fun q hq => by simp only [List.mem_append] at hq; rcases hq with h | h <;> first | exact Or.inr h | exact Or.inl (by simp [h])) ?_; refine J1 (X0 (show decide (a.er = xs.er) = true from decide_eq_true (gb (by assumption)).symm)) ?_; refine Jj rfl (nK hK25 ?_); clear hK25 K25; refine sR fun K26 hK26 => LS 5 [] rfl rfl (nK hK26 ?_); clear hK26 K26; refine Jc (Jf ?_); clear hK22 K22; refine pT rfl rfl rfl fun w1 hs1 => ?_; exact ⟨rfl, hs1.keep⟩
        · try simp only [ZZ] at h24
          refine Jg (hK22 ?_); clear hK22 K22; refine sQ fun K28 hK28 => sQ fun K29 hK29 => ?_
          obtain ⟨k1, k2, k3, k4, k5, k6, k7, k8⟩ := gk (by assumption)
          have hxs := xok.seg
          refine Kc 21 (by kernel_rfl) (by kernel_rfl) ?_; refine Jl rfl rfl rfl (Ju (xs := (xs).cells) (n := 8) rfl (Ja (k := 0) rfl) rfl rfl rfl) ?_; refine Jl rfl rfl rfl (Jo rfl) ?_
          refine VZ (Rl := xL ++ R) rfl rfl rfl (enters_of Tryz.func20 (by kernel_rfl) rfl) (wU (R := xL ++ R) xok key) (fun q hq => by simp only [List.mem_append] at hq; rcases hq with h | h <;> first | exact Or.inr h | exact Or.inl (by simp [h])) ?_; refine Qh (congrArg J5 (show KB xs.er key = val from k1)) ?_; refine Jl rfl rfl rfl (Jo rfl) ?_; refine Jl rfl rfl rfl (WV (a := val) (b := val) rfl rfl) ?_; refine Qh (X0 (show (!decide (val = val)) = false from by simp)) ?_; refine Jl rfl rfl rfl (Jo rfl) ?_; refine Jl rfl rfl rfl (Jo rfl) ?_; refine Jl rfl rfl rfl (Jo rfl) ?_; refine Jl rfl rfl rfl (WV (a := key) (b := other) rfl rfl) ?_; refine Jl rfl rfl rfl (Jo rfl) ?_
          refine zr 62 rfl (fun hb34 => ?_) (fun hb34 => ?_) <;> (try simp only [ZZ] at hb34) <;> first | (refine Jl rfl rfl rfl (Ju (xs := (xs).cells) (n := 8) rfl (Ja (k := 0) rfl) rfl rfl rfl) ?_) | (refine Q0 rfl rfl rfl ?_)
          all_goals first
            | (refine Jl rfl rfl rfl (Jo rfl) ?_)
            | (refine Q0 rfl rfl rfl ?_)
          all_goals first
            | (refine VZ (Rl := xL ++ R) rfl rfl rfl (enters_of Tryz.func20 (by kernel_rfl) rfl) (wU (R := xL ++ R) xok other) (fun q hq => by simp only [List.mem_append] at hq; rcases hq with h | h <;> first | exact Or.inr h | exact Or.inl (by simp [h])) ?_)
            | (refine Q0 rfl rfl rfl ?_)
          all_goals first
            | (refine Jl rfl rfl rfl (Ju (xs := (a).cells) (n := 8) rfl (Ja (k := 1) rfl) rfl rfl rfl) ?_)
            | (refine Q0 rfl rfl rfl ?_)
          all_goals first
            | (refine Jl rfl rfl rfl (Jo rfl) ?_)
            | (refine Q0 rfl rfl rfl ?_)
          all_goals first
            | (refine VZ (Rl := R) rfl rfl rfl (enters_of Tryz.func20 (by kernel_rfl) rfl) (wU ha other) (fun q hq => Or.inr hq) ?_; refine Qh (congrArg J5 (show KB a.er other = KB xs.er other from (k2 other (by simp_all)).symm)) ?_)
            | (refine Q0 rfl rfl rfl ?_)
          all_goals first
            | (refine Jl rfl rfl rfl (WV (a := KB xs.er other) (b := KB xs.er other) rfl rfl) ?_; refine Qh (X0 (show (!decide (KB xs.er other = KB xs.er other)) = false from by simp)) ?_)
            | (refine Q0 rfl rfl rfl ?_)
          all_goals first
            | (refine Jl rfl rfl rfl (ZR rfl rfl) ?_)
            | (refine Jl rfl rfl rfl (Yp rfl rfl) ?_)
          all_goals (refine Jl rfl rfl rfl (Yp rfl rfl) ?_)
          all_goals refine Jl rfl rfl rfl (Jo rfl) ?_
          all_goals (refine Jl rfl rfl rfl (Ju (xs := (xs).cells) (n := 8) rfl (Ja (k := 0) rfl) rfl rfl rfl) ?_)
          all_goals refine Kw ?_
          all_goals (refine Ka (vs := [_]) (zs := [_, _, _, _, _, _, _, _]) (r := xs.cells) rfl rfl rfl rfl rfl rfl rfl rfl rfl (by rw [Ku]; exact rfl) rfl fun rx => ?_)
          all_goals (refine LR rfl (JJ (r := [_]) rfl rfl) ?_)
          all_goals (refine Ji (Rl := (rx, _) :: (xL ++ R)) rfl rfl rfl (enters_of Tryz.func19 (by kernel_rfl) rfl) (Wx (s := ⟨[xs], some (⟨rx, 0, none⟩, 1)⟩) (Jry xok rx _)) (fun q hq => by rcases List.mem_cons.1 hq with rfl | hq; exact Or.inl List.mem_cons_self; rcases List.mem_append.1 hq with h | h; exact Or.inl (by simp [h]); exact Or.inr h) ?_; refine J1 (congrArg (Value.int .i64) (show Qm [xs.er] = 0 from k3)) ?_)
          all_goals (refine JZ rfl ?_)
          all_goals (refine LR rfl (Yp rfl rfl) ?_)
          all_goals refine Jh ?_
          all_goals (
           refine hK29 ?_; clear hK29 K29; refine Jd rfl (fun h47 => ?_) (fun h47 => ?_)
           try exact Bool.noConfusion h47
           try simp only [ZZ] at h47
           refine Jg (hK28 ?_); clear hK28 K28; refine sR fun K49 hK49 => LS 4 [1] rfl rfl ?_
           refine LS 2 [2] rfl rfl ?_; refine LR rfl (Vq (a := xs.addr) (b := a.addr) rfl rfl) ?_; refine J1 (X0 (show decide (xs.addr = a.addr) = true from decide_eq_true k4)) ?_; refine LS 4 [1] rfl rfl ?_
           refine LS 3 [2] rfl rfl ?_; refine J1 (show _ = Value.bool true from X0 (by have h5 : xs.nonce = a.nonce := k5; rw [h5]; simp)) ?_; refine LS 4 [1] rfl rfl ?_
           refine LS 2 [2] rfl rfl ?_; refine LR rfl (qS (xs := [uV xs.bal.a, uV xs.bal.b, uV xs.bal.c, uV xs.bal.d]) (ys := [uV a.bal.a, uV a.bal.b, uV a.bal.c, uV a.bal.d]) rfl rfl rfl rfl rfl (by kernel_rfl) rfl rfl rfl rfl) ?_; refine J1 (X0 (show _ = true from by have h6 : xs.bal = a.bal := k6; rw [h6]; exact (eqW _ _).trans (decide_eq_true rfl))) ?_; refine LS 4 [1] rfl rfl ?_
           refine LS 2 [2] rfl rfl ?_; refine LR rfl (Vq (a := xs.code) (b := a.code) rfl rfl) ?_; refine J1 (X0 (show decide (xs.code = a.code) = true from decide_eq_true k7)) ?_; refine LS 2 [] rfl rfl ?_
           refine LS 2 [1] rfl rfl ?_; refine LR rfl (J7 rfl hxs rfl) ?_
           refine LS 2 [2] rfl rfl ?_; refine LR rfl (J7 rfl hseg rfl) ?_; refine LS 2 [] rfl rfl ?_; refine J1 (show _ = Value.bool true from X0 (decide_eq_true (by have := hsl (by assumption); rw [wrap_i64 (by omega) (by omega)]; have h8 : xs.slots.length ≤ a.slots.length + 1 := k8; omega))) ?_; refine LS 2 [] rfl rfl (nK hK49 ?_); clear hK49 K49; refine Jc (pT rfl rfl rfl fun w1 hs1 => ?_); exact ⟨rfl, hs1.keep⟩
           skip)
        skip)
     skip)
end Go.Proofs.YteceenlfegnigaaGreatDoor
