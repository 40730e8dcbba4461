import Derived.Test.YteceenlfegnigaaGreatDoorZtParsesg
set_option maxRecDepth 100000
namespace Go.Proofs.YteceenlfegnigaaGreatDoor
set_option linter.all false
open Go.SL Go.RowKit Go.Shelf
open Go.Proofs (Enters enters_of)
variable {g : FuncId} {R Rl : Jj} {xs : List (BS × BS)} {b : Nat} {x : Ty} {q : Ty × Nat × Nat} {y : Vl} {w : World}
theorem L_StateParses (b : BS) : PureR Tryz.prog 6 [Jw b].toArray (.bool true) R := by
 have g1 := xv b
 have g2 := Jg0 b
 generalize VU b = p1 at g1 g2
 refine Ja Tryz.func6 rfl rfl fun w => DI ?_; refine J6 rfl rfl rfl (enters_of Tryz.func11 m5 rfl) Jlr (JQ 10 rfl (JH rfl (fun g => ?_) (fun g => ?_)))
 try exact Bool.noConfusion g
 ·try simp only [ZZ] at g
  refine gY ?_; refine DK ?_; refine cD (fun g => ?_) fun g => ?_
  refine GD ?_; exact Nc
  ·refine kS ?_; refine JW (Rl := []) rfl rfl rfl (enters_of Tryz.func31 m5 rfl) (g1) oN fun x => kZ ?_
   obtain ⟨xs, xe, xL, xok, xeq⟩ := x
   change HL _ _ ((18, .tuple #[xs.val, .int .i64 xe]) :: _) (xL) _ _ _ _
   have xok : xs.In xL := by simpa using xok
   refine gw ?_; refine LN rfl fun r1 => Ju (k := 0) (n := 1) (ys := (xs).cells) rfl rfl rfl rfl rfl rfl rfl rfl rfl (Gc ?_); refine JW (Rl := []) rfl rfl rfl (enters_of Tryz.func32 m5 rfl) (g2) oN fun y => JY (qV _ [_] _) ?_
   obtain ⟨ys, ye, yL, yok, yeq⟩ := y
   change HL _ _ ((23, .tuple #[ys.val, .int .i64 ye]) :: _) (_ :: (yL ++ xL)) _ _ _ _
   have yok : ys.In yL := by simpa using yok
   obtain ⟨hxy, rfl⟩ : xs.er = ys.er ∧ xe = ye := Prod.mk.inj (xeq.trans yeq.symm)
   refine gw ?_; refine LN rfl fun r2 => Ju (k := 0) (n := 1) (ys := (ys).cells) rfl rfl rfl rfl rfl rfl rfl rfl rfl (ND ?_); refine LR rfl (Jm (xs := (xs).cells) (n := 1) rfl (kn 1 rfl) rfl rfl rfl) (LR rfl (Jm (xs := (ys).cells) (n := 1) rfl (kn 0 rfl) rfl rfl rfl) ?_)
   refine Jb (Rl := yL ++ xL) rfl rfl rfl (enters_of Tryz.func18 m5 rfl) (Juw (R := yL ++ xL) (xok.mono fun q hq => List.mem_append_right _ hq) (yok.mono fun q hq => List.mem_append_left _ hq)) (fun q hq => .inl mt) (Jk (qw (show decide (xs.er = ys.er) = true from decide_eq_true hxy)) (JK 13 rfl (Jk (qw (show (xe == xe) = true from by simp)) (Ga ?_)))); exact Nc
end Go.Proofs.YteceenlfegnigaaGreatDoor
