import Derived.Test.YteceenlfegnigaaGreatDoorZtBytesg
set_option maxRecDepth 100000
namespace Go.Proofs.YteceenlfegnigaaGreatDoor
set_option linter.all false
open Go.SL Go.RowKit Go.Shelf
open Go.Proofs (Enters enters_of)
variable {cs : Array Value} {s : BS} {g : FuncId} {R : Jp} {xs : List (BS × BS)} {a : List Nat} {b : Nat} {w : World}
theorem L_StateBytes {s : StL} (hs : s.In R) : PureR Tryz.prog 5 [s.val].toArray (.bool true) R := by
  have hseg := hs.seg
  have f1 := Jw9 hs
  have g1 := fun h : zY s.er = true => vK hs (fun hc => Jde h hc)
  have g2 := fun h : zY s.er = true => Jig hs (fun hc => Jde h hc)
  have g3 := fun h : zY s.er = true => xj hs (fun hc => Jde h hc)
  have g4 := fun h : zY s.er = true => Jno hs (fun hc => Jde h hc)
  generalize zY s.er = b1 at f1 g1 g2 g3 g4
  generalize VI s.er = p1 at g1 g2
  generalize Yw s.er = p2 at g3 g4
  obtain ⟨bt, be⟩ := p1
  obtain ⟨rt, re⟩ := p2
  refine Ja Tryz.func5 rfl rfl fun w => JN (kj ?_); refine Qp (cs := (s).cells.toArray) rfl rfl rfl rfl fun r1 => kB ?_; refine J2 rfl rfl rfl (enters_of Tryz.func11 m5 rfl) Jnt (DE ?_); refine JI rfl (fun g => ?_) (fun g => ?_)
  try exact Bool.noConfusion g
  · try simp only [ZZ] at g
    refine GO ?_; refine G6 ?_; refine Jc rfl rfl rfl (enters_of Tryz.func12 m5 rfl) f1 oR (JK 9 rfl ?_)
    refine Jo 20 rfl (fun gb => ?_) (fun gb => ?_) <;> (try simp only [ZZ] at gb) <;> first | (refine LR rfl (Jw rfl rfl rfl) ?_) | (refine LK rfl ?_)
    all_goals refine G9 ?_
    all_goals refine GL ?_
    all_goals first | refine LK rfl ?_ | (refine Jo 25 rfl (fun gb => ?_) (fun gb => ?_) <;> (try simp only [ZZ] at gb) <;> first | (refine LR rfl (Jw rfl rfl rfl) ?_) | (refine LK rfl ?_))
    all_goals refine G9 ?_
    all_goals (
     refine Ee ?_; refine JI rfl (fun g => ?_) (fun g => ?_)
     · try exact Bool.noConfusion g
       all_goals try simp only [ZZ] at g
       all_goals (
        refine KQ 8 rfl ?_; exact Nz
        skip)
     · try exact Bool.noConfusion g
       all_goals try simp only [ZZ] at g
       all_goals (
        refine GO ?_; refine G6 ?_; refine Jc rfl rfl rfl Jy6 (g1 mA) oR (JK 9 rfl (G6 ?_)); refine Jc rfl rfl rfl (enters_of Tryz.func28 m5 rfl) (g2 mA) oR (JK 9 rfl (G6 ?_)); refine Jc rfl rfl rfl Jy7 (g3 mA) oR (JK 9 rfl (G6 ?_)); refine Jc rfl rfl rfl (enters_of Tryz.func30 m5 rfl) (g4 mA) oR (JK 13 rfl (LR rfl (V5 (a := bt) (b := bt) rfl rfl) (Jj (jl (show (decide (bt = bt)) = true from by simp)) (LS 5 [] rfl rfl (Jj (jl (show (be == be) = true from by simp)) (LS 4 [] rfl rfl (LR rfl (V5 (a := rt) (b := rt) rfl rfl) (Jj (jl (show (decide (rt = rt)) = true from by simp)) (LS 5 [] rfl rfl (Jj (jl (show (re == re) = true from by simp)) (gt ?_))))))))))); exact Nz
        skip)
     skip)
end Go.Proofs.YteceenlfegnigaaGreatDoor
