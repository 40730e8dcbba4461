import Derived.Test.YthfinkklgbiaeaaDoorWg
import Derived.Test.YthfinkklgbiaeaaDoorShelf
namespace Go.Proofs.YthfinkklgbiaeaaDoor
set_option linter.all false
open Go.SL Go.RowKit Go.Shelf
theorem P_TrimLeft0 (s : List UInt8) : Pure Tryd.prog 56 [.string (bs s), .string ⟨#[0]⟩].toArray (.string (bs (Lib.trimLeftB s 0))) := ⟨fun w => by
  have h := Tryd.strings_TrimLeft_one (bs s) 0 (by decide) w
  refine h.mono fun e w' ⟨h1, h2⟩ => ⟨?_, h2 ▸ Keep.refl _ _⟩
  rw [h1]; simp [bs]⟩
theorem P_HasPrefix0 (s : List UInt8) : Pure Tryd.prog 57 [.string (bs s), .string ⟨#[0]⟩].toArray (.bool (Lib.hasPrefix s [0])) := ⟨fun w => by
  have h := Tryd.strings_HasPrefix (bs s) ⟨#[0]⟩ w
  refine h.mono fun e w' ⟨h1, h2⟩ => ⟨?_, h2 ▸ Keep.refl _ _⟩
  rw [h1]; simp [bs]⟩
theorem P_Repeat0 {n : Nat} (hn : n ≤ 32) : Pure Tryd.prog 58 [.string ⟨#[0]⟩, .int .i64 (n : Int)].toArray (.string (bs (Lib.repeatL [0] n))) := ⟨fun w => by
  have hs : (ByteArray.mk #[0]).size = 1 := rfl
  have h := Tryd.strings_Repeat ⟨#[0]⟩ n w (by omega) (by rw [hs]; omega)
  refine h.mono fun e w' ⟨h1, h2⟩ => ⟨?_, Keep.of_below h2⟩
  rw [h1]; rfl⟩
end Go.Proofs.YthfinkklgbiaeaaDoor
