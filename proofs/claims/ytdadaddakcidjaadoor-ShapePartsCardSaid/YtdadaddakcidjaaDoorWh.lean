import Derived.Test.YtdadaddakcidjaaDoorWg
import Derived.Test.YtdadaddakcidjaaDoorShelf
namespace Go.Proofs.YtdadaddakcidjaaDoor
set_option linter.all false
open Go.SL Go.RowKit Go.Shelf
theorem P_TrimLeft0 (s : List UInt8) : Pure Tryd.prog 83 [.string (bs s), .string ⟨#[0]⟩].toArray (.string (bs (Lib.trimLeftB s 0))) := ⟨fun w => by
  have h := Tryd.strings_TrimLeft_one (bs s) 0 (by decide) w
  refine h.mono fun e w' ⟨h1, h2⟩ => ⟨?_, h2 ▸ Keep.refl _ _⟩
  rw [h1]; simp [bs]⟩
end Go.Proofs.YtdadaddakcidjaaDoor
