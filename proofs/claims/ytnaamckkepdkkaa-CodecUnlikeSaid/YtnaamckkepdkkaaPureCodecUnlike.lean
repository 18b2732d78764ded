/- The pure statement of CodecUnlike, whose contract says that it returns true. -/
import Derived.Test.YtnaamckkepdkkaaPx0
import Derived.Test.YtnaamckkepdkkaaPx9
import Derived.Test.YtnaamckkepdkkaaHUnlike
namespace Go.Proofs.Ytnaamckkepdkkaa.Pure
open Go.RowKit Go.Proofs.Ytnaamckkepdkkaa.P Go.Proofs.YtnaamckkepdkkaaW.PrintWords Go.Proofs.YtnaamckkepdkkaaW.PrintLast

theorem CodecUnlike : stockyardlaw01_CodecUnlike.Pure := by
  intro a0 a1 h0 h1
  unfold stockyardlaw01_CodecUnlike.f
  rw [if_pos ⟨h0, h1⟩]

end Go.Proofs.Ytnaamckkepdkkaa.Pure
