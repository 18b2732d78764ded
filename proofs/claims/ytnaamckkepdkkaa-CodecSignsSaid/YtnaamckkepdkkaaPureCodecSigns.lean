/- The pure statement of CodecSigns, whose contract says that it returns true. -/
import Derived.Test.YtnaamckkepdkkaaPx0
import Derived.Test.YtnaamckkepdkkaaPx21
import Derived.Test.YtnaamckkepdkkaaHSigns
namespace Go.Proofs.Ytnaamckkepdkkaa.Pure
open Go.RowKit Go.Proofs.Ytnaamckkepdkkaa.P Go.Proofs.YtnaamckkepdkkaaW.PrintWords Go.Proofs.YtnaamckkepdkkaaW.PrintLast

theorem CodecSigns : stockyardlaw01_CodecSigns.Pure := by
  intro a0 a1 h0 h1
  unfold stockyardlaw01_CodecSigns.f
  rw [if_pos ⟨h0, h1⟩]

end Go.Proofs.Ytnaamckkepdkkaa.Pure
