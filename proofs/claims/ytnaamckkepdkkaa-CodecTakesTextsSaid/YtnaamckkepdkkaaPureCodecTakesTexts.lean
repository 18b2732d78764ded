/- The pure statement of CodecTakesTexts: both decoders answer alike. -/
import Derived.Test.YtnaamckkepdkkaaPx0
import Derived.Test.YtnaamckkepdkkaaPx25
import Derived.Test.YtnaamckkepdkkaaHMathI
import Derived.Test.YtnaamckkepdkkaaHMathU
import Derived.Test.YtnaamckkepdkkaaHText
import Derived.Test.YtnaamckkepdkkaaHUint
namespace Go.Proofs.Ytnaamckkepdkkaa.Pure
open Go.RowKit Go.Proofs.Ytnaamckkepdkkaa.P Go.Proofs.YtnaamckkepdkkaaW.PrintWords Go.Proofs.YtnaamckkepdkkaaW.PrintLast

theorem CodecTakesTexts : stockyardlaw01_CodecTakesTexts.Pure := by
  intro l a most hm hr hw ha hmo
  unfold stockyardlaw01_CodecTakesTexts.f
  by_cases hl : (l.length : Int) > 400
  · rw [if_pos hl, awake_true]; rfl
  · rw [if_neg hl]
    unfold stockyardref01_TakeText.f
    have hB := byteB_of hw
    obtain ⟨R, hR⟩ : ∃ R, codec_Text.f l a most = some R := by
      unfold codec_Text.f codec_Uint.f; rw [if_pos ⟨hm, hmo⟩, if_pos hB]; exact ⟨_, rfl⟩
    rw [hR]
    simp [awake_true]

end Go.Proofs.Ytnaamckkepdkkaa.Pure
