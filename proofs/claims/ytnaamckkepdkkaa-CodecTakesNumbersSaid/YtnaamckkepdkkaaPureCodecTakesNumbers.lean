/- The pure statement of CodecTakesNumbers: both decoders answer alike. -/
import Derived.Test.YtnaamckkepdkkaaPx0
import Derived.Test.YtnaamckkepdkkaaPx19
import Derived.Test.YtnaamckkepdkkaaHMathI
import Derived.Test.YtnaamckkepdkkaaHMathU
import Derived.Test.YtnaamckkepdkkaaHTakeUint
import Derived.Test.YtnaamckkepdkkaaHText
import Derived.Test.YtnaamckkepdkkaaHUint
namespace Go.Proofs.Ytnaamckkepdkkaa.Pure
open Go.RowKit Go.Proofs.Ytnaamckkepdkkaa.P Go.Proofs.YtnaamckkepdkkaaW.PrintWords Go.Proofs.YtnaamckkepdkkaaW.PrintLast

theorem CodecTakesNumbers : stockyardlaw01_CodecTakesNumbers.Pure := by
  intro l a hm hr hw ha
  refine ⟨1, ?_⟩
  unfold stockyardlaw01_CodecTakesNumbers.f
  by_cases hl : (l.length : Int) > 200
  · rw [if_pos hl, awake_true]; rfl
  · rw [if_neg hl]
    unfold stockyardref01_TakeUint.f
    have hB := byteB_of hw
    obtain ⟨R, hR⟩ : ∃ R, codec_Uint.f l a = some R := by unfold codec_Uint.f; rw [if_pos hB]; exact ⟨_, rfl⟩
    obtain ⟨u, next, e⟩ := R
    rw [hR]
    simp only [Option.bind_some, if_true, stockyardlaw01_CodecTakesNumbers.j0, bne_self_eq_false, Bool.false_eq_true, if_false]
    by_cases he : e = 0
    · subst he
      obtain ⟨_, _, h0, h1, _, _⟩ := codec_Uint.ok hR
      obtain ⟨n, rfl⟩ := Int.eq_ofNat_of_zero_le h0
      rw [intU hR (by omega), takeI hR (by omega)]
      simp [awake_true]
    · rw [intU_err hR he, takeI_err hR he]
      simp [awake_true]

end Go.Proofs.Ytnaamckkepdkkaa.Pure
