/- The pure statement of CodecTakesBools: both decoders answer alike. -/
import Derived.Test.YtnaamckkepdkkaaPx0
import Derived.Test.YtnaamckkepdkkaaPx2
import Derived.Test.YtnaamckkepdkkaaPx22
import Derived.Test.YtnaamckkepdkkaaPx23
import Derived.Test.YtnaamckkepdkkaaPx24
import Derived.Test.YtnaamckkepdkkaaHMathI
namespace Go.Proofs.Ytnaamckkepdkkaa.Pure
open Go.RowKit Go.Proofs.Ytnaamckkepdkkaa.P Go.Proofs.YtnaamckkepdkkaaW.PrintWords Go.Proofs.YtnaamckkepdkkaaW.PrintLast

theorem CodecTakesBools : stockyardlaw01_CodecTakesBools.Pure := by
  intro l a hm hr hw ha
  have ⟨h1, h2⟩ := wf_i64b ha
  refine ⟨1, ?_⟩
  unfold stockyardlaw01_CodecTakesBools.f
  obtain ⟨R, hR, hT⟩ : ∃ R, codec_Bool.f l a = some R ∧ stockyardref01_TakeBool.f 1 l a = some R := by
    unfold codec_Bool.f codec_inside.f stockyardref01_TakeBool.f
    simp only [stockyardref01_TakeBool.j0]
    by_cases h0 : a < 0
    · rw [if_neg (by omega), if_pos h0]; simp
    · rw [if_pos (by omega), if_neg h0]
      by_cases hl : a ≤ l.length
      · have e1 : decide (a ≤ (l.length : Int)) = true := by simpa using hl
        have e2 : decide (a > (l.length : Int)) = false := by simp; omega
        rw [e1, e2]
        simp only [Option.bind_some, if_true, Bool.false_eq_true, if_false]
        by_cases he : a = l.length
        · rw [if_pos he]; exact ⟨_, rfl, rfl⟩
        · rw [if_neg he, if_pos (by omega), if_pos (by omega)]
          split <;> exact ⟨_, rfl, rfl⟩
      · have e1 : decide (a ≤ (l.length : Int)) = false := by simp; omega
        have e2 : decide (a > (l.length : Int)) = true := by simp; omega
        rw [e1, e2]
        simp
  rw [hR, hT]
  simp [awake_true]

end Go.Proofs.Ytnaamckkepdkkaa.Pure
