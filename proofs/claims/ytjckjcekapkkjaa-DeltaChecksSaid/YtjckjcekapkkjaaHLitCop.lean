/- What Literal and Copies answer. -/
import Derived.Test.YtjckjcekapkkjaaPx0
import Derived.Test.YtjckjcekapkkjaaPx5
import Derived.Test.YtjckjcekapkkjaaHOps
namespace Go.Proofs.Ytjckjcekapkkjaa.P
open Go.RowKit Go.Proofs.YtjckjcekapkkjaaW.PrintWords Go.Proofs.YtjckjcekapkkjaaW.PrintLast Go.Proofs.YtjckjcekapkkjaaW.PrintMore
set_option linter.unusedVariables false
set_option linter.unusedSimpArgs false

theorem literal_eq (o : Dop) : ref26_Literal.f o.f0 o.f1 o.f2 = some (decide (opLt o)) := by
  unfold ref26_Literal.f opLt
  by_cases h1 : o.f1 = 0
  · by_cases h2 : o.f0 = 0
    · rw [if_pos h1, if_pos h2]
      by_cases h3 : o.f2 = []
      · simp [h1, h2, h3]
      · have := List.length_pos_iff.2 h3
        simp [h1, h2, h3]; omega
    · rw [if_pos h1, if_neg h2]; simp [h1, h2]
  · rw [if_neg h1]; simp [h1]
theorem copies_eq (o : Dop) : ref26_Copies.f o.f0 o.f1 o.f2 = some (decide (opCp o)) := by
  unfold ref26_Copies.f opCp
  by_cases h1 : o.f1 ≥ 1
  · rw [if_pos h1]
    by_cases h3 : o.f2 = []
    · have : 1 ≤ o.f1 := h1
      simp [this, h3]
    · have := List.length_pos_iff.2 h3
      simp [h3]
  · rw [if_neg h1]
    have : ¬ 1 ≤ o.f1 := h1
    simp [this]
end Go.Proofs.Ytjckjcekapkkjaa.P
