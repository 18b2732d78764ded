/- Fold. -/
import Derived.Test.YtjckjcekapkkjaaPx0
import Derived.Test.YtjckjcekapkkjaaPx1
namespace Go.Proofs.Ytjckjcekapkkjaa.P
open Go.RowKit Go.Proofs.YtjckjcekapkkjaaW.PrintWords Go.Proofs.YtjckjcekapkkjaaW.PrintLast Go.Proofs.YtjckjcekapkkjaaW.PrintMore
set_option linter.unusedVariables false
set_option linter.unusedSimpArgs false

theorem fold_any (a n : Int) (hn : n ≤ 4611686018427387904) : ∃ r, make_Fold.f a n = some r ∧ 0 ≤ r ∧ (1 < n → r < n) ∧ (n ≤ 1 → r = 0) := by
  unfold make_Fold.f
  by_cases h : n ≤ 1
  · rw [if_pos h]; exact ⟨0, rfl, by omega, by omega, by omega⟩
  · rw [if_neg h, if_neg (by omega)]
    have h1 : (Int.tmod a n) < n := Int.tmod_lt_of_pos a (by omega)
    have h2 : -n < Int.tmod a n := by
      have := Int.tmod_lt_of_pos (-a) (show 0 < n by omega)
      rw [Int.neg_tmod] at this
      omega
    by_cases h3 : Int.tmod a n < 0
    · rw [if_pos h3]
      have e : wrap64 (Int.tmod a n + n) = Int.tmod a n + n := by unfold wrap64; omega
      rw [e]
      exact ⟨_, rfl, by omega, by omega, by omega⟩
    · rw [if_neg h3]
      exact ⟨_, rfl, by omega, by omega, by omega⟩
end Go.Proofs.Ytjckjcekapkkjaa.P
