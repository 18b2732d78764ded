/- Rows of bytes: small facts. -/
import Derived.Test.YtjckjcekapkkjaaPx0
import Derived.Test.YtjckjcekapkkjaaHMake
namespace Go.Proofs.Ytjckjcekapkkjaa.P
open Go.RowKit Go.Proofs.YtjckjcekapkkjaaW.PrintWords Go.Proofs.YtjckjcekapkkjaaW.PrintLast Go.Proofs.YtjckjcekapkkjaaW.PrintMore
set_option linter.unusedVariables false
set_option linter.unusedSimpArgs false

theorem byB_iff {l : List Int} : byB l = true ↔ ∀ x ∈ l, 0 ≤ x ∧ x < 256 := by
  simp [byB]
theorem byB_app {l m : List Int} (h : byB l = true) (h2 : byB m = true) : byB (l ++ m) = true := byB_iff.2 (fun x hx => (List.mem_append.1 hx).elim (byB_iff.1 h x) (byB_iff.1 h2 x))
end Go.Proofs.Ytjckjcekapkkjaa.P
