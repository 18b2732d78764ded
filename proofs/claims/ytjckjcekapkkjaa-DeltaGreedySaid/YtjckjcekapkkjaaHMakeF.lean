/- What delta.Make answers. -/
import Derived.Test.YtjckjcekapkkjaaPx0
import Derived.Test.YtjckjcekapkkjaaHMake
import Derived.Test.YtjckjcekapkkjaaHOps
namespace Go.Proofs.Ytjckjcekapkkjaa.P
open Go.RowKit Go.Proofs.YtjckjcekapkkjaaW.PrintWords Go.Proofs.YtjckjcekapkkjaaW.PrintLast Go.Proofs.YtjckjcekapkkjaaW.PrintMore
set_option linter.unusedVariables false
set_option linter.unusedSimpArgs false

theorem makef_ok {a b : List Int} (h : byB a = true) (h2 : byB b = true) (h3 : a.length ≤ 2048) (h4 : b.length ≤ 2048) : delta_Make.f a b = some (makeS a b, 0) := by
  unfold delta_Make.f; rw [if_pos ⟨h, h2⟩, if_pos ⟨h3, h4⟩]
end Go.Proofs.Ytjckjcekapkkjaa.P
