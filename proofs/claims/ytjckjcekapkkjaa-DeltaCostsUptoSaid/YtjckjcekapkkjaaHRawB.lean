/- A raw list of ops is in bounds. -/
import Derived.Test.YtjckjcekapkkjaaPx0
import Derived.Test.YtjckjcekapkkjaaHOpenOps
import Derived.Test.YtjckjcekapkkjaaHOps
namespace Go.Proofs.Ytjckjcekapkkjaa.P
open Go.RowKit Go.Proofs.YtjckjcekapkkjaaW.PrintWords Go.Proofs.YtjckjcekapkkjaaW.PrintLast Go.Proofs.YtjckjcekapkkjaaW.PrintMore
set_option linter.unusedVariables false
set_option linter.unusedSimpArgs false

theorem raw_opsB {l : List Dop} (h : rawOps l) : opsB l = true := by
  unfold opsB
  rw [List.all_eq_true]
  intro o ho
  obtain ⟨a, b, c, _⟩ := h.2 o ho
  rw [a, b]
  simp
  omega
end Go.Proofs.Ytjckjcekapkkjaa.P
