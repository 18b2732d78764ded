/- Rows of bytes: small facts. -/
import Derived.Test.YtjckjcekapkkjaaPx0
import Derived.Test.YtjckjcekapkkjaaHMake
namespace Go.Proofs.Ytjckjcekapkkjaa.P
open Go.RowKit Go.Proofs.YtjckjcekapkkjaaW.PrintWords Go.Proofs.YtjckjcekapkkjaaW.PrintLast Go.Proofs.YtjckjcekapkkjaaW.PrintMore
set_option linter.unusedVariables false
set_option linter.unusedSimpArgs false

theorem wf8 {x : Int} (h : (Lit.int .u8 x).wf = true) : 0 ≤ x ∧ x ≤ 255 := by
  simpa [Lit.wf, IntKind.min, IntKind.max, IntKind.signed, IntKind.bits] using h
theorem byB_of {l : List Int} (h : ∀ x ∈ l, (Lit.int .u8 x).wf = true) : byB l = true := by
  unfold byB
  refine List.all_eq_true.2 (fun x hx => ?_)
  have := wf8 (h x hx)
  simp; omega
end Go.Proofs.Ytjckjcekapkkjaa.P
