/- What Make makes: right, normal, and its result is the target. -/
import Derived.Test.YtjckjcekapkkjaaPx0
import Derived.Test.YtjckjcekapkkjaaHAtoms
import Derived.Test.YtjckjcekapkkjaaHChkOk
import Derived.Test.YtjckjcekapkkjaaHOps
import Derived.Test.YtjckjcekapkkjaaHWrAdd
namespace Go.Proofs.Ytjckjcekapkkjaa.P
open Go.RowKit Go.Proofs.YtjckjcekapkkjaaW.PrintWords Go.Proofs.YtjckjcekapkkjaaW.PrintLast Go.Proofs.YtjckjcekapkkjaaW.PrintMore
set_option linter.unusedVariables false
set_option linter.unusedSimpArgs false

theorem applyS_len {base : List Int} {l : List Dop} (h : okOps l) : ((applyS base l).length : Int) = sizeS l := by
  unfold applyS sizeS
  rw [List.length_map, atoms_len h]
theorem opsB_good {base : Int} {l : List Dop} (h : goodOps base l) (h1 : base ≤ 1048576) (h3 : totS l ≤ 1048576) (h2 : ∀ o ∈ l, o.f1 ≤ 1048576) : opsB l = true := by
  unfold opsB
  refine List.all_eq_true.2 (fun o ho => ?_)
  have h4 := h2 o ho
  have h5 := tot_mem ho
  simp [Lit.wf, IntKind.min, IntKind.max, IntKind.signed, IntKind.bits]
  rcases h o ho with ⟨⟨a1, a2⟩, a3, a4⟩ | ⟨a1, a2, a3⟩
  · omega
  · omega
end Go.Proofs.Ytjckjcekapkkjaa.P
