/- The atoms are as many as the bytes. -/
import Derived.Test.YtjckjcekapkkjaaPx0
import Derived.Test.YtjckjcekapkkjaaHAtoms
import Derived.Test.YtjckjcekapkkjaaHChkOk
import Derived.Test.YtjckjcekapkkjaaHMakeOk
import Derived.Test.YtjckjcekapkkjaaHOps
namespace Go.Proofs.Ytjckjcekapkkjaa.P
open Go.RowKit Go.Proofs.YtjckjcekapkkjaaW.PrintWords Go.Proofs.YtjckjcekapkkjaaW.PrintLast Go.Proofs.YtjckjcekapkkjaaW.PrintMore
set_option linter.unusedVariables false
set_option linter.unusedSimpArgs false

theorem sizeS_cons (o : Dop) (l : List Dop) : sizeS (o :: l) = opLen o + sizeS l := by simp [sizeS]
theorem sizeS_nonneg {l : List Dop} (h : okOps l) : 0 ≤ sizeS l := by
  have := applyS_len (base := []) h
  omega
theorem atoms_size {l : List Dop} (h : okOps l) : ((atoms l).length : Int) = sizeS l := by unfold sizeS; exact atoms_len h
end Go.Proofs.Ytjckjcekapkkjaa.P
