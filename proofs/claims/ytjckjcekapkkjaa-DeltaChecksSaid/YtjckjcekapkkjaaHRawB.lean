/- A raw list of ops is in bounds. -/
import Derived.Test.YtjckjcekapkkjaaPx0
import Derived.Test.YtjckjcekapkkjaaHMake
import Derived.Test.YtjckjcekapkkjaaHOpenOps
import Derived.Test.YtjckjcekapkkjaaHOps
namespace Go.Proofs.Ytjckjcekapkkjaa.P
open Go.RowKit Go.Proofs.YtjckjcekapkkjaaW.PrintWords Go.Proofs.YtjckjcekapkkjaaW.PrintLast Go.Proofs.YtjckjcekapkkjaaW.PrintMore
set_option linter.unusedVariables false
set_option linter.unusedSimpArgs false

theorem byB_iff {l : List Int} : byB l = true ↔ ∀ x ∈ l, 0 ≤ x ∧ x < 256 := by
  simp [byB]
theorem byB_app {l m : List Int} (h : byB l = true) (h2 : byB m = true) : byB (l ++ m) = true := byB_iff.2 (fun x hx => (List.mem_append.1 hx).elim (byB_iff.1 h x) (byB_iff.1 h2 x))
end Go.Proofs.Ytjckjcekapkkjaa.P
namespace Go.Proofs.Ytjckjcekapkkjaa.P
open Go.RowKit Go.Proofs.YtjckjcekapkkjaaW.PrintWords Go.Proofs.YtjckjcekapkkjaaW.PrintLast Go.Proofs.YtjckjcekapkkjaaW.PrintMore
theorem heapOp : Kd.Heap k39 := Kd.heap_iso _ (Kd.heap_pair (Kd.heap_int _) (Kd.heap_pair (Kd.heap_int _) (Kd.heap_slice _ (Kd.heap_int _))))
end Go.Proofs.Ytjckjcekapkkjaa.P
namespace Go.Proofs.Ytjckjcekapkkjaa.P
open Go.RowKit Go.Proofs.YtjckjcekapkkjaaW.PrintWords Go.Proofs.YtjckjcekapkkjaaW.PrintLast Go.Proofs.YtjckjcekapkkjaaW.PrintMore
set_option linter.unusedVariables false
set_option linter.unusedSimpArgs false

theorem raw_opsB {l : List Dop} (h : rawOps l) : opsB l = true := by
  unfold opsB
  rw [List.all_eq_true]
  intro o ho
  obtain ⟨a, b, c, _⟩ := h.2 o ho
  rw [a, b]
  simp
  omega
end Go.Proofs.Ytjckjcekapkkjaa.P
