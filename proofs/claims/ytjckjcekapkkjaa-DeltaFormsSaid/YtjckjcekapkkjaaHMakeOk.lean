/- What Make makes: right, normal, and its result is the target. -/
import Derived.Test.YtjckjcekapkkjaaPx0
import Derived.Test.YtjckjcekapkkjaaPx5
import Derived.Test.YtjckjcekapkkjaaHOps
import Derived.Test.YtjckjcekapkkjaaHMake
import Derived.Test.YtjckjcekapkkjaaHMap
import Derived.Test.YtjckjcekapkkjaaHRefUint
import Derived.Test.YtjckjcekapkkjaaHWrAdd
namespace Go.Proofs.Ytjckjcekapkkjaa.P
open Go.RowKit Go.Proofs.YtjckjcekapkkjaaW.PrintWords Go.Proofs.YtjckjcekapkkjaaW.PrintLast Go.Proofs.YtjckjcekapkkjaaW.PrintMore
set_option linter.unusedVariables false
set_option linter.unusedSimpArgs false

theorem literal_eq (o : Dop) : ref26_Literal.f o.f0 o.f1 o.f2 = some (decide (opLt o)) := by
  unfold ref26_Literal.f opLt
  by_cases h1 : o.f1 = 0
  · by_cases h2 : o.f0 = 0
    · rw [if_pos h1, if_pos h2]
      by_cases h3 : o.f2 = []
      · simp [h1, h2, h3]
      · have := List.length_pos_iff.2 h3
        simp [h1, h2, h3]; omega
    · rw [if_pos h1, if_neg h2]; simp [h1, h2]
  · rw [if_neg h1]; simp [h1]
theorem copies_eq (o : Dop) : ref26_Copies.f o.f0 o.f1 o.f2 = some (decide (opCp o)) := by
  unfold ref26_Copies.f opCp
  by_cases h1 : o.f1 ≥ 1
  · rw [if_pos h1]
    by_cases h3 : o.f2 = []
    · have : 1 ≤ o.f1 := h1
      simp [this, h3]
    · have := List.length_pos_iff.2 h3
      simp [h3]
  · rw [if_neg h1]
    have : ¬ 1 ≤ o.f1 := h1
    simp [this]
end Go.Proofs.Ytjckjcekapkkjaa.P
namespace Go.Proofs.Ytjckjcekapkkjaa.P
open Go.RowKit Go.Proofs.YtjckjcekapkkjaaW.PrintWords Go.Proofs.YtjckjcekapkkjaaW.PrintLast Go.Proofs.YtjckjcekapkkjaaW.PrintMore
set_option linter.unusedVariables false
set_option linter.unusedSimpArgs false

theorem byB_iff {l : List Int} : byB l = true ↔ ∀ x ∈ l, 0 ≤ x ∧ x < 256 := by
  simp [byB]
theorem byB_app {l m : List Int} (h : byB l = true) (h2 : byB m = true) : byB (l ++ m) = true := byB_iff.2 (fun x hx => (List.mem_append.1 hx).elim (byB_iff.1 h x) (byB_iff.1 h2 x))
end Go.Proofs.Ytjckjcekapkkjaa.P
namespace Go.Proofs.Ytjckjcekapkkjaa.P
open Go.RowKit Go.Proofs.YtjckjcekapkkjaaW.PrintWords Go.Proofs.YtjckjcekapkkjaaW.PrintLast Go.Proofs.YtjckjcekapkkjaaW.PrintMore
set_option linter.unusedVariables false
set_option linter.unusedSimpArgs false

theorem opsB_good {base : Int} {l : List Dop} (h : goodOps base l) (h1 : base ≤ 1048576) (h3 : totS l ≤ 1048576) (h2 : ∀ o ∈ l, o.f1 ≤ 1048576) : opsB l = true := by
  unfold opsB
  refine List.all_eq_true.2 (fun o ho => ?_)
  have h4 := h2 o ho
  have h5 := tot_mem ho
  simp [Lit.wf, IntKind.min, IntKind.max, IntKind.signed, IntKind.bits]
  rcases h o ho with ⟨⟨a1, a2⟩, a3, a4⟩ | ⟨a1, a2, a3⟩
  · omega
  · omega
end Go.Proofs.Ytjckjcekapkkjaa.P
