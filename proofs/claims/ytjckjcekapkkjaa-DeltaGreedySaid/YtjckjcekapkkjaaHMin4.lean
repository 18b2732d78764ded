/- Make's copies have four bytes at least. -/
import Derived.Test.YtjckjcekapkkjaaPx0
import Derived.Test.YtjckjcekapkkjaaHOps
import Derived.Test.YtjckjcekapkkjaaHWrAdd
namespace Go.Proofs.Ytjckjcekapkkjaa.P
open Go.RowKit Go.Proofs.YtjckjcekapkkjaaW.PrintWords Go.Proofs.YtjckjcekapkkjaaW.PrintLast Go.Proofs.YtjckjcekapkkjaaW.PrintMore
set_option linter.unusedVariables false
set_option linter.unusedSimpArgs false

def min4 (l : List Dop) : Prop := ∀ o ∈ l, opCp o → 4 ≤ o.f1
theorem min4_add {l : List Dop} {o : Dop} (h : min4 l) (ho : opCp o → 4 ≤ o.f1) : min4 (addOp l o) := by
  rcases snoc_cases l with rfl | ⟨init, la, rfl⟩
  · intro x hx hc
    simp [addOp] at hx
    subst hx
    exact ho hc
  · rw [addOp_snoc]
    have hi : ∀ x ∈ init, opCp x → 4 ≤ x.f1 := fun x hx => h x (by simp [hx])
    have hl := h la (by simp)
    intro x hx hc
    split at hx
    · rcases List.mem_append.1 hx with hx | hx
      · exact hi x hx hc
      · simp at hx
        subst hx
        rename_i hh
        exact absurd hc.1 (by simp)
    · split at hx
      · rename_i h1 h2
        rcases List.mem_append.1 hx with hx | hx
        · exact hi x hx hc
        · simp at hx
          subst hx
          have := hl h2.1
          have := h2.2.1.1
          simp only
          omega
      · rcases List.mem_append.1 hx with hx | hx
        · exact h x hx hc
        · simp at hx
          subst hx
          exact ho hc
theorem makeGo_min4 (a : List Int) : ∀ (r : Nat) (out t : List _), min4 out → min4 (makeGo a r out t)
  | 0, out, t, h => by simpa [makeGo] using h
  | r + 1, out, [], h => by simpa [makeGo] using h
  | r + 1, out, x :: t, h => by
    rw [makeGo]
    split
    · rename_i h4
      exact makeGo_min4 a r _ _ (min4_add h (fun _ => by simp only; omega))
    · exact makeGo_min4 a r _ _ (min4_add h (fun hc => absurd hc.1 (by simp)))
end Go.Proofs.Ytjckjcekapkkjaa.P
