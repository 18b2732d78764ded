/- What a delta that passes the check is: copies in the base and literals, in bounds; joining keeps that. -/
import Derived.Test.YtjckjcekapkkjaaPx0
import Derived.Test.YtjckjcekapkkjaaHOps
import Derived.Test.YtjckjcekapkkjaaHWrAdd
namespace Go.Proofs.Ytjckjcekapkkjaa.P
open Go.RowKit
set_option linter.unusedVariables false
set_option linter.unusedSimpArgs false

def sizeS (l : List Dop) : Int := (l.map opLen).sum
theorem opLen_good {base : Int} {o : Dop} (h : goodOp base o) : (o.f2.length : Int) ≤ opLen o ∧ 1 ≤ opLen o := by
  rcases h with ⟨⟨h1, h2⟩, _, _⟩ | ⟨h1, h2, h3⟩
  · simp [opLen, h2]; omega
  · have := List.length_pos_iff.2 h3
    simp [opLen, h1]; omega
theorem chk_ok {base : Int} {l : List Dop} : ∀ {n r : Int}, 0 ≤ n → n ≤ 1048576 → chk base n l = (r, 0) → (∀ o ∈ l, goodOp base o) ∧ r = n + sizeS l ∧ r ≤ 1048576 ∧ n + totS l ≤ r := by
  induction l with
  | nil => intro n r h0 h1 h; simp [chk] at h; subst h; refine ⟨by simp, by simp [sizeS], h1, by simp [totS]⟩
  | cons o os ih =>
    intro n r h0 h1 h
    rw [chk] at h
    by_cases a : ¬ opCp o ∧ ¬ opLt o
    · rw [if_pos a] at h; simp at h
    · rw [if_neg a] at h
      by_cases b : opCp o ∧ (o.f0 < 0 ∨ o.f0 > base ∨ o.f1 > base - o.f0)
      · rw [if_pos b] at h; simp at h
      · rw [if_neg b] at h
        by_cases c : n + opLen o > 1048576
        · rw [if_pos c] at h; simp at h
        · rw [if_neg c] at h
          have hg : goodOp base o := by
            by_cases hc : opCp o
            · have : ¬ (o.f0 < 0 ∨ o.f0 > base ∨ o.f1 > base - o.f0) := fun h => b ⟨hc, h⟩
              exact .inl ⟨hc, by omega, by omega⟩
            · refine .inr (Classical.byContradiction fun hl => a ⟨hc, hl⟩)
          have := opLen_good hg
          obtain ⟨i1, i2, i3, i4⟩ := ih (by omega) (by omega) h
          refine ⟨fun x hx => ?_, ?_, i3, ?_⟩
          · rcases List.mem_cons.1 hx with rfl | hx
            · exact hg
            · exact i1 x hx
          · rw [i2]; simp [sizeS]; omega
          · simp only [totS, List.map_cons, List.sum_cons] at i4 ⊢; omega
theorem checkS_ok {base : Int} {l : List Dop} {r : Int} (h : checkS base l = (r, 0)) : 0 ≤ base ∧ base ≤ 1048576 ∧ l.length ≤ 4096 ∧ (∀ o ∈ l, goodOp base o) ∧ r = sizeS l ∧ 0 ≤ r ∧ r ≤ 1048576 ∧ (totS l : Int) ≤ r := by
  unfold checkS at h
  by_cases a : base < 0 ∨ base > 1048576
  · rw [if_pos a] at h; simp at h
  · rw [if_neg a] at h
    by_cases b : l.length > 4096
    · rw [if_pos b] at h; simp at h
    · rw [if_neg b] at h
      obtain ⟨i1, i2, i3, i4⟩ := chk_ok (by omega) (by omega) h
      exact ⟨by omega, by omega, by omega, i1, by omega, by omega, i3, by omega⟩
end Go.Proofs.Ytjckjcekapkkjaa.P
