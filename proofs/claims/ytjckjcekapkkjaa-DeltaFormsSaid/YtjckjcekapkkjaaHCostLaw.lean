/- What delta.Cost answers, and that Make's delta of n bytes costs at most n + n/2 + 4 bytes. -/
import Derived.Test.YtjckjcekapkkjaaPx0
import Derived.Test.YtjckjcekapkkjaaHMap
import Derived.Test.YtjckjcekapkkjaaHRefUint
import Derived.Test.YtjckjcekapkkjaaHCost
import Derived.Test.YtjckjcekapkkjaaHOps
import Derived.Test.YtjckjcekapkkjaaHWrAdd
import Derived.Test.YtjckjcekapkkjaaHPutUint
namespace Go.Proofs.Ytjckjcekapkkjaa.P
open Go.RowKit Go.Proofs.YtjckjcekapkkjaaW.PrintWords Go.Proofs.YtjckjcekapkkjaaW.PrintLast Go.Proofs.YtjckjcekapkkjaaW.PrintMore
set_option linter.unusedVariables false
set_option linter.unusedSimpArgs false

theorem costGo_eq : ∀ (l : List Dop) (n : Int), costGo n l = if costB l = true then n + ((l.flatMap encOp).length : Int) else 0
  | [], n => by simp [costGo, costB]
  | o :: os, n => by
    have e : costB (o :: os) = (decide (opLt o ∨ opCp o ∧ 0 ≤ o.f0) && costB os) := rfl
    rw [costGo, e]
    by_cases hc : opCp o
    · rw [if_pos hc]
      by_cases h0 : o.f0 < 0
      · rw [if_pos h0, decide_eq_false (by rintro (h | h); exact cp_not_lt hc h; omega)]
        simp
      · rw [if_neg h0, costGo_eq os, decide_eq_true (.inr ⟨hc, by omega⟩)]
        simp only [Bool.true_and, List.flatMap_cons, List.length_append]
        have e1 : ((encOp o).length : Int) = encLen (2 * o.f1 + 1) + encLen o.f0 := by
          unfold encOp encLen
          rw [if_pos hc, List.length_append]
          omega
        split
        · omega
        · rfl
    · rw [if_neg hc]
      by_cases hl : opLt o
      · rw [if_pos hl, costGo_eq os, decide_eq_true (.inl hl)]
        simp only [Bool.true_and, List.flatMap_cons, List.length_append]
        have e1 : ((encOp o).length : Int) = encLen (2 * (o.f2.length : Int)) + o.f2.length := by
          unfold encOp encLen
          rw [if_neg hc, List.length_append, show (2 * (o.f2.length : Int)).toNat = 2 * o.f2.length by omega]
          omega
        split
        · omega
        · rfl
      · rw [if_neg hl, decide_eq_false (by rintro (h | h); exact hl h; exact hc h.1)]
        simp
theorem cost_eq {l : List Dop} (hB : opsB l = true) (hs : costSum l ≤ 4611686018427387904) : delta_Cost.f l = some (if costB l = true then ((encOps l).length : Int) else 0) := by
  unfold delta_Cost.f
  rw [if_pos ⟨hB, hs⟩, costGo_eq]
  congr 1
  split
  · unfold encOps encLen
    rw [List.length_append, Int.toNat_natCast]
    omega
  · rfl
theorem good_costB {n : Int} {l : List Dop} (h : ∀ o ∈ l, goodOp n o) : costB l = true := by
  unfold costB
  rw [List.all_eq_true]
  intro o ho
  rcases h o ho with h | h
  · exact decide_eq_true (.inr ⟨h.1, h.2.1⟩)
  · exact decide_eq_true (.inl h)
end Go.Proofs.Ytjckjcekapkkjaa.P
