/- What delta.Cost answers, and that Make's delta of n bytes costs at most n + n/2 + 4 bytes. -/
import Derived.Test.YtjckjcekapkkjaaPx0
import Derived.Test.YtjckjcekapkkjaaHAtoms
import Derived.Test.YtjckjcekapkkjaaHChkOk
import Derived.Test.YtjckjcekapkkjaaHCost
import Derived.Test.YtjckjcekapkkjaaHOps
import Derived.Test.YtjckjcekapkkjaaHPutUint
import Derived.Test.YtjckjcekapkkjaaHWrAdd
namespace Go.Proofs.Ytjckjcekapkkjaa.P
open Go.RowKit Go.Proofs.YtjckjcekapkkjaaW.PrintWords Go.Proofs.YtjckjcekapkkjaaW.PrintLast Go.Proofs.YtjckjcekapkkjaaW.PrintMore
set_option linter.unusedVariables false
set_option linter.unusedSimpArgs false

theorem costGo_eq : ∀ (l : List Dop) (n : Int), costGo n l = if costB l = true then n + ((l.flatMap encOp).length : Int) else 0
  | [], n => by simp [costGo, costB]
  | o :: os, n => by
    have e : costB (o :: os) = (decide (opLt o ∨ opCp o ∧ 0 ≤ o.f0) && costB os) := rfl
    rw [costGo, e]
    by_cases hc : opCp o
    · rw [if_pos hc]
      by_cases h0 : o.f0 < 0
      · rw [if_pos h0, decide_eq_false (by rintro (h | h); exact cp_not_lt hc h; omega)]
        simp
      · rw [if_neg h0, costGo_eq os, decide_eq_true (.inr ⟨hc, by omega⟩)]
        simp only [Bool.true_and, List.flatMap_cons, List.length_append]
        have e1 : ((encOp o).length : Int) = encLen (2 * o.f1 + 1) + encLen o.f0 := by
          unfold encOp encLen
          rw [if_pos hc, List.length_append]
          omega
        split
        · omega
        · rfl
    · rw [if_neg hc]
      by_cases hl : opLt o
      · rw [if_pos hl, costGo_eq os, decide_eq_true (.inl hl)]
        simp only [Bool.true_and, List.flatMap_cons, List.length_append]
        have e1 : ((encOp o).length : Int) = encLen (2 * (o.f2.length : Int)) + o.f2.length := by
          unfold encOp encLen
          rw [if_neg hc, List.length_append, show (2 * (o.f2.length : Int)).toNat = 2 * o.f2.length by omega]
          omega
        split
        · omega
        · rfl
      · rw [if_neg hl, decide_eq_false (by rintro (h | h); exact hl h; exact hc h.1)]
        simp
theorem cost_eq {l : List Dop} (hB : opsB l = true) (hs : costSum l ≤ 4611686018427387904) : delta_Cost.f l = some (if costB l = true then ((encOps l).length : Int) else 0) := by
  unfold delta_Cost.f
  rw [if_pos ⟨hB, hs⟩, costGo_eq]
  congr 1
  split
  · unfold encOps encLen
    rw [List.length_append, Int.toNat_natCast]
    omega
  · rfl
def min4 (l : List Dop) : Prop := ∀ o ∈ l, opCp o → 4 ≤ o.f1
theorem min4_add {l : List Dop} {o : Dop} (h : min4 l) (ho : opCp o → 4 ≤ o.f1) : min4 (addOp l o) := by
  rcases snoc_cases l with rfl | ⟨init, la, rfl⟩
  · intro x hx hc
    simp [addOp] at hx
    subst hx
    exact ho hc
  · rw [addOp_snoc]
    have hi : ∀ x ∈ init, opCp x → 4 ≤ x.f1 := fun x hx => h x (by simp [hx])
    have hl := h la (by simp)
    intro x hx hc
    split at hx
    · rcases List.mem_append.1 hx with hx | hx
      · exact hi x hx hc
      · simp at hx
        subst hx
        rename_i hh
        exact absurd hc.1 (by simp)
    · split at hx
      · rename_i h1 h2
        rcases List.mem_append.1 hx with hx | hx
        · exact hi x hx hc
        · simp at hx
          subst hx
          have := hl h2.1
          have := h2.2.1.1
          simp only
          omega
      · rcases List.mem_append.1 hx with hx | hx
        · exact h x hx hc
        · simp at hx
          subst hx
          exact ho hc
theorem makeGo_min4 (a : List Int) : ∀ (r : Nat) (out t : List _), min4 out → min4 (makeGo a r out t)
  | 0, out, t, h => by simpa [makeGo] using h
  | r + 1, out, [], h => by simpa [makeGo] using h
  | r + 1, out, x :: t, h => by
    rw [makeGo]
    split
    · rename_i h4
      exact makeGo_min4 a r _ _ (min4_add h (fun _ => by simp only; omega))
    · exact makeGo_min4 a r _ _ (min4_add h (fun hc => absurd hc.1 (by simp)))
theorem encU_two {v : Nat} (h : v < 16384) : (encU v).length ≤ 2 := encU_len 1 v (by simpa using h)
theorem cost_bound {n : Int} (hn : n ≤ 2048) : ∀ (l : List Dop), goodOps n l → nrm l → min4 l → (∀ o ∈ l, opLen o ≤ 2048) → 2 * ((l.flatMap encOp).length : Int) ≤ 3 * sizeS l + (if ∃ o, l.head? = some o ∧ opLt o then 1 else 0)
  | [], _, _, _, _ => by simp [sizeS]
  | o :: l, hg, hN, h4, hs => by
    have ih := cost_bound hn l (fun x hx => hg x (by simp [hx])) (nrm_tail hN) (fun x hx => h4 x (by simp [hx])) (fun x hx => hs x (by simp [hx]))
    have e : sizeS (o :: l) = opLen o + sizeS l := by simp [sizeS]
    have hso := hs o (by simp)
    have hgo := hg o (by simp)
    have e1 : opLen o = o.f1 + (o.f2.length : Int) := rfl
    rw [e, List.flatMap_cons, List.length_append]
    rcases hgo with ⟨hc, a3, a4⟩ | hl
    · have h44 := h4 o (by simp) hc
      have hz : o.f2.length = 0 := by rw [hc.2]; rfl
      have q : (encOp o).length ≤ 4 := by
        unfold encOp
        rw [if_pos hc, List.length_append]
        have := encU_two (v := (2 * o.f1 + 1).toNat) (by omega)
        have := encU_two (v := o.f0.toNat) (by omega)
        omega
      have h1 : (if ∃ x, l.head? = some x ∧ opLt x then (1 : Int) else 0) ≤ 1 := by split <;> omega
      have h2 : (0 : Int) ≤ (if ∃ x, (o :: l).head? = some x ∧ opLt x then (1 : Int) else 0) := by split <;> omega
      push_cast
      omega
    · have hhead : (if ∃ x, (o :: l).head? = some x ∧ opLt x then (1 : Int) else 0) = 1 := if_pos ⟨o, rfl, hl⟩
      have hnext : (if ∃ x, l.head? = some x ∧ opLt x then (1 : Int) else 0) = 0 := by
        refine if_neg ?_
        rintro ⟨x, hx, hxl⟩
        match l, hx, hN with
        | y :: r, hx, hN =>
          obtain rfl : y = x := by simpa using hx
          exact hN.1 (.inl ⟨hl, hxl⟩)
      have hz := hl.1
      have hp : 0 < o.f2.length := List.length_pos_iff.2 hl.2.2
      rw [hhead]
      rw [hnext] at ih
      have hnc : ¬ opCp o := fun hc => cp_not_lt hc hl
      have q : 2 * ((encOp o).length : Int) ≤ 3 * o.f2.length + 1 := by
        unfold encOp
        rw [if_neg hnc, List.length_append]
        by_cases hs : o.f2.length < 64
        · have := encU_len 0 (2 * o.f2.length) (by simp; omega)
          push_cast
          omega
        · have := encU_two (v := 2 * o.f2.length) (by omega)
          push_cast
          omega
      push_cast
      omega
end Go.Proofs.Ytjckjcekapkkjaa.P
