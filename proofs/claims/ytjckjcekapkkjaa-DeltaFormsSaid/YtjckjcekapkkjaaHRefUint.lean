/- The reference's Uint is encU. -/
import Derived.Test.YtjckjcekapkkjaaPx0
import Derived.Test.YtjckjcekapkkjaaHOps
import Derived.Test.YtjckjcekapkkjaaHWrAdd
import Derived.Test.YtjckjcekapkkjaaPx6
import Derived.Test.YtjckjcekapkkjaaHPutUint
namespace Go.Proofs.Ytjckjcekapkkjaa.P
open Go.RowKit
set_option linter.unusedVariables false
set_option linter.unusedSimpArgs false

def sizeS (l : List Dop) : Int := (l.map opLen).sum
theorem opLen_good {base : Int} {o : Dop} (h : goodOp base o) : (o.f2.length : Int) ≤ opLen o ∧ 1 ≤ opLen o := by
  rcases h with ⟨⟨h1, h2⟩, _, _⟩ | ⟨h1, h2, h3⟩
  · simp [opLen, h2]; omega
  · have := List.length_pos_iff.2 h3
    simp [opLen, h1]; omega
theorem chk_ok {base : Int} {l : List Dop} : ∀ {n r : Int}, 0 ≤ n → n ≤ 1048576 → chk base n l = (r, 0) → (∀ o ∈ l, goodOp base o) ∧ r = n + sizeS l ∧ r ≤ 1048576 ∧ n + totS l ≤ r := by
  induction l with
  | nil => intro n r h0 h1 h; simp [chk] at h; subst h; refine ⟨by simp, by simp [sizeS], h1, by simp [totS]⟩
  | cons o os ih =>
    intro n r h0 h1 h
    rw [chk] at h
    by_cases a : ¬ opCp o ∧ ¬ opLt o
    · rw [if_pos a] at h; simp at h
    · rw [if_neg a] at h
      by_cases b : opCp o ∧ (o.f0 < 0 ∨ o.f0 > base ∨ o.f1 > base - o.f0)
      · rw [if_pos b] at h; simp at h
      · rw [if_neg b] at h
        by_cases c : n + opLen o > 1048576
        · rw [if_pos c] at h; simp at h
        · rw [if_neg c] at h
          have hg : goodOp base o := by
            by_cases hc : opCp o
            · have : ¬ (o.f0 < 0 ∨ o.f0 > base ∨ o.f1 > base - o.f0) := fun h => b ⟨hc, h⟩
              exact .inl ⟨hc, by omega, by omega⟩
            · refine .inr (Classical.byContradiction fun hl => a ⟨hc, hl⟩)
          have := opLen_good hg
          obtain ⟨i1, i2, i3, i4⟩ := ih (by omega) (by omega) h
          refine ⟨fun x hx => ?_, ?_, i3, ?_⟩
          · rcases List.mem_cons.1 hx with rfl | hx
            · exact hg
            · exact i1 x hx
          · rw [i2]; simp [sizeS]; omega
          · simp only [totS, List.map_cons, List.sum_cons] at i4 ⊢; omega
theorem checkS_ok {base : Int} {l : List Dop} {r : Int} (h : checkS base l = (r, 0)) : 0 ≤ base ∧ base ≤ 1048576 ∧ l.length ≤ 4096 ∧ (∀ o ∈ l, goodOp base o) ∧ r = sizeS l ∧ 0 ≤ r ∧ r ≤ 1048576 ∧ (totS l : Int) ≤ r := by
  unfold checkS at h
  by_cases a : base < 0 ∨ base > 1048576
  · rw [if_pos a] at h; simp at h
  · rw [if_neg a] at h
    by_cases b : l.length > 4096
    · rw [if_pos b] at h; simp at h
    · rw [if_neg b] at h
      obtain ⟨i1, i2, i3, i4⟩ := chk_ok (by omega) (by omega) h
      exact ⟨by omega, by omega, by omega, i1, by omega, by omega, i3, by omega⟩
end Go.Proofs.Ytjckjcekapkkjaa.P
namespace Go.Proofs.Ytjckjcekapkkjaa.P
open Go.RowKit Go.Proofs.YtjckjcekapkkjaaW.PrintWords Go.Proofs.YtjckjcekapkkjaaW.PrintLast Go.Proofs.YtjckjcekapkkjaaW.PrintMore
set_option linter.unusedVariables false
set_option linter.unusedSimpArgs false

theorem wrap_u64m (x : Int) : IntKind.u64.wrap x = x % 18446744073709551616 := by simp [IntKind.wrap, IntKind.signed, IntKind.bits]
theorem refU2 (k : Nat) : ∀ {n : Nat}, n < 128 ^ k → n < 2 ^ 64 → stockyardref01_Uint.f (k + 1) (n : Int) = some (encU n) := by
  induction k with
  | zero =>
    intro n h _
    simp only [stockyardref01_Uint.f]
    rw [if_pos (by simp at h; omega), encU_small (by simp at h; omega)]
    congr 2
    omega
  | succ k ih =>
    intro n h hn
    by_cases hs : n < 128
    · simp only [stockyardref01_Uint.f]
      rw [if_pos (by omega), encU_small hs]
      congr 2
      omega
    · rw [stockyardref01_Uint.f]
      rw [if_neg (by omega)]
      simp only [Option.bind_some]
      have e : IntKind.u64.wrap (Int.tdiv (n : Int) 128) = ((n / 128 : Nat) : Int) := by
        rw [Int.tdiv_eq_ediv_of_nonneg (by omega), wrap_u64m]; omega
      have hk : n / 128 < 128 ^ k := by rw [Nat.div_lt_iff_lt_mul (by decide)]; rw [Nat.pow_succ] at h; omega
      rw [e, ih hk (by omega)]
      simp only [Option.bind_some]
      have hl := encU_len10 (v := n / 128) (by omega)
      rw [if_pos (by simp; omega), encU_big hs]
      have e2 : ((Int.tmod (n : Int) 128) % 256 + 128) % 256 = ((n % 128 + 128 : Nat) : Int) := by
        rw [Int.tmod_eq_emod_of_nonneg (by omega)]; omega
      rw [e2]
      rfl
theorem refU3 {k : Nat} (hk : 11 ≤ k) {n : Nat} (h : n < 2 ^ 64) : stockyardref01_Uint.f k (n : Int) = some (encU n) := by
  obtain ⟨k, rfl⟩ : ∃ m, k = m + 1 := ⟨k - 1, by omega⟩
  refine refU2 k (Nat.lt_of_lt_of_le h (Nat.le_trans (show 2 ^ 64 ≤ 128 ^ 10 by decide) (Nat.pow_le_pow_right (by decide) (by omega)))) h
end Go.Proofs.Ytjckjcekapkkjaa.P
