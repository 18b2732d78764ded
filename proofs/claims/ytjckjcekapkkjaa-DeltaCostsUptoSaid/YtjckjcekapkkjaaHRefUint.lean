/- The reference's Uint is encU. -/
import Derived.Test.YtjckjcekapkkjaaPx0
import Derived.Test.YtjckjcekapkkjaaPx2
import Derived.Test.YtjckjcekapkkjaaHPutUint
namespace Go.Proofs.Ytjckjcekapkkjaa.P
open Go.RowKit Go.Proofs.YtjckjcekapkkjaaW.PrintWords Go.Proofs.YtjckjcekapkkjaaW.PrintLast Go.Proofs.YtjckjcekapkkjaaW.PrintMore
set_option linter.unusedVariables false
set_option linter.unusedSimpArgs false

theorem wrap_u64m (x : Int) : IntKind.u64.wrap x = x % 18446744073709551616 := by simp [IntKind.wrap, IntKind.signed, IntKind.bits]
theorem refU2 (k : Nat) : ∀ {n : Nat}, n < 128 ^ k → n < 2 ^ 64 → stockyardref01_Uint.f (k + 1) (n : Int) = some (encU n) := by
  induction k with
  | zero =>
    intro n h _
    simp only [stockyardref01_Uint.f]
    rw [if_pos (by simp at h; omega), encU_small (by simp at h; omega)]
    congr 2
    omega
  | succ k ih =>
    intro n h hn
    by_cases hs : n < 128
    · simp only [stockyardref01_Uint.f]
      rw [if_pos (by omega), encU_small hs]
      congr 2
      omega
    · rw [stockyardref01_Uint.f]
      rw [if_neg (by omega)]
      simp only [Option.bind_some]
      have e : IntKind.u64.wrap (Int.tdiv (n : Int) 128) = ((n / 128 : Nat) : Int) := by
        rw [Int.tdiv_eq_ediv_of_nonneg (by omega), wrap_u64m]; omega
      have hk : n / 128 < 128 ^ k := by rw [Nat.div_lt_iff_lt_mul (by decide)]; rw [Nat.pow_succ] at h; omega
      rw [e, ih hk (by omega)]
      simp only [Option.bind_some]
      have hl := encU_len10 (v := n / 128) (by omega)
      rw [if_pos (by simp; omega), encU_big hs]
      have e2 : ((Int.tmod (n : Int) 128) % 256 + 128) % 256 = ((n % 128 + 128 : Nat) : Int) := by
        rw [Int.tmod_eq_emod_of_nonneg (by omega)]; omega
      rw [e2]
      rfl
theorem refU3 {k : Nat} (hk : 11 ≤ k) {n : Nat} (h : n < 2 ^ 64) : stockyardref01_Uint.f k (n : Int) = some (encU n) := by
  obtain ⟨k, rfl⟩ : ∃ m, k = m + 1 := ⟨k - 1, by omega⟩
  refine refU2 k (Nat.lt_of_lt_of_le h (Nat.le_trans (show 2 ^ 64 ≤ 128 ^ 10 by decide) (Nat.pow_le_pow_right (by decide) (by omega)))) h
end Go.Proofs.Ytjckjcekapkkjaa.P
