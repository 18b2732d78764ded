/- law26_size is the sum of the ops' lengths. -/
import Derived.Test.YtjckjcekapkkjaaPx0
import Derived.Test.YtjckjcekapkkjaaPx3
import Derived.Test.YtjckjcekapkkjaaHAtomSz
import Derived.Test.YtjckjcekapkkjaaHAtoms
import Derived.Test.YtjckjcekapkkjaaHChkOk
import Derived.Test.YtjckjcekapkkjaaHEncode
import Derived.Test.YtjckjcekapkkjaaHOps
namespace Go.Proofs.Ytjckjcekapkkjaa.P
open Go.RowKit Go.Proofs.YtjckjcekapkkjaaW.PrintWords Go.Proofs.YtjckjcekapkkjaaW.PrintLast Go.Proofs.YtjckjcekapkkjaaW.PrintMore
set_option linter.unusedVariables false
set_option linter.unusedSimpArgs false

theorem size_l0 (l : List Dop) (hl : okOps l) (hn : l.length ≤ 1000000) : ∀ (d k i : Nat) (x : Int), l.length ≤ i + d → d < k → i ≤ l.length → 0 ≤ x → x + sizeS (l.drop i) ≤ 1000000000 → law26_size.l0 k l x i = some (x + sizeS (l.drop i))
  | d, k, i, x, h1, h2, h3, h4, h5 => by
    obtain ⟨k, rfl⟩ : ∃ m, k = m + 1 := ⟨k - 1, by omega⟩
    rw [law26_size.l0]
    by_cases h : i < l.length
    · obtain ⟨d, rfl⟩ : ∃ e, d = e + 1 := ⟨d - 1, by omega⟩
      have e : sizeS (l.drop i) = opLen l[i] + sizeS (l.drop (i + 1)) := by rw [List.drop_eq_getElem_cons h, sizeS_cons]
      have hp := opLen_pos (hl _ (List.getElem_mem h))
      have hs := sizeS_nonneg (l := l.drop (i + 1)) (fun o ho => hl o (List.mem_of_mem_drop ho))
      have ho : opLen l[i] = l[i].f1 + (l[i].f2.length : Int) := rfl
      rw [if_pos (by omega), if_pos (by omega), rd_ops i h, ← ho, wrap64_id (x := opLen l[i]) (by omega) (by omega), wrap64_id (x := x + opLen l[i]) (by omega) (by omega), wrap64_id (x := (i : Int) + 1) (by omega) (by omega)]
      have := size_l0 l hl hn d k (i + 1) (x + opLen l[i]) (by omega) (by omega) (by omega) (by omega) (by omega)
      rw [Int.natCast_add, Int.natCast_one] at this
      rw [this, e]
      congr 1
      omega
    · rw [if_neg (by omega), List.drop_of_length_le (by omega)]
      simp [sizeS]
theorem size_ok {l : List Dop} (hl : okOps l) (hn : l.length ≤ 1000000) (hs : sizeS l ≤ 1000000000) (k : Nat) (hk : l.length < k) : law26_size.f k l = some (sizeS l) := by
  unfold law26_size.f
  have := size_l0 l hl hn l.length k 0 0 (by omega) hk (by omega) (by omega) (by simpa using hs)
  simpa using this
end Go.Proofs.Ytjckjcekapkkjaa.P
