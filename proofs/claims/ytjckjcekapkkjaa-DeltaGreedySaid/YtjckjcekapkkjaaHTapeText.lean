/- What the laws' own text answers. -/
import Derived.Test.YtjckjcekapkkjaaPx0
import Derived.Test.YtjckjcekapkkjaaPx2
import Derived.Test.YtjckjcekapkkjaaHEncode
import Derived.Test.YtjckjcekapkkjaaHMake
import Derived.Test.YtjckjcekapkkjaaHTape
namespace Go.Proofs.Ytjckjcekapkkjaa.P
open Go.RowKit Go.Proofs.YtjckjcekapkkjaaW.PrintWords Go.Proofs.YtjckjcekapkkjaaW.PrintLast Go.Proofs.YtjckjcekapkkjaaW.PrintMore
set_option linter.unusedVariables false
set_option linter.unusedSimpArgs false

theorem text_ok (L : List Int) (p n : Int) (h0 : 0 ≤ n) (hn : n ≤ 100000) (hp : 0 ≤ p) (hp2 : p ≤ 700000000000) (k : Nat) (hk : n.toNat < k) : ∃ bs q, law26_text.f k L p n = some (bs, q) ∧ p ≤ q ∧ q ≤ p + n + 2 ∧ (bs.length : Int) ≤ n ∧ byB bs = true := by
  unfold law26_text.f
  rw [wrap64_id (x := n + 1) (by omega) (by omega)]
  obtain ⟨r, e, r0, r1, r2⟩ := next_ok L p (n + 1) hp (by omega) (by omega)
  rw [e]
  simp only [Option.bind_some]
  obtain ⟨s, e2, s0, s1, _⟩ := next_ok L (p + 1) 4 (by omega) (by omega) (by omega)
  rw [e2]
  simp only [Option.bind_some]
  have s1 := s1 (by omega)
  rw [wrap64_id (x := 1 + s) (by omega) (by omega)]
  have hr : r ≤ n := by
    by_cases h : 1 < n + 1
    · have := r1 h; omega
    · have := r2 (by omega); omega
  obtain ⟨bs, e3, q1, q2⟩ := bytes_ok L (p + 1 + 1) r (1 + s) r0 (by omega) (by omega) (by omega) (by omega) k (by omega)
  rw [e3]
  exact ⟨bs, _, rfl, by omega, by omega, by omega, q2⟩
end Go.Proofs.Ytjckjcekapkkjaa.P
