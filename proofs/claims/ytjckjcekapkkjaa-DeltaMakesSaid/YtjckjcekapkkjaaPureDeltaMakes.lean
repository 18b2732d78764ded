/- The pure statement of DeltaMakes: Make returns the delta of P26.2. -/
import Derived.Test.YtjckjcekapkkjaaPx0
import Derived.Test.YtjckjcekapkkjaaPx6
import Derived.Test.YtjckjcekapkkjaaHEncode
import Derived.Test.YtjckjcekapkkjaaHFold
import Derived.Test.YtjckjcekapkkjaaHKnown
import Derived.Test.YtjckjcekapkkjaaHMake
import Derived.Test.YtjckjcekapkkjaaHRefMake
import Derived.Test.YtjckjcekapkkjaaHSame
import Derived.Test.YtjckjcekapkkjaaHTape
namespace Go.Proofs.Ytjckjcekapkkjaa.Pure
open Go.RowKit Go.Proofs.Ytjckjcekapkkjaa.P Go.Proofs.YtjckjcekapkkjaaW.PrintWords Go.Proofs.YtjckjcekapkkjaaW.PrintLast
set_option linter.unusedVariables false

theorem makes_l0 (L a : List Int) (hA : byB a = true) (ha : a.length ≤ 60) : ∀ (d k : Nat) (x p : Int) (b : List Int), x ≤ d → d ≤ 4 → 6000100 + d ≤ k → byB b = true → b.length + 70 * d ≤ 400 → 0 ≤ p → p + 100 * d ≤ 1000 → law26_DeltaMakes.l0 k a b x L p = some true
  | d, k, x, p, b, h1, hd, h2, h3, h4, h5, h6 => by
    obtain ⟨k, rfl⟩ : ∃ m, k = m + 1 := ⟨k - 1, by omega⟩
    rw [law26_DeltaMakes.l0]
    by_cases h : x > 0
    · obtain ⟨d, rfl⟩ : ∃ e, d = e + 1 := ⟨d - 1, by omega⟩
      rw [if_pos h, wrap64_id (x := (a.length : Int) + 1) (by omega) (by omega)]
      obtain ⟨r, e1, r0, r1, r2⟩ := next_ok L p ((a.length : Int) + 1) h5 (by omega) (by omega)
      have hr : r ≤ a.length := by
        by_cases h : 1 < (a.length : Int) + 1
        · have := r1 h; omega
        · have := r2 (by omega); omega
      rw [e1]
      simp only [Option.bind_some]
      rw [wrap64_id (x := (a.length : Int) - r) (by omega) (by omega), wrap64_id (x := (a.length : Int) - r + 1) (by omega) (by omega)]
      obtain ⟨s, e2, s0, s1, s2⟩ := next_ok L (p + 1) ((a.length : Int) - r + 1) (by omega) (by omega) (by omega)
      have hs : s ≤ a.length - r := by
        by_cases h : 1 < (a.length : Int) - r + 1
        · have := s1 h; omega
        · have := s2 (by omega); omega
      rw [e2]
      simp only [Option.bind_some]
      rw [wrap64_id (x := r + s) (by omega) (by omega), if_pos r0, if_pos (by omega), if_pos (by omega)]
      obtain ⟨y, hy⟩ : ∃ y, (a.take (r + s).toNat).drop r.toNat = y := ⟨_, rfl⟩
      have hyl : y.length ≤ 60 := by rw [← hy]; simp; omega
      have hyB : byB y = true := by
        rw [← hy]
        exact byB_iff.2 (fun z hz => byB_iff.1 hA z (List.mem_of_mem_take (List.mem_of_mem_drop hz)))
      rw [hy, if_pos (by omega)]
      obtain ⟨bs, q, e3, q1, q2, q3, q4⟩ := text_ok L (p + 1 + 1) 5 (by omega) (by omega) (by omega) (by omega) k (by omega)
      rw [e3]
      simp only [Option.bind_some]
      rw [if_pos (by rw [List.length_append]; omega), wrap64_id (x := x - 1) (by omega) (by omega)]
      exact makes_l0 L a hA ha d k (x - 1) q _ (by omega) (by omega) (by omega) (byB_app (byB_app h3 hyB) q4) (by rw [List.length_append, List.length_append]; omega) (by omega) (by omega)
    · rw [if_neg h, makef_ok hA h3 (by omega) (by omega), refMake_eq a b (by omega) (by omega) k (by omega)]
      simp only [Option.bind_some, law26_known.f, if_true]
      unfold ref26_Same.f
      rw [if_pos rfl]
      rfl
theorem DeltaMakes : law26_DeltaMakes.Pure := by
  intro l0 h0 h1 h2
  obtain ⟨K, hK⟩ : ∃ K : Nat, K = 6000200 := ⟨_, rfl⟩
  refine ⟨K, ?_⟩
  unfold law26_DeltaMakes.f
  obtain ⟨a, p, e1, p0, p1, a1, a2⟩ := text_ok l0 0 60 (by omega) (by omega) (by omega) (by omega) K (by omega)
  rw [e1]
  simp only [Option.bind_some]
  obtain ⟨b, q, e2, q0, q1, b1, b2⟩ := text_ok l0 p 30 (by omega) (by omega) (by omega) (by omega) K (by omega)
  rw [e2]
  simp only [Option.bind_some]
  obtain ⟨r, e3, r0, r1, _⟩ := next_ok l0 q 4 (by omega) (by omega) (by omega)
  have r1 := r1 (by omega)
  rw [e3]
  simp only [Option.bind_some]
  exact makes_l0 l0 a a2 (by omega) 3 K r (q + 1) b (by omega) (by omega) (by omega) b2 (by omega) (by omega) (by omega)
end Go.Proofs.Ytjckjcekapkkjaa.Pure
