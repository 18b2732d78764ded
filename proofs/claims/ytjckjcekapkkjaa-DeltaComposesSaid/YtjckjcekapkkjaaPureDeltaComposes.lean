/- The pure statement of DeltaComposes: Compose returns the delta or the error of the reference. -/
import Derived.Test.YtjckjcekapkkjaaPx0
import Derived.Test.YtjckjcekapkkjaaPx9
import Derived.Test.YtjckjcekapkkjaaHChkOk
import Derived.Test.YtjckjcekapkkjaaHCompose
import Derived.Test.YtjckjcekapkkjaaHFaulty
import Derived.Test.YtjckjcekapkkjaaHKnown
import Derived.Test.YtjckjcekapkkjaaHMadeLaw
import Derived.Test.YtjckjcekapkkjaaHOps
import Derived.Test.YtjckjcekapkkjaaHRefCheck
import Derived.Test.YtjckjcekapkkjaaHRefComp
import Derived.Test.YtjckjcekapkkjaaHSame
import Derived.Test.YtjckjcekapkkjaaHTape
import Derived.Test.YtjckjcekapkkjaaHWrAdd
namespace Go.Proofs.Ytjckjcekapkkjaa.Pure
open Go.RowKit Go.Proofs.Ytjckjcekapkkjaa.P Go.Proofs.YtjckjcekapkkjaaW.PrintWords Go.Proofs.YtjckjcekapkkjaaW.PrintLast
set_option linter.unusedVariables false

theorem composes_j0 (n : Int) {a b : List Dop} (oa : opsB a = true) (ob : opsB b = true) (hla : a.length ≤ 100) (hlb : b.length ≤ 100) (k : Nat) (hk : 12301 < k) : law26_DeltaComposes.j0 k n a b = some true := by
  obtain ⟨k, rfl⟩ : ∃ m, k = m + 1 := ⟨k - 1, by omega⟩
  rw [law26_DeltaComposes.j0]
  unfold delta_Compose.f
  rw [if_pos ⟨oa, ob⟩]
  simp only [Option.bind_some]
  rw [refComp_eq oa ob hla hlb k (by omega)]
  simp only [Option.bind_some, law26_known.f, if_true]
  unfold ref26_Same.f
  rw [if_pos rfl]
  rfl
theorem DeltaComposes : law26_DeltaComposes.Pure := by
  intro l0 h0 h1 h2
  obtain ⟨K, hK⟩ : ∃ K : Nat, K = 20000 := ⟨_, rfl⟩
  refine ⟨K, ?_⟩
  unfold law26_DeltaComposes.f
  obtain ⟨n, e1, n0, n1, _⟩ := next_ok l0 0 20 (by omega) (by omega) (by omega)
  have n1 := n1 (by omega)
  rw [e1]
  simp only [Option.bind_some]
  obtain ⟨a, q, e2, q0, q1, la, fa⟩ := faulty_ok l0 (0 + 1) n (by omega) (by omega) (by omega) (by omega) K (by omega)
  rw [e2]
  simp only [Option.bind_some]
  obtain ⟨m, r, e3, r0, r1, lm, _, gm, sm0, sm1, tm, om⟩ := made_ok l0 1 n (by omega) (by omega) (by omega) (by omega) K (by omega)
  rw [e3]
  simp only [Option.bind_some]
  rw [size_ok gm.ok (by omega) (by omega) K (by omega)]
  simp only [Option.bind_some]
  obtain ⟨b, s, e4, s0, s1, lb, fb⟩ := faulty_ok l0 q (sizeS m) sm0 (by omega) (by omega) (by omega) K (by omega)
  rw [e4]
  simp only [Option.bind_some]
  have oa := flt_opsB (by omega) fa
  have ob := flt_opsB (by omega) fb
  rw [refCheck_eq n oa K (by omega)]
  simp only [Option.bind_some]
  by_cases h : (checkS n a).2 = 0
  · rw [if_pos h]
    obtain ⟨z1, z2, z3, z4, z5, z6, z7, z8⟩ := checkS_ok (base := n) (l := a) (r := (checkS n a).1) (by rw [← h])
    have hs := flt_size fa
    have hs2 : sizeS a ≤ 28 * 7 := by
      have := Int.mul_le_mul_of_nonneg_left (show (a.length : Int) ≤ 7 by omega) (show 0 ≤ n + 8 by omega)
      omega
    rw [size_ok (fun o ho => good_kind (z4 o ho)) (by omega) (by omega) K (by omega)]
    simp only [Option.bind_some]
    obtain ⟨c, t, e5, t0, t1, lc, fc⟩ := faulty_ok l0 s (sizeS a) (by omega) (by omega) (by omega) (by omega) K (by omega)
    rw [e5]
    simp only [Option.bind_some]
    exact composes_j0 n oa (flt_opsB (by omega) fc) (by omega) (by omega) K (by omega)
  · rw [if_neg h]
    exact composes_j0 n oa ob (by omega) (by omega) K (by omega)
end Go.Proofs.Ytjckjcekapkkjaa.Pure
