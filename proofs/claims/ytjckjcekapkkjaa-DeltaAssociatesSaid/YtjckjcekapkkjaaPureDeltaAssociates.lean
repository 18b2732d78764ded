/- The pure statement of DeltaAssociates: composing is associative. -/
import Derived.Test.YtjckjcekapkkjaaPx0
import Derived.Test.YtjckjcekapkkjaaPx6
import Derived.Test.YtjckjcekapkkjaaHAtoms
import Derived.Test.YtjckjcekapkkjaaHChkOk
import Derived.Test.YtjckjcekapkkjaaHKnown
import Derived.Test.YtjckjcekapkkjaaHMadeLaw
import Derived.Test.YtjckjcekapkkjaaHSame
import Derived.Test.YtjckjcekapkkjaaHTape
namespace Go.Proofs.Ytjckjcekapkkjaa.Pure
open Go.RowKit Go.Proofs.Ytjckjcekapkkjaa.P Go.Proofs.YtjckjcekapkkjaaW.PrintWords Go.Proofs.YtjckjcekapkkjaaW.PrintLast
set_option linter.unusedVariables false

theorem DeltaAssociates : law26_DeltaAssociates.Pure := by
  intro l0 h0 h1 h2
  obtain ⟨K, hK⟩ : ∃ K : Nat, K = 6000200 := ⟨_, rfl⟩
  refine ⟨K, ?_⟩
  unfold law26_DeltaAssociates.f
  obtain ⟨n, e1, n0, n1, _⟩ := next_ok l0 0 20 (by omega) (by omega) (by omega)
  have n1 := n1 (by omega)
  rw [e1]
  simp only [Option.bind_some]
  obtain ⟨a, q, e2, q0, q1, la, _, ga, sa0, sa1, ta, oa⟩ := made_ok l0 (0 + 1) n (by omega) (by omega) (by omega) (by omega) K (by omega)
  rw [e2]
  simp only [Option.bind_some]
  rw [size_ok ga.ok (by omega) (by omega) K (by omega)]
  simp only [Option.bind_some]
  obtain ⟨b, r, e3, r0, r1, lb, _, gb, sb0, sb1, tb, ob⟩ := made_ok l0 q (sizeS a) sa0 (by omega) (by omega) (by omega) K (by omega)
  rw [e3]
  simp only [Option.bind_some]
  rw [size_ok gb.ok (by omega) (by omega) K (by omega)]
  simp only [Option.bind_some]
  obtain ⟨c, s, e4, s0, s1, lc, _, gc, sc0, sc1, tc, oc⟩ := made_ok l0 r (sizeS b) sb0 (by omega) (by omega) (by omega) K (by omega)
  rw [e4]
  simp only [Option.bind_some]
  have m1 : b.length * (a.length + 1) ≤ 7 * 8 := Nat.mul_le_mul lb (by omega)
  have m2 : c.length * (b.length + 1) ≤ 7 * 8 := Nat.mul_le_mul lc (by omega)
  obtain ⟨ab, f1, g1, k1, t1, l1, z1, o1⟩ := comp_ok ga gb (by omega) (by omega) (by omega) (by omega) (by omega) (by omega) (by omega)
  have m3 : c.length * (ab.length + 1) ≤ 7 * 57 := Nat.mul_le_mul lc (by omega)
  obtain ⟨x, f2, g2, k2, t2, l2, z2, o2⟩ := comp_ok g1 (b := c) (by rw [z1]; exact gc) (by omega) (by omega) (by omega) (by omega) (by omega) (by omega) (by omega)
  obtain ⟨bc, f3, g3, k3, t3, l3, z3, o3⟩ := comp_ok gb gc (by omega) (by omega) (by omega) (by omega) (by omega) (by omega) (by omega)
  have m4 : bc.length * (a.length + 1) ≤ 56 * 8 := Nat.mul_le_mul (by omega) (by omega)
  obtain ⟨y, f4, g4, k4, t4, l4, z4, o4⟩ := comp_ok ga g3 (by omega) (by omega) (by omega) (by omega) (by omega) (by omega) (by omega)
  rw [f1]
  simp only [Option.bind_some]
  rw [f2]
  simp only [Option.bind_some]
  rw [f3]
  simp only [Option.bind_some]
  rw [f4]
  simp only [Option.bind_some, law26_known.f, if_true]
  have hB : ∀ z ∈ atoms b, goodA ((atoms a).length : Int) z := by rw [atoms_size ga.ok]; exact atoms_mem_good gb
  have hC : ∀ z ∈ atoms c, goodA ((atoms b).length : Int) z := by rw [atoms_size gb.ok]; exact atoms_mem_good gc
  have hxy : x = y := nrm_eq g2.ok k2 g4.ok k4 (by rw [t2, t1, t4, t3, sub_sub hB hC])
  rw [hxy]
  unfold ref26_Same.f
  rw [if_pos rfl]
  rfl
end Go.Proofs.Ytjckjcekapkkjaa.Pure
