/- The pure statement of DeltaChains: the result of a composed delta is the result of one delta after the other. -/
import Derived.Test.YtjckjcekapkkjaaPx0
import Derived.Test.YtjckjcekapkkjaaPx7
import Derived.Test.YtjckjcekapkkjaaHAtoms
import Derived.Test.YtjckjcekapkkjaaHChkOk
import Derived.Test.YtjckjcekapkkjaaHKnown
import Derived.Test.YtjckjcekapkkjaaHMadeLaw
import Derived.Test.YtjckjcekapkkjaaHMakeOk
import Derived.Test.YtjckjcekapkkjaaHTape
namespace Go.Proofs.Ytjckjcekapkkjaa.Pure
open Go.RowKit Go.Proofs.Ytjckjcekapkkjaa.P Go.Proofs.YtjckjcekapkkjaaW.PrintWords Go.Proofs.YtjckjcekapkkjaaW.PrintLast
set_option linter.unusedVariables false

theorem DeltaChains : law26_DeltaChains.Pure := by
  intro l0 h0 h1 h2
  obtain ⟨K, hK⟩ : ∃ K : Nat, K = 6000200 := ⟨_, rfl⟩
  refine ⟨K, ?_⟩
  unfold law26_DeltaChains.f
  obtain ⟨bs, p, e1, p0, p1, a1, a2⟩ := text_ok l0 0 20 (by omega) (by omega) (by omega) (by omega) K (by omega)
  rw [e1]
  simp only [Option.bind_some]
  obtain ⟨a, q, e2, q0, q1, la, _, ga, sa0, sa1, ta, oa⟩ := made_ok l0 p bs.length (by omega) (by omega) (by omega) (by omega) K (by omega)
  rw [e2]
  simp only [Option.bind_some]
  rw [size_ok ga.ok (by omega) (by omega) K (by omega)]
  simp only [Option.bind_some]
  obtain ⟨b, r, e3, r0, r1, lb, _, gb, sb0, sb1, tb, ob⟩ := made_ok l0 q (sizeS a) sa0 (by omega) (by omega) (by omega) K (by omega)
  rw [e3]
  simp only [Option.bind_some]
  have hm : b.length * (a.length + 1) ≤ 7 * 8 := Nat.mul_le_mul lb (by omega)
  obtain ⟨c, e4, gc, nc, ac, lc, sc, oc⟩ := comp_ok ga gb (by omega) (by omega) (by omega) (by omega) (by omega) (by omega) (by omega)
  rw [e4]
  simp only [Option.bind_some]
  have hlen := applyS_len (base := bs) ga.ok
  rw [apply_good ga (by omega) (by omega) (by omega) K (by omega)]
  simp only [Option.bind_some]
  rw [apply_good (base := applyS bs a) (l := b) (by rw [hlen]; exact gb) (by omega) (by omega) (by omega) K (by omega)]
  simp only [Option.bind_some]
  rw [apply_good gc (by omega) (by omega) (by omega) K (by omega)]
  simp only [Option.bind_some, law26_known.f, if_true]
  have hgb : ∀ x ∈ atoms b, goodA ((atoms a).length : Int) x := by rw [atoms_size ga.ok]; exact atoms_mem_good gb
  have hfin : applyS (applyS bs a) b = applyS bs c := by
    unfold applyS
    rw [ac, ev_sub hgb]
  rw [hfin]
  simp
end Go.Proofs.Ytjckjcekapkkjaa.Pure
