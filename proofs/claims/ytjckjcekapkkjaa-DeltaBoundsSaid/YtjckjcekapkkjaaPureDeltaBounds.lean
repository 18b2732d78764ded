/- The pure statement of DeltaBounds: Make accepts strings of up to MaxDelta bytes and no longer ones. -/
import Derived.Test.YtjckjcekapkkjaaPx0
import Derived.Test.YtjckjcekapkkjaaPx15
import Derived.Test.YtjckjcekapkkjaaHEncode
import Derived.Test.YtjckjcekapkkjaaHFold
namespace Go.Proofs.Ytjckjcekapkkjaa.Pure
open Go.RowKit Go.Proofs.Ytjckjcekapkkjaa.P Go.Proofs.YtjckjcekapkkjaaW.PrintWords Go.Proofs.YtjckjcekapkkjaaW.PrintLast

theorem DeltaBounds : law26_DeltaBounds.Pure := by
  intro a0 l1 h0 h1 h2 h3
  have hB := byB_of h3
  unfold law26_DeltaBounds.f
  by_cases hl : (l1.length : Int) > 64
  · rw [if_pos hl]
  · rw [if_neg hl]
    obtain ⟨r, hr, r0, r1, _⟩ := fold_ok a0 4 (wf64 h0) (by omega)
    have r1 := r1 (by omega)
    rw [hr]
    simp only [Option.bind_some]
    rw [wrap64_id (x := 2047 + r) (by omega) (by omega), if_pos (by omega), if_pos (by omega)]
    obtain ⟨n, hn⟩ : ∃ n : Nat, (2047 + r).toNat = n := ⟨_, rfl⟩
    rw [hn]
    have hz := byB_rep n
    by_cases h : 2047 + r > 2048
    · rw [makef_no hz hB (by simp; omega), makef_no hB hz (by simp; omega)]
      simp only [Option.bind_some]
      rw [if_pos h]
      rfl
    · rw [makef_ok hz hB (by simp; omega) (by omega), makef_ok hB hz (by omega) (by simp; omega)]
      simp only [Option.bind_some]
      rw [if_neg h]
      rfl
end Go.Proofs.Ytjckjcekapkkjaa.Pure
