/- The pure statement of DeltaTurns: the result of what Make returns is the target, and it is normal. -/
import Derived.Test.YtjckjcekapkkjaaPx0
import Derived.Test.YtjckjcekapkkjaaPx25
import Derived.Test.YtjckjcekapkkjaaHApplyEq
import Derived.Test.YtjckjcekapkkjaaHAtoms
import Derived.Test.YtjckjcekapkkjaaHFold
import Derived.Test.YtjckjcekapkkjaaHKnown
import Derived.Test.YtjckjcekapkkjaaHMakeOk
namespace Go.Proofs.Ytjckjcekapkkjaa.Pure
open Go.RowKit Go.Proofs.Ytjckjcekapkkjaa.P Go.Proofs.YtjckjcekapkkjaaW.PrintWords Go.Proofs.YtjckjcekapkkjaaW.PrintLast
set_option linter.unusedVariables false

theorem DeltaTurns : law26_DeltaTurns.Pure := by
  intro l0 l1 h0 h1 h2 h3 h4 h5
  have hB0 := byB_of h2
  have hB1 := byB_of h5
  refine ⟨5001, ?_⟩
  unfold law26_DeltaTurns.f
  have hj : ∀ b, b = true → law26_DeltaTurns.j0 5001 l0 l1 b = some true := by
    rintro b rfl
    rw [law26_DeltaTurns.j0, if_pos rfl]
  by_cases a : (l0.length : Int) > 2048
  · rw [if_pos a]; exact hj _ rfl
  · rw [if_neg a]
    by_cases b : (l1.length : Int) > 2048
    · exact hj _ (by simpa using b)
    · rw [decide_eq_false b]
      obtain ⟨⟨m1, m2⟩, m3, m4, m5⟩ := makeS_ok l0 l1
      have hB := opsB_good m1 (by omega) (by omega) (fun o ho => by have := f1_le m1 (by omega) o ho; omega)
      have hs := applyS_len (base := l0) (goodOps.ok m1)
      rw [m3] at hs
      have hc := checkS_good m1 (by omega) (by omega) (by omega) (by omega)
      rw [law26_DeltaTurns.j0, if_neg (by simp), makef_ok hB0 hB1 (by omega) (by omega)]
      simp only [Option.bind_some, law26_known.f, if_true]
      rw [apply_eq hB _ (by omega)]
      unfold appS
      rw [hc]
      simp only [if_true, Option.bind_some]
      rw [m3, if_pos rfl, normal_eq (by omega) m1 (by omega) m2 _ (by omega)]
      rfl
end Go.Proofs.Ytjckjcekapkkjaa.Pure
