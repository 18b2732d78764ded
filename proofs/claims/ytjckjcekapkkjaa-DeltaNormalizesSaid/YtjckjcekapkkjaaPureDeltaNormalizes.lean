/- The pure statement of DeltaNormalizes: Normalize returns the normal delta of the reference, or its error, and leaves normal deltas as they are. -/
import Derived.Test.YtjckjcekapkkjaaPx0
import Derived.Test.YtjckjcekapkkjaaPx9
import Derived.Test.YtjckjcekapkkjaaHApplyEq
import Derived.Test.YtjckjcekapkkjaaHAtoms
import Derived.Test.YtjckjcekapkkjaaHChkOk
import Derived.Test.YtjckjcekapkkjaaHKnown
import Derived.Test.YtjckjcekapkkjaaHMadeLaw
import Derived.Test.YtjckjcekapkkjaaHMakeOk
import Derived.Test.YtjckjcekapkkjaaHNormalEq
import Derived.Test.YtjckjcekapkkjaaHNormalize
import Derived.Test.YtjckjcekapkkjaaHOps
import Derived.Test.YtjckjcekapkkjaaHRefNorm
import Derived.Test.YtjckjcekapkkjaaHSame
import Derived.Test.YtjckjcekapkkjaaHTapeText
namespace Go.Proofs.Ytjckjcekapkkjaa.Pure
open Go.RowKit Go.Proofs.Ytjckjcekapkkjaa.P Go.Proofs.YtjckjcekapkkjaaW.PrintWords Go.Proofs.YtjckjcekapkkjaaW.PrintLast
set_option linter.unusedVariables false

theorem normalizes_j0 (L : List Int) (K : Nat) (hK : 20000 < K) : law26_DeltaNormalizes.j0 K false L 0 = some true := by
  obtain ⟨k, rfl⟩ : ∃ m, K = m + 1 := ⟨K - 1, by omega⟩
  rw [law26_DeltaNormalizes.j0, if_neg (by simp)]
  obtain ⟨b, p, e1, p0, p1, lb, bb⟩ := text_ok L 0 20 (by omega) (by omega) (by omega) (by omega) k (by omega)
  rw [e1]
  simp only [Option.bind_some]
  obtain ⟨l, q, e2, q0, q1, ll, _, gl, s0, s1, tl, ol⟩ := made_ok L p (b.length : Int) (by omega) (by omega) (by omega) (by omega) k (by omega)
  rw [e2]
  simp only [Option.bind_some]
  have kc := checkS_good gl (by omega) (by omega) (by omega) (by omega)
  have hN : delta_Normalize.f (b.length : Int) l = some (normS l, 0) := by
    unfold delta_Normalize.f
    rw [if_pos ol, kc, if_pos rfl]
  obtain ⟨gn, tn, ln⟩ := normS_good gl
  have gn' : goodOps (b.length : Int) (normS l) := gn
  obtain ⟨on, nn, an⟩ := norm_spec gl.ok
  have sn : sizeS (normS l) = sizeS l := by rw [← atoms_size on, ← atoms_size gl.ok, an]
  have kn := checkS_good gn' (by omega) (by omega) (by omega) (by omega)
  have obn : opsB (normS l) = true := opsB_good gn' (by omega) (by omega) (fun o ho => by have := f1_le gn' (by omega) o ho; omega)
  have hN2 : delta_Normalize.f (b.length : Int) (normS l) = some (normS l, 0) := by
    unfold delta_Normalize.f
    rw [if_pos obn, kn, if_pos rfl, norm_id on nn]
  rw [hN, refNorm_eq _ ol k (by omega), hN]
  simp only [Option.bind_some]
  rw [apply_good gl (by omega) (by omega) (by omega) k (by omega), apply_good gn' (by omega) (by omega) (by omega) k (by omega)]
  simp only [Option.bind_some]
  rw [hN2]
  simp only [Option.bind_some]
  have hS : ∀ x : List Dop, ref26_Same.f x x = some true := by
    intro x
    unfold ref26_Same.f
    rw [if_pos rfl]
  have hA : applyS b l = applyS b (normS l) := by unfold applyS; rw [an]
  rw [hS, normal_eq (by omega) gn' (by omega) nn k (by omega), hA]
  simp only [Option.bind_some, if_true]
theorem DeltaNormalizes : law26_DeltaNormalizes.Pure := by
  intro a0 l1 l2 h0 h1 h2 h3 h4
  obtain ⟨K, hK⟩ : ∃ K : Nat, K = 30000 := ⟨_, rfl⟩
  refine ⟨K, ?_⟩
  have oB := raw_opsB h1
  unfold law26_DeltaNormalizes.f
  rw [refNorm_eq a0 oB K (by omega)]
  obtain ⟨r, hr⟩ : ∃ r, delta_Normalize.f a0 l1 = some r := by unfold delta_Normalize.f; rw [if_pos oB]; exact ⟨_, rfl⟩
  rw [hr]
  simp only [Option.bind_some, law26_known.f, if_true]
  have hS : ref26_Same.f r.1 r.1 = some true := by
    unfold ref26_Same.f
    rw [if_pos rfl]
  rw [hS]
  simp only [Option.bind_some]
  exact normalizes_j0 l2 K (by omega)
end Go.Proofs.Ytjckjcekapkkjaa.Pure
