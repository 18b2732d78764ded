/- The pure statement of DeltaChecks: Check and Apply return the size and the result, or the error, of the reference. -/
import Derived.Test.YtjckjcekapkkjaaPx0
import Derived.Test.YtjckjcekapkkjaaPx8
import Derived.Test.YtjckjcekapkkjaaHApplyEq
import Derived.Test.YtjckjcekapkkjaaHAtoms
import Derived.Test.YtjckjcekapkkjaaHCheck
import Derived.Test.YtjckjcekapkkjaaHChkOk
import Derived.Test.YtjckjcekapkkjaaHEncode
import Derived.Test.YtjckjcekapkkjaaHFaulty
import Derived.Test.YtjckjcekapkkjaaHMakeOk
import Derived.Test.YtjckjcekapkkjaaHOps
import Derived.Test.YtjckjcekapkkjaaHRawB
import Derived.Test.YtjckjcekapkkjaaHRefApply
import Derived.Test.YtjckjcekapkkjaaHRefCheck
import Derived.Test.YtjckjcekapkkjaaHTapeText
namespace Go.Proofs.Ytjckjcekapkkjaa.Pure
open Go.RowKit Go.Proofs.Ytjckjcekapkkjaa.P Go.Proofs.YtjckjcekapkkjaaW.PrintWords Go.Proofs.YtjckjcekapkkjaaW.PrintLast
set_option linter.unusedVariables false

theorem app_len {b : List Int} {l : List Dop} : (appS b l).2 = (checkS b.length l).2 ∧ ((appS b l).1.length : Int) = (checkS b.length l).1 := by
  unfold appS
  by_cases h : (checkS b.length l).2 = 0
  · rw [if_pos h]
    obtain ⟨q1, q2, q3, q4, q5, q6, q7, q8⟩ := checkS_ok (base := b.length) (l := l) (r := (checkS b.length l).1) (by rw [← h])
    refine ⟨h.symm, ?_⟩
    simp only
    rw [applyS_len (goodOps.ok q4), q5]
  · rw [if_neg h]
    refine ⟨rfl, ?_⟩
    have : (checkS b.length l).1 = 0 := by
      unfold checkS at h ⊢
      split
      · rfl
      · split
        · rfl
        · rename_i h1 h2
          rw [if_neg h1, if_neg h2] at h
          have key : ∀ (l : List Dop) (n : Int), (chk b.length n l).2 ≠ 0 → (chk b.length n l).1 = 0 := by
            intro l
            induction l with
            | nil => intro n h; simp [chk] at h
            | cons o os ih =>
              intro n h
              rw [chk] at h ⊢
              split
              · rfl
              · split
                · rfl
                · split
                  · rfl
                  · rename_i h3 h4 h5
                    rw [if_neg h3, if_neg h4, if_neg h5] at h
                    exact ih _ h
          exact key l 0 h
    simp [this]
theorem checks_l0 (a : Int) (b : List Int) (x y : List Dop) (ox : opsB x = true) (oy : opsB y = true) : ∀ (d i k : Nat), 2 = i + d → 12310 + d < k → law26_DeltaChecks.l0 k a b [x, y] (i : Int) = some true
  | 0, i, k, h1, h2 => by
    obtain ⟨k, rfl⟩ : ∃ m, k = m + 1 := ⟨k - 1, by omega⟩
    rw [law26_DeltaChecks.l0, if_neg (by simp; omega)]
    rfl
  | d + 1, i, k, h1, h2 => by
    obtain ⟨k, rfl⟩ : ∃ m, k = m + 1 := ⟨k - 1, by omega⟩
    have IH := checks_l0 a b x y ox oy d (i + 1) k (by omega) (by omega)
    obtain ⟨z, hz, oz⟩ : ∃ z, rd_L4 [x, y] (i : Int) = z ∧ opsB z = true := by
      rcases (show i = 0 ∨ i = 1 by omega) with rfl | rfl
      · exact ⟨x, rfl, ox⟩
      · exact ⟨y, rfl, oy⟩
    obtain ⟨q1, q2⟩ := app_len (b := b) (l := z)
    rw [law26_DeltaChecks.l0, if_pos (by simp; omega), if_pos (by omega), hz]
    unfold delta_Check.f
    rw [if_pos oz, if_pos oz, refCheck_eq a oz k (by omega), apply_eq oz k (by omega), refApply_eq oz k (by omega)]
    simp only [Option.bind_some]
    simp only [if_true]
    rw [if_pos q1.symm, if_pos q2.symm]
    rw [show wrap64 ((i : Int) + 1) = ((i + 1 : Nat) : Int) from wrap64_id (by omega) (by omega)]
    exact IH
theorem DeltaChecks : law26_DeltaChecks.Pure := by
  intro a0 l1 l2 h0 h1 h2 h3 h4
  obtain ⟨K, hK⟩ : ∃ K : Nat, K = 30000 := ⟨_, rfl⟩
  refine ⟨K, ?_⟩
  unfold law26_DeltaChecks.f
  obtain ⟨b, p, e1, p0, p1, lb, bb⟩ := text_ok l2 0 20 (by omega) (by omega) (by omega) (by omega) K (by omega)
  rw [e1]
  simp only [Option.bind_some]
  obtain ⟨l, q, e2, q0, q1, ll, fl⟩ := faulty_ok l2 p (b.length : Int) (by omega) (by omega) (by omega) (by omega) K (by omega)
  rw [e2]
  simp only [Option.bind_some]
  exact checks_l0 a0 b l1 l (raw_opsB h1) (flt_opsB (by omega) fl) 2 0 K (by omega) (by omega)
end Go.Proofs.Ytjckjcekapkkjaa.Pure
