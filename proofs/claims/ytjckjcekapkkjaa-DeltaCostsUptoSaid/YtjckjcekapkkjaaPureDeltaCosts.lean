/- The pure statement of DeltaCosts: Cost returns the length of the encoding, or 0; Make's delta of n bytes costs at most n + n/2 + 4 bytes. -/
import Derived.Test.YtjckjcekapkkjaaPx0
import Derived.Test.YtjckjcekapkkjaaPx3
import Derived.Test.YtjckjcekapkkjaaHAtoms
import Derived.Test.YtjckjcekapkkjaaHByB
import Derived.Test.YtjckjcekapkkjaaHCost
import Derived.Test.YtjckjcekapkkjaaHCostLaw
import Derived.Test.YtjckjcekapkkjaaHEncode
import Derived.Test.YtjckjcekapkkjaaHKnown
import Derived.Test.YtjckjcekapkkjaaHMakeF
import Derived.Test.YtjckjcekapkkjaaHMakeOk
import Derived.Test.YtjckjcekapkkjaaHOpenOpsU
import Derived.Test.YtjckjcekapkkjaaHOps
import Derived.Test.YtjckjcekapkkjaaHPutUint
import Derived.Test.YtjckjcekapkkjaaHRawB
import Derived.Test.YtjckjcekapkkjaaHRefCost
import Derived.Test.YtjckjcekapkkjaaHWrAdd
namespace Go.Proofs.Ytjckjcekapkkjaa.Pure
open Go.RowKit Go.Proofs.Ytjckjcekapkkjaa.P Go.Proofs.YtjckjcekapkkjaaW.PrintWords Go.Proofs.YtjckjcekapkkjaaW.PrintLast
set_option linter.unusedVariables false

theorem raw_sums {l : List Dop} : l.length ≤ rawSum l ∧ encW l ≤ 21 * rawSum l ∧ costSum l ≤ 21 * rawSum l := by
  induction l with
  | nil => simp [rawSum, encW, costSum]
  | cons o l ih =>
    have e1 : rawSum (o :: l) = o.f2.length + 1 + rawSum l := by simp [rawSum]
    have e2 : encW (o :: l) = 20 + o.f2.length + encW l := by simp [encW]
    have e3 : costSum (o :: l) = 20 + o.f2.length + costSum l := by simp [costSum]
    rw [e1, e2, e3, List.length_cons]
    omega
theorem tot_sums {l : List Dop} : costSum l = 20 * l.length + totS l := by
  induction l with
  | nil => simp [costSum, totS]
  | cons o l ih =>
    have e2 : totS (o :: l) = o.f2.length + totS l := by simp [totS]
    have e3 : costSum (o :: l) = 20 + o.f2.length + costSum l := by simp [costSum]
    rw [e2, e3, List.length_cons]
    omega
theorem DeltaCosts : law26_DeltaCosts.Pure := by
  intro l0 l1 l2 hr h0 h1 h2 h3 h4 h5
  obtain ⟨hr, hsum⟩ := hr
  have hB1 := byB_of h2
  have hB2 := byB_of h5
  have oB := raw_opsB hr
  obtain ⟨q1, q2, q3⟩ := raw_sums (l := l0)
  obtain ⟨K, hK⟩ : ∃ K : Nat, K = 3000000 := ⟨_, rfl⟩
  refine ⟨K + 1, ?_⟩
  unfold law26_DeltaCosts.f
  have hj : ∀ b, b = true → law26_DeltaCosts.j0 (K + 1) l0 l1 l2 b = some true := by
    rintro b rfl
    rw [law26_DeltaCosts.j0, if_pos rfl]
  by_cases a : (l1.length : Int) > 2048
  · rw [if_pos a]; exact hj _ rfl
  · rw [if_neg a]
    by_cases b : (l2.length : Int) > 2048
    · exact hj _ (by simpa using b)
    · rw [decide_eq_false b]
      obtain ⟨⟨m1, m2⟩, m3, m4, m5⟩ := makeS_ok l1 l2
      have hB := opsB_good m1 (by omega) (by omega) (fun o ho => by have := f1_le m1 (by omega) o ho; omega)
      have hs := applyS_len (base := l1) (goodOps.ok m1)
      rw [m3] at hs
      have ht := tot_sums (l := makeS l1 l2)
      have hcb : costB (makeS l1 l2) = true := by
        unfold costB
        rw [List.all_eq_true]
        intro o ho
        rcases m1 o ho with h | h
        · exact decide_eq_true (.inr ⟨h.1, h.2.1⟩)
        · exact decide_eq_true (.inl h)
      have hm4 : min4 (makeS l1 l2) := makeGo_min4 l1 _ _ _ (fun o ho => by cases ho)
      have hcost := cost_bound (n := (l1.length : Int)) (by omega) (makeS l1 l2) m1 m2 hm4 (fun o ho => by have := opLen_le_size m1 o ho; omega)
      have hhd : (encU (makeS l1 l2).length).length ≤ 2 := encU_two (by omega)
      have hif : (if ∃ o, (makeS l1 l2).head? = some o ∧ opLt o then (1 : Int) else 0) ≤ 1 := by split <;> omega
      have hlen : ((encOps (makeS l1 l2)).length : Int) ≤ (l2.length : Int) + (l2.length : Int) / 2 + 4 := by
        unfold encOps
        rw [List.length_append]
        push_cast
        omega
      rw [law26_DeltaCosts.j0, if_neg (by simp), makef_ok hB1 hB2 (by omega) (by omega)]
      simp only [Option.bind_some, law26_known.f, if_true]
      rw [cost_eq oB (by omega), refCost_eq oB (by omega) (by omega) K (by omega)]
      simp only [Option.bind_some, if_true]
      rw [cost_eq hB (by omega), if_pos hcb]
      simp only [Option.bind_some]
      rw [wrap64_id (x := (l2.length : Int) / 2) (by omega) (by omega), wrap64_id (x := (l2.length : Int) + (l2.length : Int) / 2) (by omega) (by omega), wrap64_id (by omega) (by omega), decide_eq_true hlen]
end Go.Proofs.Ytjckjcekapkkjaa.Pure
