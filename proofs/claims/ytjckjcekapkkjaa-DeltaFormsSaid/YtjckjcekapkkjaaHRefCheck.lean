/- The reference's Check is checkS. -/
import Derived.Test.YtjckjcekapkkjaaPx0
import Derived.Test.YtjckjcekapkkjaaPx6
import Derived.Test.YtjckjcekapkkjaaHEncode
import Derived.Test.YtjckjcekapkkjaaHMakeOk
import Derived.Test.YtjckjcekapkkjaaHOps
namespace Go.Proofs.Ytjckjcekapkkjaa.P
open Go.RowKit Go.Proofs.YtjckjcekapkkjaaW.PrintWords Go.Proofs.YtjckjcekapkkjaaW.PrintLast Go.Proofs.YtjckjcekapkkjaaW.PrintMore
set_option linter.unusedVariables false
set_option linter.unusedSimpArgs false

theorem refCheck_l0 {base : Int} (hb0 : 0 ≤ base) (hb : base ≤ 1048576) {l : List Dop} (hB : opsB l = true) (hl : l.length ≤ 4096) : ∀ (d i k : Nat) (n : Int), l.length = i + d → 3 * d < k → 0 ≤ n → n ≤ 1048576 →
    ref26_Check.l0 k base l n (i : Int) = some (chk base n (l.drop i))
  | 0, i, k, n, h1, h2, h3, h4 => by
    obtain ⟨k, rfl⟩ : ∃ m, k = m + 1 := ⟨k - 1, by omega⟩
    rw [ref26_Check.l0, if_neg (by omega), List.drop_of_length_le (by omega), chk]
  | d + 1, i, k, n, h1, h2, h3, h4 => by
    obtain ⟨k, rfl⟩ : ∃ m, k = m + 3 := ⟨k - 3, by omega⟩
    have hi : i < l.length := by omega
    obtain ⟨⟨r1, r2⟩, ⟨r3, r4⟩, r5⟩ := opsB_rd hB i hi
    have IH := fun m => refCheck_l0 hb0 hb hB hl d (i + 1) k m (by omega) (by omega)
    have hrd := rd_ops i hi
    rw [ref26_Check.l0, if_pos (by omega), if_pos (by omega), hrd, chk_cons hi]
    have e1 : wrap64 ((i : Int) + 1) = ((i + 1 : Nat) : Int) := wrap64_id (by omega) (by omega)
    generalize l[i] = o at *
    have J3 : ∀ b : Bool, (opCp o ∨ opLt o) → b = decide (opCp o ∧ (o.f0 < 0 ∨ o.f0 > base ∨ o.f1 > base - o.f0)) → ref26_Check.j3 (k + 1) base l n i b o.f0 o.f1 o.f2 = some (if opCp o ∧ (o.f0 < 0 ∨ o.f0 > base ∨ o.f1 > base - o.f0) then (0, 261) else if n + opLen o > 1048576 then (0, 262) else chk base (n + opLen o) (l.drop (i + 1))) := by
      rintro b hk rfl
      rw [ref26_Check.j3]
      by_cases h : opCp o ∧ (o.f0 < 0 ∨ o.f0 > base ∨ o.f1 > base - o.f0)
      · rw [if_pos (by simpa using h), if_pos h]
      · rw [if_neg (by simpa using h), if_neg h]
        have ho : 0 ≤ o.f1 + (o.f2.length : Int) ∧ o.f1 + (o.f2.length : Int) ≤ 140737488355328 := by
          rcases hk with hk | hk
          · have h' : ¬ (o.f0 < 0 ∨ o.f0 > base ∨ o.f1 > base - o.f0) := fun hh => h ⟨hk, hh⟩
            have := hk.1
            have := hk.2
            rw [this]
            simp
            omega
          · have := hk.1
            omega
        have he : opLen o = o.f1 + (o.f2.length : Int) := rfl
        rw [wrap64_id (x := o.f1 + (o.f2.length : Int)) (by omega) (by omega), ← he, wrap64_id (x := n + opLen o) (by omega) (by omega)]
        by_cases h5 : n + opLen o > 1048576
        · rw [if_pos h5, if_pos h5]
        · rw [if_neg h5, if_neg h5, e1, IH _ (by omega) (by omega)]
    have J2 : ∀ b : Bool, b = decide (¬ opCp o ∧ ¬ opLt o) → ref26_Check.j2 (k + 2) base l n i b o.f0 o.f1 o.f2 = some (if ¬ opCp o ∧ ¬ opLt o then (0, 260) else if opCp o ∧ (o.f0 < 0 ∨ o.f0 > base ∨ o.f1 > base - o.f0) then (0, 261) else if n + opLen o > 1048576 then (0, 262) else chk base (n + opLen o) (l.drop (i + 1))) := by
      rintro b rfl
      rw [ref26_Check.j2]
      by_cases h : ¬ opCp o ∧ ¬ opLt o
      · rw [if_pos (decide_eq_true h), if_pos h]
      · rw [if_neg (by rw [decide_eq_true_iff]; exact h), if_neg h, copies_eq]
        simp only [Option.bind_some]
        by_cases hc : opCp o
        · rw [if_pos (decide_eq_true hc)]
          by_cases h6 : o.f0 < 0
          · rw [if_pos h6]
            exact J3 _ (.inl hc) (decide_eq_true ⟨hc, .inl h6⟩).symm
          · rw [if_neg h6]
            by_cases h7 : o.f0 > base
            · rw [if_pos h7]
              exact J3 _ (.inl hc) (decide_eq_true ⟨hc, .inr (.inl h7)⟩).symm
            · rw [if_neg h7, wrap64_id (x := base - o.f0) (by omega) (by omega)]
              exact J3 _ (.inl hc) (by simp only [hc, h6, h7, true_and, false_or])
        · rw [if_neg (by rw [decide_eq_true_iff]; exact hc)]
          exact J3 _ (.inr (Classical.byContradiction fun hh => h ⟨hc, hh⟩)) (decide_eq_false (fun hh => hc hh.1)).symm
    rw [copies_eq]
    simp only [Option.bind_some]
    by_cases hc : opCp o
    · rw [if_pos (decide_eq_true hc)]
      exact J2 _ (decide_eq_false (fun hh => hh.1 hc)).symm
    · rw [if_neg (by rw [decide_eq_true_iff]; exact hc), literal_eq]
      simp only [Option.bind_some]
      exact J2 _ (by simp [hc])
theorem refCheck_eq (base : Int) {l : List Dop} (hB : opsB l = true) (k : Nat) (hk : 12300 < k) : ref26_Check.f k base l = some (checkS base l) := by
  obtain ⟨k, rfl⟩ : ∃ m, k = m + 1 := ⟨k - 1, by omega⟩
  have J : ∀ b : Bool, b = decide (base < 0 ∨ base > 1048576) → ref26_Check.j0 (k + 1) base l b = some (checkS base l) := by
    rintro b rfl
    rw [ref26_Check.j0]
    unfold checkS
    by_cases h : base < 0 ∨ base > 1048576
    · rw [if_pos (decide_eq_true h), if_pos h]
    · rw [if_neg (by rw [decide_eq_true_iff]; exact h), if_neg h]
      by_cases h2 : l.length > 4096
      · rw [if_pos (by omega), if_pos h2]
      · rw [if_neg (by omega), if_neg h2]
        exact refCheck_l0 (by omega) (by omega) hB (by omega) l.length 0 k 0 (by omega) (by omega) (by omega) (by omega)
  unfold ref26_Check.f
  by_cases h : base < 0
  · rw [if_pos h]
    exact J _ (decide_eq_true (.inl h)).symm
  · rw [if_neg h]
    exact J _ (by simp only [h, false_or])
end Go.Proofs.Ytjckjcekapkkjaa.P
