/- What Make makes: right, normal, and its result is the target. -/
import Derived.Test.YtjckjcekapkkjaaPx0
import Derived.Test.YtjckjcekapkkjaaHAtoms
import Derived.Test.YtjckjcekapkkjaaHChkOk
import Derived.Test.YtjckjcekapkkjaaHOps
import Derived.Test.YtjckjcekapkkjaaHWrAdd
namespace Go.Proofs.Ytjckjcekapkkjaa.P
open Go.RowKit Go.Proofs.YtjckjcekapkkjaaW.PrintWords Go.Proofs.YtjckjcekapkkjaaW.PrintLast Go.Proofs.YtjckjcekapkkjaaW.PrintMore
set_option linter.unusedVariables false
set_option linter.unusedSimpArgs false

theorem applyS_len {base : List Int} {l : List Dop} (h : okOps l) : ((applyS base l).length : Int) = sizeS l := by
  unfold applyS sizeS
  rw [List.length_map, atoms_len h]
/-- Right ops in bounds pass the check. -/
theorem chk_good {base : Int} : ∀ {l : List Dop} {n : Int}, goodOps base l → 0 ≤ n → n + sizeS l ≤ 1048576 → chk base n l = (n + sizeS l, 0)
  | [], n, _, _, _ => by simp [chk, sizeS]
  | o :: l, n, h, h0, h1 => by
    have ho := h o (by simp)
    have hl := opLen_good ho
    have e : sizeS (o :: l) = opLen o + sizeS l := by simp [sizeS]
    have hs : 0 ≤ sizeS l := by
      have := applyS_len (base := []) (goodOps.ok (fun x hx => h x (by simp [hx]) : goodOps base l))
      omega
    rw [chk, if_neg (fun hh => (good_kind ho).elim hh.1 hh.2), if_neg ?_, if_neg (by omega), chk_good (fun x hx => h x (by simp [hx])) (by omega) (by omega)]
    · congr 1; omega
    · rintro ⟨hc, hh⟩
      rcases ho with ⟨_, a1, a2⟩ | ho
      · have := hc.1; omega
      · exact cp_not_lt hc ho
theorem checkS_good {base : Int} {l : List Dop} (h : goodOps base l) (h0 : 0 ≤ base) (h1 : base ≤ 1048576) (h2 : l.length ≤ 4096) (h3 : sizeS l ≤ 1048576) : checkS base l = (sizeS l, 0) := by
  unfold checkS
  rw [if_neg (by omega), if_neg (by omega), chk_good h (by omega) (by omega)]
  simp
theorem opsB_good {base : Int} {l : List Dop} (h : goodOps base l) (h1 : base ≤ 1048576) (h3 : totS l ≤ 1048576) (h2 : ∀ o ∈ l, o.f1 ≤ 1048576) : opsB l = true := by
  unfold opsB
  refine List.all_eq_true.2 (fun o ho => ?_)
  have h4 := h2 o ho
  have h5 := tot_mem ho
  simp [Lit.wf, IntKind.min, IntKind.max, IntKind.signed, IntKind.bits]
  rcases h o ho with ⟨⟨a1, a2⟩, a3, a4⟩ | ⟨a1, a2, a3⟩
  · omega
  · omega
theorem f1_le {base : Int} {l : List Dop} (h : goodOps base l) (h0 : 0 ≤ base) : ∀ o ∈ l, o.f1 ≤ base := by
  intro o ho
  rcases h o ho with ⟨⟨a1, a2⟩, a3, a4⟩ | ⟨a1, a2, a3⟩ <;> omega
end Go.Proofs.Ytjckjcekapkkjaa.P
