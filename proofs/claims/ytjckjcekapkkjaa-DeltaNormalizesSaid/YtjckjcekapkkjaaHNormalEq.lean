/- What Normal answers. -/
import Derived.Test.YtjckjcekapkkjaaPx0
import Derived.Test.YtjckjcekapkkjaaPx4
import Derived.Test.YtjckjcekapkkjaaHAtoms
import Derived.Test.YtjckjcekapkkjaaHEncode
import Derived.Test.YtjckjcekapkkjaaHTapeText
import Derived.Test.YtjckjcekapkkjaaHOps
namespace Go.Proofs.Ytjckjcekapkkjaa.P
open Go.RowKit Go.Proofs.YtjckjcekapkkjaaW.PrintWords Go.Proofs.YtjckjcekapkkjaaW.PrintLast Go.Proofs.YtjckjcekapkkjaaW.PrintMore
set_option linter.unusedVariables false
set_option linter.unusedSimpArgs false

theorem nrm_get : ∀ (l : List Dop), nrm l → ∀ (i : Nat) (hi : i + 1 < l.length), apart l[i] l[i + 1]
  | [], _, i, hi => by simp at hi
  | [x], _, i, hi => by simp at hi
  | x :: y :: l, h, 0, hi => h.1
  | x :: y :: l, h, i + 1, hi => nrm_get (y :: l) h.2 i (by simp at hi ⊢; omega)
theorem normal_l0 {n : Int} (hn : n ≤ 1048576) {l : List Dop} (hg : goodOps n l) (hl : l.length ≤ 1000000) (hN : nrm l) : ∀ (d i k : Nat), l.length ≤ i + d → 1 ≤ i → d < k → i ≤ l.length + 1 → ref26_Normal.l0 k l (i : Int) = some true
  | 0, i, k, h1, h2, h3, h4 => by
    obtain ⟨k, rfl⟩ : ∃ m, k = m + 1 := ⟨k - 1, by omega⟩
    rw [ref26_Normal.l0, if_neg (by omega)]
  | d + 1, i, k, h1, h2, h3, h4 => by
    obtain ⟨k, rfl⟩ : ∃ m, k = m + 1 := ⟨k - 1, by omega⟩
    by_cases hi : i < l.length
    · obtain ⟨j, rfl⟩ : ∃ j, i = j + 1 := ⟨i - 1, by omega⟩
      have e0 : wrap64 (((j + 1 : Nat) : Int) - 1) = (j : Int) := by rw [wrap64_id (by omega) (by omega)]; omega
      have e1 : wrap64 (((j + 1 : Nat) : Int) + 1) = ((j + 1 + 1 : Nat) : Int) := wrap64_id (by omega) (by omega)
      have IH := normal_l0 hn hg hl hN d (j + 1 + 1) k (by omega) (by omega) (by omega) (by omega)
      have hj : j < l.length := by omega
      have ha := nrm_get l hN j hi
      have g1 := hg _ (List.getElem_mem hj)
      have g2 := hg _ (List.getElem_mem hi)
      rw [ref26_Normal.l0, e0, if_pos (by omega), if_pos (by omega), if_pos (by omega), if_pos (by omega), rd_ops j hj, rd_ops (j + 1) hi, e1, literal_eq, literal_eq, copies_eq, copies_eq, IH]
      simp only [Option.bind_some, decide_eq_true_eq]
      generalize l[j] = x at *
      generalize l[j + 1] = y at *
      have hc : opCp x → opCp y → wrap64 (y.f0 - x.f1) = y.f0 - x.f1 := by
        intro c1 c2
        rcases g1 with ⟨⟨a1, a2⟩, a3, a4⟩ | ⟨a1, a2, a3⟩ <;> rcases g2 with ⟨⟨b1, b2⟩, b3, b4⟩ | ⟨b1, b2, b3⟩
        · exact wrap64_id (by omega) (by omega)
        · have := c2.1; omega
        · have := c1.1; omega
        · have := c1.1; omega
      by_cases p1 : opLt x
      · have p2 : ¬ opLt y := fun h => ha (.inl ⟨p1, h⟩)
        have p3 : ¬ opCp x := fun h => cp_not_lt h p1
        rw [if_pos p1, if_neg p2, if_neg p3]
      · rw [if_neg p1]
        by_cases p3 : opCp x
        · rw [if_pos p3]
          by_cases p4 : opCp y
          · rw [if_pos p4]
            by_cases p5 : y.f0 ≥ x.f1
            · rw [if_pos p5, hc p3 p4, if_neg (fun h => ha (.inr ⟨p3, p4, by omega⟩))]
            · rw [if_neg p5]
          · rw [if_neg p4]
        · rw [if_neg p3]
    · rw [ref26_Normal.l0, if_neg (by omega)]
theorem normal_eq {n : Int} (hn : n ≤ 1048576) {l : List Dop} (hg : goodOps n l) (hl : l.length ≤ 1000000) (hN : nrm l) (k : Nat) (hk : l.length + 2 < k) : ref26_Normal.f k l = some true :=
  normal_l0 hn hg hl hN l.length 1 k (by omega) (by omega) (by omega) (by omega)
end Go.Proofs.Ytjckjcekapkkjaa.P
