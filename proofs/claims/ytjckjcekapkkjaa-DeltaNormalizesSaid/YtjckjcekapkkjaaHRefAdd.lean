/- The reference's Add is addOp. -/
import Derived.Test.YtjckjcekapkkjaaPx0
import Derived.Test.YtjckjcekapkkjaaPx6
import Derived.Test.YtjckjcekapkkjaaHAtoms
import Derived.Test.YtjckjcekapkkjaaHEncode
import Derived.Test.YtjckjcekapkkjaaHTapeText
import Derived.Test.YtjckjcekapkkjaaHOps
import Derived.Test.YtjckjcekapkkjaaHWrAdd
namespace Go.Proofs.Ytjckjcekapkkjaa.P
open Go.RowKit Go.Proofs.YtjckjcekapkkjaaW.PrintWords Go.Proofs.YtjckjcekapkkjaaW.PrintLast Go.Proofs.YtjckjcekapkkjaaW.PrintMore
set_option linter.unusedVariables false
set_option linter.unusedSimpArgs false

theorem add_eq {n : Int} (hn : n ≤ 1048576) {l : List Dop} {o : Dop} (hg : goodOps n l) (ho : goodOp n o) (hl : l.length ≤ 1000000) (ht : totS l ≤ 1000000000) (hol : o.f2.length ≤ 1000000000) (k : Nat) (hk : 2 ≤ k) : ref26_Add.f k l o.f0 o.f1 o.f2 = some (addOp l o) := by
  obtain ⟨k, rfl⟩ : ∃ m, k = m + 2 := ⟨k - 2, by omega⟩
  unfold ref26_Add.f
  have hlit := literal_eq o
  have hcop := copies_eq o
  obtain ⟨g0, g1, g2⟩ := o
  simp only at hlit hcop hol
  simp only [List.nil_append, Option.bind_some, List.length_nil, Nat.zero_add]
  rw [if_pos (by omega)]
  rcases snoc_cases l with rfl | ⟨init, la, rfl⟩
  · rw [if_neg (by rw [wrap64_id] <;> simp), if_pos (by simp), if_pos (by simp)]
    rfl
  · have e0 : wrap64 (((init ++ [la]).length : Int) - 1) = (init.length : Int) := by
      simp only [List.length_append, List.length_singleton] at hl ⊢
      rw [wrap64_id (by omega) (by omega)]; omega
    have er : rd_T39 (init ++ [la]) (init.length : Int) = la := by
      rw [rd_ops init.length (by simp)]; simp
    have hla := hg la (by simp)
    have htl : la.f2.length ≤ totS (init ++ [la]) := tot_mem (by simp)
    have hil : init.length < 1000000 := by simp at hl; omega
    have tk : (init ++ [la]).take (init.length : Int).toNat = init := by simp
    rw [e0, er, if_pos (by omega), if_pos (by omega), if_pos (by simp; omega), literal_eq, addOp_snoc, hlit]
    simp only [Option.bind_some]
    have J1 : ∀ b : Bool, b = decide (opCp la ∧ opCp (⟨g0, g1, g2⟩ : Dop) ∧ la.f0 + la.f1 = g0) → ref26_Add.j1 (k + 1) (init ++ [la]) (init.length : Int) b g0 g1 g2 la.f0 la.f1 la.f2 = some (if opCp la ∧ opCp (⟨g0, g1, g2⟩ : Dop) ∧ la.f0 + la.f1 = g0 then init ++ [⟨la.f0, la.f1 + g1, []⟩] else init ++ [la] ++ [⟨g0, g1, g2⟩]) := by
      rintro b rfl
      rw [ref26_Add.j1]
      by_cases h : opCp la ∧ opCp (⟨g0, g1, g2⟩ : Dop) ∧ la.f0 + la.f1 = g0
      · have hw : wrap64 (la.f1 + g1) = la.f1 + g1 := by
          rcases hla with ⟨⟨a1, a2⟩, a3, a4⟩ | ⟨a1, a2, a3⟩
          · rcases ho with ⟨⟨b1, b2⟩, b3, b4⟩ | ⟨b1, b2, b3⟩
            · simp only at b1 b3 b4
              exact wrap64_id (by omega) (by omega)
            · exact absurd h.2.1.2 b3
          · exact absurd h.1.2 a3
        rw [if_pos (by simpa using h), if_pos h, if_pos (by omega), if_pos (by simp; omega), tk, hw]
        simp only [List.nil_append, Option.bind_some, List.length_nil, Nat.zero_add]
        rw [if_pos (by omega), if_pos (by simp; omega)]
      · rw [if_neg (by simpa using h), if_neg h]
        simp only [List.nil_append, Option.bind_some, List.length_nil, Nat.zero_add]
        rw [if_pos (by simp; omega), if_pos (by simp; omega)]
    have J0 : ∀ b : Bool, b = decide (opLt la ∧ opLt (⟨g0, g1, g2⟩ : Dop)) → ref26_Add.j0 (k + 2) (init ++ [la]) (init.length : Int) b g0 g1 g2 la.f0 la.f1 la.f2 = some (if opLt la ∧ opLt (⟨g0, g1, g2⟩ : Dop) then init ++ [⟨0, 0, la.f2 ++ g2⟩] else if opCp la ∧ opCp (⟨g0, g1, g2⟩ : Dop) ∧ la.f0 + la.f1 = g0 then init ++ [⟨la.f0, la.f1 + g1, []⟩] else init ++ [la] ++ [⟨g0, g1, g2⟩]) := by
      rintro b rfl
      rw [ref26_Add.j0]
      by_cases h : opLt la ∧ opLt (⟨g0, g1, g2⟩ : Dop)
      · rw [if_pos (by simpa using h), if_pos h, if_pos (by omega), if_pos (by simp; omega), tk]
        simp only [List.nil_append, Option.bind_some, List.length_nil, Nat.zero_add]
        rw [if_pos (by omega), if_pos (by omega), if_pos (by omega), if_pos (by simp; omega)]
      · rw [if_neg (by simpa using h), if_neg h, copies_eq, hcop]
        simp only [Option.bind_some]
        by_cases h1 : opCp la
        · rw [if_pos (by simpa using h1)]
          by_cases h2 : opCp (⟨g0, g1, g2⟩ : Dop)
          · rw [if_pos (by simpa using h2)]
            refine J1 _ ?_
            have hw : wrap64 (la.f0 + la.f1) = la.f0 + la.f1 := by
              rcases hla with ⟨⟨a1, a2⟩, a3, a4⟩ | ⟨a1, a2, a3⟩
              · exact wrap64_id (by omega) (by omega)
              · exact wrap64_id (by omega) (by omega)
            rw [hw]
            simp only [h1, h2, true_and]
            by_cases e : la.f0 + la.f1 = g0 <;> simp [e]
          · rw [if_neg (by simpa using h2)]
            exact J1 _ (by simp [h2])
        · rw [if_neg (by simpa using h1)]
          exact J1 _ (by simp [h1])
    by_cases h : opLt la
    · rw [if_pos (by simpa using h)]
      exact J0 _ (by simp [h])
    · rw [if_neg (by simpa using h)]
      exact J0 _ (by simp [h])
end Go.Proofs.Ytjckjcekapkkjaa.P
