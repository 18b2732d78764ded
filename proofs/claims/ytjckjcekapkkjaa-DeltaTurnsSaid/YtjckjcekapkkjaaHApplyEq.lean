/- What Apply, Normal, Literal and Copies answer, as plain laws. -/
import Derived.Test.YtjckjcekapkkjaaPx0
import Derived.Test.YtjckjcekapkkjaaPx9
import Derived.Test.YtjckjcekapkkjaaPx10
import Derived.Test.YtjckjcekapkkjaaPx21
import Derived.Test.YtjckjcekapkkjaaPx24
import Derived.Test.YtjckjcekapkkjaaHAtoms
import Derived.Test.YtjckjcekapkkjaaHCheck
import Derived.Test.YtjckjcekapkkjaaHChkOk
import Derived.Test.YtjckjcekapkkjaaHEncode
import Derived.Test.YtjckjcekapkkjaaHOps
import Derived.Test.YtjckjcekapkkjaaHWrAdd
namespace Go.Proofs.Ytjckjcekapkkjaa.P
open Go.RowKit Go.Proofs.YtjckjcekapkkjaaW.PrintWords Go.Proofs.YtjckjcekapkkjaaW.PrintLast Go.Proofs.YtjckjcekapkkjaaW.PrintMore
set_option linter.unusedVariables false
set_option linter.unusedSimpArgs false

theorem apply_piece {base : List Int} {o : Dop} (h : goodOp (base.length : Int) o) : (opAtoms o).map (evA base) = if o.f2 = [] then (base.take (o.f0 + o.f1).toNat).drop o.f0.toNat else o.f2 := by
  rw [applyS_op base o h]
  split
  · rename_i h2
    rcases h with ⟨⟨a1, a2⟩, a3, a4⟩ | ⟨a1, a2, a3⟩
    · rw [List.drop_take, show (o.f0 + o.f1).toNat - o.f0.toNat = o.f1.toNat by omega]
    · exact absurd h2 a3
  · rfl
theorem apply_l0 {base : List Int} (hb : (base.length : Int) ≤ 1048576) {l : List Dop} (hg : goodOps (base.length : Int) l) (hl : l.length ≤ 4096) (hs : ∀ o ∈ l, opLen o ≤ 1048576) : ∀ (d i k : Nat) (x : List Int), l.length = i + d → d < k → (x.length : Int) ≤ 1048576 * i →
    delta_Apply.l0 k base x l (l.length : Int) (i : Int) = some (x ++ applyS base (l.drop i), 0)
  | 0, i, k, x, h1, h2, h3 => by
    obtain ⟨k, rfl⟩ : ∃ m, k = m + 1 := ⟨k - 1, by omega⟩
    rw [delta_Apply.l0, if_neg (by omega), List.drop_of_length_le (by omega)]
    simp [applyS, atoms_nil]
  | d + 1, i, k, x, h1, h2, h3 => by
    obtain ⟨k, rfl⟩ : ∃ m, k = m + 1 := ⟨k - 1, by omega⟩
    have hi : i < l.length := by omega
    have e1 : wrap64 ((i : Int) + 1) = ((i + 1 : Nat) : Int) := wrap64_id (by omega) (by omega)
    have hm := List.getElem_mem hi
    have hgo := hg _ hm
    have hso := hs _ hm
    have hpl := opLen_good hgo
    have hap : applyS base (l.drop i) = (opAtoms l[i]).map (evA base) ++ applyS base (l.drop (i + 1)) := by
      unfold applyS
      rw [List.drop_eq_getElem_cons hi, atoms_cons, List.map_append]
    rw [delta_Apply.l0, if_pos (by omega), if_pos (by omega), if_pos (by omega), e1, rd_ops i hi, hap, ← List.append_assoc, apply_piece hgo]
    by_cases h2 : l[i].f2 = []
    · rw [if_pos h2]
      rcases hgo with ⟨⟨a1, a2⟩, a3, a4⟩ | ⟨a1, a2, a3⟩
      · have IH := apply_l0 hb hg hl hs d (i + 1) k (x ++ (base.take (l[i].f0 + l[i].f1).toNat).drop l[i].f0.toNat) (by omega) (by omega) (by rw [List.length_append]; simp; omega)
        rw [if_neg (by rw [h2]; simp), if_pos a3, wrap64_id (x := l[i].f0 + l[i].f1) (by omega) (by omega), if_pos (by omega), if_pos (by omega), if_pos (by simp; omega), IH]
      · exact absurd h2 a3
    · rw [if_neg h2]
      have hp : 0 < l[i].f2.length := List.length_pos_iff.2 h2
      have IH := apply_l0 hb hg hl hs d (i + 1) k (x ++ l[i].f2) (by omega) (by omega) (by rw [List.length_append]; omega)
      rw [if_pos (by omega), if_pos (by omega), IH]
/-- What Apply returns. -/
def appS (base : List Int) (l : List Dop) : List Int × Int := if (checkS base.length l).2 = 0 then (applyS base l, 0) else ([], (checkS base.length l).2)
theorem apply_eq {base : List Int} {l : List Dop} (hB : opsB l = true) (k : Nat) (hk : 4096 < k) : delta_Apply.f k base l = some (appS base l) := by
  unfold delta_Apply.f appS delta_Check.f
  rw [if_pos hB]
  simp only [Option.bind_some]
  by_cases h : (checkS base.length l).2 = 0
  · rw [if_pos h, if_pos h]
    obtain ⟨q1, q2, q3, q4, q5, q6, q7, q8⟩ := checkS_ok (base := base.length) (l := l) (r := (checkS base.length l).1) (by rw [← h])
    rw [if_pos q6, if_pos (by omega)]
    have := apply_l0 q2 q4 q3 (fun o ho => by have := opLen_le_size q4 o ho; omega) l.length 0 k [] (by omega) (by omega) (by simp)
    rw [show ((0 : Nat) : Int) = 0 from rfl] at this
    rw [this]
    simp
  · rw [if_neg h, if_neg h]
theorem literal_eq (o : Dop) : ref26_Literal.f o.f0 o.f1 o.f2 = some (decide (opLt o)) := by
  unfold ref26_Literal.f opLt
  by_cases h1 : o.f1 = 0
  · by_cases h2 : o.f0 = 0
    · rw [if_pos h1, if_pos h2]
      by_cases h3 : o.f2 = []
      · simp [h1, h2, h3]
      · have := List.length_pos_iff.2 h3
        simp [h1, h2, h3]; omega
    · rw [if_pos h1, if_neg h2]; simp [h1, h2]
  · rw [if_neg h1]; simp [h1]
theorem copies_eq (o : Dop) : ref26_Copies.f o.f0 o.f1 o.f2 = some (decide (opCp o)) := by
  unfold ref26_Copies.f opCp
  by_cases h1 : o.f1 ≥ 1
  · rw [if_pos h1]
    by_cases h3 : o.f2 = []
    · have : 1 ≤ o.f1 := h1
      simp [this, h3]
    · have := List.length_pos_iff.2 h3
      simp [h3]
  · rw [if_neg h1]
    have : ¬ 1 ≤ o.f1 := h1
    simp [this]
theorem nrm_get : ∀ (l : List Dop), nrm l → ∀ (i : Nat) (hi : i + 1 < l.length), apart l[i] l[i + 1]
  | [], _, i, hi => by simp at hi
  | [x], _, i, hi => by simp at hi
  | x :: y :: l, h, 0, hi => h.1
  | x :: y :: l, h, i + 1, hi => nrm_get (y :: l) h.2 i (by simp at hi ⊢; omega)
theorem normal_l0 {n : Int} (hn : n ≤ 1048576) {l : List Dop} (hg : goodOps n l) (hl : l.length ≤ 1000000) (hN : nrm l) : ∀ (d i k : Nat), l.length ≤ i + d → 1 ≤ i → d < k → i ≤ l.length + 1 → ref26_Normal.l0 k l (i : Int) = some true
  | 0, i, k, h1, h2, h3, h4 => by
    obtain ⟨k, rfl⟩ : ∃ m, k = m + 1 := ⟨k - 1, by omega⟩
    rw [ref26_Normal.l0, if_neg (by omega)]
  | d + 1, i, k, h1, h2, h3, h4 => by
    obtain ⟨k, rfl⟩ : ∃ m, k = m + 1 := ⟨k - 1, by omega⟩
    by_cases hi : i < l.length
    · obtain ⟨j, rfl⟩ : ∃ j, i = j + 1 := ⟨i - 1, by omega⟩
      have e0 : wrap64 (((j + 1 : Nat) : Int) - 1) = (j : Int) := by rw [wrap64_id (by omega) (by omega)]; omega
      have e1 : wrap64 (((j + 1 : Nat) : Int) + 1) = ((j + 1 + 1 : Nat) : Int) := wrap64_id (by omega) (by omega)
      have IH := normal_l0 hn hg hl hN d (j + 1 + 1) k (by omega) (by omega) (by omega) (by omega)
      have hj : j < l.length := by omega
      have ha := nrm_get l hN j hi
      have g1 := hg _ (List.getElem_mem hj)
      have g2 := hg _ (List.getElem_mem hi)
      rw [ref26_Normal.l0, e0, if_pos (by omega), if_pos (by omega), if_pos (by omega), if_pos (by omega), rd_ops j hj, rd_ops (j + 1) hi, e1, literal_eq, literal_eq, copies_eq, copies_eq, IH]
      simp only [Option.bind_some, decide_eq_true_eq]
      generalize l[j] = x at *
      generalize l[j + 1] = y at *
      have hc : opCp x → opCp y → wrap64 (y.f0 - x.f1) = y.f0 - x.f1 := by
        intro c1 c2
        rcases g1 with ⟨⟨a1, a2⟩, a3, a4⟩ | ⟨a1, a2, a3⟩ <;> rcases g2 with ⟨⟨b1, b2⟩, b3, b4⟩ | ⟨b1, b2, b3⟩
        · exact wrap64_id (by omega) (by omega)
        · have := c2.1; omega
        · have := c1.1; omega
        · have := c1.1; omega
      by_cases p1 : opLt x
      · have p2 : ¬ opLt y := fun h => ha (.inl ⟨p1, h⟩)
        have p3 : ¬ opCp x := fun h => cp_not_lt h p1
        rw [if_pos p1, if_neg p2, if_neg p3]
      · rw [if_neg p1]
        by_cases p3 : opCp x
        · rw [if_pos p3]
          by_cases p4 : opCp y
          · rw [if_pos p4]
            by_cases p5 : y.f0 ≥ x.f1
            · rw [if_pos p5, hc p3 p4, if_neg (fun h => ha (.inr ⟨p3, p4, by omega⟩))]
            · rw [if_neg p5]
          · rw [if_neg p4]
        · rw [if_neg p3]
    · rw [ref26_Normal.l0, if_neg (by omega)]
theorem normal_eq {n : Int} (hn : n ≤ 1048576) {l : List Dop} (hg : goodOps n l) (hl : l.length ≤ 1000000) (hN : nrm l) (k : Nat) (hk : l.length + 2 < k) : ref26_Normal.f k l = some true :=
  normal_l0 hn hg hl hN l.length 1 k (by omega) (by omega) (by omega) (by omega)
end Go.Proofs.Ytjckjcekapkkjaa.P
