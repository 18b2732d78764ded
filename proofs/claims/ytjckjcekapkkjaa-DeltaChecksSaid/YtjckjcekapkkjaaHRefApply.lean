/- The reference's Apply is appS. -/
import Derived.Test.YtjckjcekapkkjaaPx0
import Derived.Test.YtjckjcekapkkjaaPx7
import Derived.Test.YtjckjcekapkkjaaHApplyEq
import Derived.Test.YtjckjcekapkkjaaHAtoms
import Derived.Test.YtjckjcekapkkjaaHChkOk
import Derived.Test.YtjckjcekapkkjaaHEncode
import Derived.Test.YtjckjcekapkkjaaHOps
import Derived.Test.YtjckjcekapkkjaaHRefCheck
namespace Go.Proofs.Ytjckjcekapkkjaa.P
open Go.RowKit Go.Proofs.YtjckjcekapkkjaaW.PrintWords Go.Proofs.YtjckjcekapkkjaaW.PrintLast Go.Proofs.YtjckjcekapkkjaaW.PrintMore
set_option linter.unusedVariables false
set_option linter.unusedSimpArgs false

theorem refApply_l0 {base : List Int} (hb : (base.length : Int) ≤ 1048576) {l : List Dop} (hg : goodOps (base.length : Int) l) (hl : l.length ≤ 4096) (hs : ∀ o ∈ l, opLen o ≤ 1048576) : ∀ (d i k : Nat) (x : List Int), l.length = i + d → d < k → (x.length : Int) ≤ 1048576 * i →
    ref26_Apply.l0 k base l x (i : Int) = some (x ++ applyS base (l.drop i), 0)
  | 0, i, k, x, h1, h2, h3 => by
    obtain ⟨k, rfl⟩ : ∃ m, k = m + 1 := ⟨k - 1, by omega⟩
    rw [ref26_Apply.l0, if_neg (by omega), List.drop_of_length_le (by omega)]
    simp [applyS, atoms_nil]
  | d + 1, i, k, x, h1, h2, h3 => by
    obtain ⟨k, rfl⟩ : ∃ m, k = m + 1 := ⟨k - 1, by omega⟩
    have hi : i < l.length := by omega
    have hm := List.getElem_mem hi
    have hgo := hg _ hm
    have hso := hs _ hm
    have hpl := opLen_good hgo
    have hap : applyS base (l.drop i) = (opAtoms l[i]).map (evA base) ++ applyS base (l.drop (i + 1)) := by
      unfold applyS
      rw [List.drop_eq_getElem_cons hi, atoms_cons, List.map_append]
    have hrd := rd_ops i hi
    rw [hap, ← List.append_assoc, apply_piece hgo, ref26_Apply.l0, if_pos (by omega), if_pos (by omega), hrd]
    have e1 := wrap_succ i (by omega)
    rw [e1]
    clear e1
    by_cases h2 : l[i].f2 = []
    · rw [if_pos h2]
      rcases hgo with ⟨⟨a1, a2⟩, a3, a4⟩ | ⟨a1, a2, a3⟩
      · have hz : l[i].f2.length = 0 := by rw [h2]; rfl
        have hlen : ((base.take (l[i].f0 + l[i].f1).toNat).drop l[i].f0.toNat).length ≤ 1048576 := by simp; omega
        have IH := refApply_l0 hb hg hl hs d (i + 1) k (x ++ (base.take (l[i].f0 + l[i].f1).toNat).drop l[i].f0.toNat) (by omega) (by omega) (by rw [List.length_append]; omega)
        rw [if_pos a3, wrap64_id (x := l[i].f0 + l[i].f1) (by omega) (by omega), if_pos (by omega), if_pos (by omega), if_pos (by omega)]
        simp only [Option.bind_some]
        rw [if_pos (by rw [List.length_append]; omega), h2, List.append_nil, IH]
      · exact absurd h2 a3
    · rw [if_neg h2]
      have hlt : opLt l[i] := by
        rcases hgo with ⟨⟨a1, a2⟩, a3, a4⟩ | h
        · exact absurd a2 h2
        · exact h
      obtain ⟨a1, a2, a3⟩ := hlt
      have e : opLen l[i] = l[i].f1 + (l[i].f2.length : Int) := rfl
      have IH := refApply_l0 hb hg hl hs d (i + 1) k (x ++ l[i].f2) (by omega) (by omega) (by rw [List.length_append]; omega)
      have hw : wrap64 (l[i].f0 + l[i].f1) = 0 := by rw [a1, a2]; exact wrap64_id (x := 0 + 0) (by omega) (by omega)
      rw [hw, a2, if_pos (by omega), if_pos (by omega), if_pos (by omega)]
      simp only [Int.toNat_zero, List.take_zero, List.drop_nil, List.append_nil, List.length_nil, Option.bind_some]
      rw [if_pos (by omega), if_pos (by omega), IH]
theorem refApply_eq {base : List Int} {l : List Dop} (hB : opsB l = true) (k : Nat) (hk : 12300 < k) : ref26_Apply.f k base l = some (appS base l) := by
  unfold ref26_Apply.f appS
  rw [refCheck_eq _ hB k hk]
  simp only [Option.bind_some]
  by_cases h : (checkS base.length l).2 = 0
  · rw [if_pos h, if_pos h]
    obtain ⟨q1, q2, q3, q4, q5, q6, q7, q8⟩ := checkS_ok (base := base.length) (l := l) (r := (checkS base.length l).1) (by rw [← h])
    have := refApply_l0 q2 q4 q3 (fun o ho => by have := opLen_le_size q4 o ho; omega) l.length 0 k [] (by omega) (by omega) (by simp)
    rw [show ((0 : Nat) : Int) = 0 from rfl] at this
    rw [this]
    simp
  · rw [if_neg h, if_neg h]
end Go.Proofs.Ytjckjcekapkkjaa.P
