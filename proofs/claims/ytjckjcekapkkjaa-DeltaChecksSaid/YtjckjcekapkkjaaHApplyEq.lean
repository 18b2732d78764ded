/- delta.Apply is appS. -/
import Derived.Test.YtjckjcekapkkjaaPx0
import Derived.Test.YtjckjcekapkkjaaPx7
import Derived.Test.YtjckjcekapkkjaaHAtoms
import Derived.Test.YtjckjcekapkkjaaHCheck
import Derived.Test.YtjckjcekapkkjaaHChkOk
import Derived.Test.YtjckjcekapkkjaaHEncode
import Derived.Test.YtjckjcekapkkjaaHMakeOk
import Derived.Test.YtjckjcekapkkjaaHOps
import Derived.Test.YtjckjcekapkkjaaHWrAdd
namespace Go.Proofs.Ytjckjcekapkkjaa.P
open Go.RowKit Go.Proofs.YtjckjcekapkkjaaW.PrintWords Go.Proofs.YtjckjcekapkkjaaW.PrintLast Go.Proofs.YtjckjcekapkkjaaW.PrintMore
set_option linter.unusedVariables false
set_option linter.unusedSimpArgs false

theorem apply_piece {base : List Int} {o : Dop} (h : goodOp (base.length : Int) o) : (opAtoms o).map (evA base) = if o.f2 = [] then (base.take (o.f0 + o.f1).toNat).drop o.f0.toNat else o.f2 := by
  rw [applyS_op base o h]
  split
  · rename_i h2
    rcases h with ⟨⟨a1, a2⟩, a3, a4⟩ | ⟨a1, a2, a3⟩
    · rw [List.drop_take, show (o.f0 + o.f1).toNat - o.f0.toNat = o.f1.toNat by omega]
    · exact absurd h2 a3
  · rfl
theorem apply_l0 {base : List Int} (hb : (base.length : Int) ≤ 1048576) {l : List Dop} (hg : goodOps (base.length : Int) l) (hl : l.length ≤ 4096) (hs : ∀ o ∈ l, opLen o ≤ 1048576) : ∀ (d i k : Nat) (x : List Int), l.length = i + d → d < k → (x.length : Int) ≤ 1048576 * i →
    delta_Apply.l0 k base x l (l.length : Int) (i : Int) = some (x ++ applyS base (l.drop i), 0)
  | 0, i, k, x, h1, h2, h3 => by
    obtain ⟨k, rfl⟩ : ∃ m, k = m + 1 := ⟨k - 1, by omega⟩
    rw [delta_Apply.l0, if_neg (by omega), List.drop_of_length_le (by omega)]
    simp [applyS, atoms_nil]
  | d + 1, i, k, x, h1, h2, h3 => by
    obtain ⟨k, rfl⟩ : ∃ m, k = m + 1 := ⟨k - 1, by omega⟩
    have hi : i < l.length := by omega
    have e1 : wrap64 ((i : Int) + 1) = ((i + 1 : Nat) : Int) := wrap64_id (by omega) (by omega)
    have hm := List.getElem_mem hi
    have hgo := hg _ hm
    have hso := hs _ hm
    have hpl := opLen_good hgo
    have hap : applyS base (l.drop i) = (opAtoms l[i]).map (evA base) ++ applyS base (l.drop (i + 1)) := by
      unfold applyS
      rw [List.drop_eq_getElem_cons hi, atoms_cons, List.map_append]
    rw [delta_Apply.l0, if_pos (by omega), if_pos (by omega), if_pos (by omega), e1, rd_ops i hi, hap, ← List.append_assoc, apply_piece hgo]
    by_cases h2 : l[i].f2 = []
    · rw [if_pos h2]
      rcases hgo with ⟨⟨a1, a2⟩, a3, a4⟩ | ⟨a1, a2, a3⟩
      · have IH := apply_l0 hb hg hl hs d (i + 1) k (x ++ (base.take (l[i].f0 + l[i].f1).toNat).drop l[i].f0.toNat) (by omega) (by omega) (by rw [List.length_append]; simp; omega)
        rw [if_neg (by rw [h2]; simp), if_pos a3, wrap64_id (x := l[i].f0 + l[i].f1) (by omega) (by omega), if_pos (by omega), if_pos (by omega), if_pos (by simp; omega), IH]
      · exact absurd h2 a3
    · rw [if_neg h2]
      have hp : 0 < l[i].f2.length := List.length_pos_iff.2 h2
      have IH := apply_l0 hb hg hl hs d (i + 1) k (x ++ l[i].f2) (by omega) (by omega) (by rw [List.length_append]; omega)
      rw [if_pos (by omega), if_pos (by omega), IH]
/-- What Apply returns. -/
def appS (base : List Int) (l : List Dop) : List Int × Int := if (checkS base.length l).2 = 0 then (applyS base l, 0) else ([], (checkS base.length l).2)
theorem apply_eq {base : List Int} {l : List Dop} (hB : opsB l = true) (k : Nat) (hk : 4096 < k) : delta_Apply.f k base l = some (appS base l) := by
  unfold delta_Apply.f appS delta_Check.f
  rw [if_pos hB]
  simp only [Option.bind_some]
  by_cases h : (checkS base.length l).2 = 0
  · rw [if_pos h, if_pos h]
    obtain ⟨q1, q2, q3, q4, q5, q6, q7, q8⟩ := checkS_ok (base := base.length) (l := l) (r := (checkS base.length l).1) (by rw [← h])
    rw [if_pos q6, if_pos (by omega)]
    have := apply_l0 q2 q4 q3 (fun o ho => by have := opLen_le_size q4 o ho; omega) l.length 0 k [] (by omega) (by omega) (by simp)
    rw [show ((0 : Nat) : Int) = 0 from rfl] at this
    rw [this]
    simp
  · rw [if_neg h, if_neg h]
end Go.Proofs.Ytjckjcekapkkjaa.P
