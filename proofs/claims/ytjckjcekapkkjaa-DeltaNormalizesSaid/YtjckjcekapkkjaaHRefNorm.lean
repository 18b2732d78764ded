/- The reference's Normalize is the fold of addOp. -/
import Derived.Test.YtjckjcekapkkjaaPx0
import Derived.Test.YtjckjcekapkkjaaPx7
import Derived.Test.YtjckjcekapkkjaaHAtoms
import Derived.Test.YtjckjcekapkkjaaHChkOk
import Derived.Test.YtjckjcekapkkjaaHEncode
import Derived.Test.YtjckjcekapkkjaaHNormalize
import Derived.Test.YtjckjcekapkkjaaHOpenOps
import Derived.Test.YtjckjcekapkkjaaHOps
import Derived.Test.YtjckjcekapkkjaaHRefAdd
import Derived.Test.YtjckjcekapkkjaaHRefCheck
import Derived.Test.YtjckjcekapkkjaaHWrAdd
namespace Go.Proofs.Ytjckjcekapkkjaa.P
open Go.RowKit Go.Proofs.YtjckjcekapkkjaaW.PrintWords Go.Proofs.YtjckjcekapkkjaaW.PrintLast Go.Proofs.YtjckjcekapkkjaaW.PrintMore
set_option linter.unusedVariables false
set_option linter.unusedSimpArgs false

theorem refNorm_l0 {n : Int} (hn : n ≤ 1048576) {l : List Dop} (hg : goodOps n l) (hl : l.length ≤ 4096) (ht : totS l ≤ 1048576) : ∀ (d i k : Nat) (out : List Dop), l.length = i + d → d + 3 < k → goodOps n out → out.length ≤ i → totS out ≤ totS (l.take i) →
    ref26_Normalize.l0 k l out (i : Int) = some ((l.drop i).foldl addOp out, 0)
  | 0, i, k, out, h1, h2, h3, h4, h5 => by
    obtain ⟨k, rfl⟩ : ∃ m, k = m + 1 := ⟨k - 1, by omega⟩
    rw [ref26_Normalize.l0, if_neg (by omega), List.drop_of_length_le (by omega)]
    rfl
  | d + 1, i, k, out, h1, h2, h3, h4, h5 => by
    obtain ⟨k, rfl⟩ : ∃ m, k = m + 1 := ⟨k - 1, by omega⟩
    have hi : i < l.length := by omega
    have hgo := hg _ (List.getElem_mem hi)
    have hT : totS (l.take (i + 1)) = totS (l.take i) + l[i].f2.length := by
      rw [List.take_succ_eq_append_getElem hi, totS_append, totS_one]
    have hTl := totS_take l (i + 1)
    have hP : (l.drop i).foldl addOp out = (l.drop (i + 1)).foldl addOp (addOp out l[i]) := by rw [List.drop_eq_getElem_cons hi, List.foldl_cons]
    have hrd := rd_ops i hi
    have hA := addOp_tot (fun x hx => good_kind (h3 x hx)) (good_kind hgo) (l := out)
    have hL := addOp_len out l[i]
    rw [hP, ref26_Normalize.l0, if_pos (by omega), if_pos (by omega), hrd, add_eq hn h3 hgo (by omega) (by omega) (by omega) k (by omega)]
    simp only [Option.bind_some]
    rw [show wrap64 ((i : Int) + 1) = ((i + 1 : Nat) : Int) from wrap64_id (by omega) (by omega)]
    exact refNorm_l0 hn hg hl ht d (i + 1) k _ (by omega) (by omega) (addOp_good h3 hgo) (by omega) (by omega)
theorem refNorm_eq (n : Int) {l : List Dop} (hB : opsB l = true) (k : Nat) (hk : 12300 < k) : ref26_Normalize.f k n l = delta_Normalize.f n l := by
  unfold ref26_Normalize.f delta_Normalize.f
  rw [refCheck_eq n hB k hk, if_pos hB]
  simp only [Option.bind_some]
  by_cases h : (checkS n l).2 = 0
  · rw [if_pos h, if_pos h]
    obtain ⟨q1, q2, q3, q4, q5, q6, q7, q8⟩ := checkS_ok (base := n) (l := l) (r := (checkS n l).1) (by rw [← h])
    have := refNorm_l0 q2 q4 q3 (by omega) l.length 0 k [] (by omega) (by omega) (fun o ho => by cases ho) (by simp) (by simp [totS])
    rw [show ((0 : Nat) : Int) = 0 from rfl] at this
    rw [this]
    rfl
  · rw [if_neg h, if_neg h]
theorem raw_opsB {l : List Dop} (h : rawOps l) : opsB l = true := by
  unfold opsB
  rw [List.all_eq_true]
  intro o ho
  obtain ⟨a, b, c, _⟩ := h.2 o ho
  rw [a, b]
  simp
  omega
end Go.Proofs.Ytjckjcekapkkjaa.P
