/- The reference's bytes is encOps. -/
import Derived.Test.YtjckjcekapkkjaaPx0
import Derived.Test.YtjckjcekapkkjaaPx6
import Derived.Test.YtjckjcekapkkjaaHMap
import Derived.Test.YtjckjcekapkkjaaHEncode
import Derived.Test.YtjckjcekapkkjaaHMakeOk
import Derived.Test.YtjckjcekapkkjaaHOps
import Derived.Test.YtjckjcekapkkjaaHPutUint
import Derived.Test.YtjckjcekapkkjaaHRefUint
namespace Go.Proofs.Ytjckjcekapkkjaa.P
open Go.RowKit Go.Proofs.YtjckjcekapkkjaaW.PrintWords Go.Proofs.YtjckjcekapkkjaaW.PrintLast Go.Proofs.YtjckjcekapkkjaaW.PrintMore
set_option linter.unusedVariables false
set_option linter.unusedSimpArgs false

theorem wrap_in {x : Int} (h0 : 0 ≤ x) (h1 : x < 18446744073709551616) : IntKind.u64.wrap x = x := by rw [wrap_u64m]; omega
theorem refU4 {k : Nat} (hk : 11 ≤ k) {v : Int} (h0 : 0 ≤ v) (h1 : v < 18446744073709551616) : stockyardref01_Uint.f k v = some (encU v.toNat) := by
  obtain ⟨n, rfl⟩ := Int.eq_ofNat_of_zero_le h0
  exact refU3 hk (by omega)
def encW (l : List Dop) : Nat := (l.map fun o => 20 + o.f2.length).sum
theorem encW_drop {l : List Dop} {i : Nat} (h : i < l.length) : encW (l.drop i) = 20 + l[i].f2.length + encW (l.drop (i + 1)) := by
  rw [List.drop_eq_getElem_cons h]; simp only [encW, List.map_cons, List.sum_cons]
theorem costB_get {l : List Dop} (h : costB l = true) (i : Nat) (hi : i < l.length) : opLt l[i] ∨ opCp l[i] ∧ 0 ≤ l[i].f0 := by
  have := List.all_eq_true.1 h l[i] (List.getElem_mem hi)
  simpa using this
theorem bytes_l0' {l : List Dop} (hB : opsB l = true) (hc : costB l = true) (hl : l.length ≤ 4611686018427387904) : ∀ (d i k : Nat) (out : List Int), l.length = i + d → d + 12 < k → out.length + encW (l.drop i) < 140737488355000 →
    ref26_bytes.l0 k l out (i : Int) = some (out ++ (l.drop i).flatMap encOp)
  | 0, i, k, out, h1, h2, h3 => by
    obtain ⟨k, rfl⟩ : ∃ m, k = m + 1 := ⟨k - 1, by omega⟩
    rw [ref26_bytes.l0, if_neg (by omega), List.drop_of_length_le (by omega)]
    simp
  | d + 1, i, k, out, h1, h2, h3 => by
    obtain ⟨k, rfl⟩ : ∃ m, k = m + 1 := ⟨k - 1, by omega⟩
    have hi : i < l.length := by omega
    obtain ⟨⟨r1, r2⟩, ⟨r3, r4⟩, r5⟩ := opsB_rd hB i hi
    have hk := costB_get hc i hi
    have hw := encW_drop hi
    have IH := fun o2 => bytes_l0' hB hc hl d (i + 1) k o2 (by omega) (by omega)
    have hP : (l.drop i).flatMap encOp = encOp l[i] ++ (l.drop (i + 1)).flatMap encOp := by rw [List.drop_eq_getElem_cons hi, List.flatMap_cons]
    have hrd := rd_ops i hi
    rw [hP, ref26_bytes.l0, if_pos (by omega), if_pos (by omega), hrd, copies_eq]
    simp only [Option.bind_some]
    have e1 := wrap_succ i (by omega)
    generalize l[i] = o at *
    by_cases hcp : opCp o
    · rw [if_pos (decide_eq_true hcp)]
      have h0 : 0 ≤ o.f0 ∧ 1 ≤ o.f1 ∧ o.f2.length = 0 := by
        rcases hk with h | h
        · exact absurd h (cp_not_lt hcp)
        · exact ⟨h.2, hcp.1, by rw [hcp.2]; rfl⟩
      obtain ⟨h0, h0', h0''⟩ := h0
      rw [wrap_in (x := o.f1) (by omega) (by omega), wrap_in (x := 2 * o.f1) (by omega) (by omega), wrap_in (x := 2 * o.f1 + 1) (by omega) (by omega), wrap_in (x := o.f0) (by omega) (by omega)]
      rw [refU4 (by omega) (by omega) (by omega), refU4 (by omega) (by omega) (by omega)]
      simp only [Option.bind_some]
      have l1 := encU_len10 (v := (2 * o.f1 + 1).toNat) (by omega)
      have l2 := encU_len10 (v := o.f0.toNat) (by omega)
      rw [if_pos (by omega), if_pos (by simp only [List.length_append]; omega), e1, IH _ (by simp only [List.length_append]; omega)]
      unfold encOp
      rw [if_pos hcp]
      simp only [List.append_assoc]
    · rw [if_neg (by rw [decide_eq_true_iff]; exact hcp)]
      rw [wrap_in (x := (o.f2.length : Int)) (by omega) (by omega), wrap_in (x := 2 * (o.f2.length : Int)) (by omega) (by omega)]
      rw [refU4 (by omega) (by omega) (by omega)]
      simp only [Option.bind_some]
      have l1 := encU_len10 (v := (2 * (o.f2.length : Int)).toNat) (by omega)
      rw [if_pos (by omega), if_pos (by simp only [List.length_append]; omega), e1, IH _ (by simp only [List.length_append]; omega)]
      unfold encOp
      rw [if_neg hcp, show (2 * (o.f2.length : Int)).toNat = 2 * o.f2.length by omega]
      simp only [List.append_assoc]
theorem refBytes_eq {l : List Dop} (hB : opsB l = true) (hc : costB l = true) (hw : encW l < 140737488350000) (hl : l.length ≤ 4611686018427387904) (k : Nat) (hk : l.length + 12 < k) : ref26_bytes.f k l = some (encOps l) := by
  unfold ref26_bytes.f
  rw [wrap_in (by omega) (by omega), refU4 (by omega) (by omega) (by omega)]
  simp only [Option.bind_some]
  have l1 := encU_len10 (v := ((l.length : Int)).toNat) (by omega)
  have := bytes_l0' hB hc hl l.length 0 k (encU ((l.length : Int)).toNat) (by omega) (by omega) (by rw [List.drop_zero]; omega)
  rw [show ((0 : Nat) : Int) = 0 from rfl] at this
  rw [this, List.drop_zero]
  unfold encOps
  rw [Int.toNat_natCast]
end Go.Proofs.Ytjckjcekapkkjaa.P
