/- The pure statement of DeltaForms: Encode writes the encoding, Cost is its length, Decode accepts exactly the encodings of right deltas. -/
import Derived.Test.YtjckjcekapkkjaaPx0
import Derived.Test.YtjckjcekapkkjaaPx7
import Derived.Test.YtjckjcekapkkjaaPx10
import Derived.Test.YtjckjcekapkkjaaHMakeOk
import Derived.Test.YtjckjcekapkkjaaHRefUint
import Derived.Test.YtjckjcekapkkjaaHCost
import Derived.Test.YtjckjcekapkkjaaHCostLaw
import Derived.Test.YtjckjcekapkkjaaHDecEq
import Derived.Test.YtjckjcekapkkjaaHEncode
import Derived.Test.YtjckjcekapkkjaaHFaulty
import Derived.Test.YtjckjcekapkkjaaHKnown
import Derived.Test.YtjckjcekapkkjaaHMake
import Derived.Test.YtjckjcekapkkjaaHMathU
import Derived.Test.YtjckjcekapkkjaaHOps
import Derived.Test.YtjckjcekapkkjaaHPutUint
import Derived.Test.YtjckjcekapkkjaaHRefBytes
import Derived.Test.YtjckjcekapkkjaaHRefCheck
import Derived.Test.YtjckjcekapkkjaaHSame
import Derived.Test.YtjckjcekapkkjaaHTape
import Derived.Test.YtjckjcekapkkjaaHUint
import Derived.Test.YtjckjcekapkkjaaHWrAdd
import Derived.Laws.BitsAllLaws
namespace Go.Proofs.Ytjckjcekapkkjaa.Pure
open Go.RowKit Go.Proofs.Ytjckjcekapkkjaa.P Go.Proofs.YtjckjcekapkkjaaW.PrintWords Go.Proofs.YtjckjcekapkkjaaW.PrintLast
set_option linter.unusedVariables false

theorem byteB_iff2 {l : List Int} : byteB l = true ↔ ∀ x ∈ l, 0 ≤ x ∧ x < 256 := by simp [byteB]
theorem byteB_by {l : List Int} (h : byB l = true) : byteB l = true := byteB_iff2.2 (byB_iff.1 h)
theorem enc_byteB {l : List Dop} (h : ∀ o ∈ l, byB o.f2 = true) : byteB (encOps l) = true := by
  unfold encOps
  refine byteB_append (encU_bytes _) ?_
  induction l with
  | nil => rfl
  | cons o l ih =>
    rw [List.flatMap_cons]
    refine byteB_append ?_ (ih (fun x hx => h x (by simp [hx])))
    unfold encOp
    split
    · exact byteB_append (encU_bytes _) (encU_bytes _)
    · exact byteB_append (encU_bytes _) (byteB_by (h o (by simp)))
theorem shl_byte {s : Int} (h0 : 0 ≤ s) (h1 : s < 8) : 0 ≤ shl .u8 1 s ∧ shl .u8 1 s < 256 := by
  rcases (show s = 0 ∨ s = 1 ∨ s = 2 ∨ s = 3 ∨ s = 4 ∨ s = 5 ∨ s = 6 ∨ s = 7 by omega) with rfl | rfl | rfl | rfl | rfl | rfl | rfl | rfl <;> decide
theorem xor_byte {a s : Int} (a0 : 0 ≤ a) (a1 : a < 256) (h0 : 0 ≤ s) (h1 : s < 8) : 0 ≤ Go.bits .xor .u8 a (shl .u8 1 s) ∧ Go.bits .xor .u8 a (shl .u8 1 s) < 256 := by
  obtain ⟨b0, b1⟩ := shl_byte h0 h1
  rw [u8_xor a _ a0 a1 b0 b1]
  have : a.toNat ^^^ (shl .u8 1 s).toNat < 2 ^ 8 := Nat.xor_lt_two_pow (by omega) (by omega)
  omega
theorem forms_l0 (a0 n : Int) {ys : List (List Int)} (h : ∀ y ∈ ys, byteB y = true ∧ y.length < 140737488355328) (hl : ys.length ≤ 10) : ∀ (d i k : Nat), ys.length = i + d → 2 * d + 40001 < k → law26_DeltaForms.l0 k a0 n ys (i : Int) = some true
  | 0, i, k, h1, h2 => by
    obtain ⟨k, rfl⟩ : ∃ m, k = m + 1 := ⟨k - 1, by omega⟩
    rw [law26_DeltaForms.l0, if_neg (by omega)]
  | d + 1, i, k, h1, h2 => by
    obtain ⟨k, rfl⟩ : ∃ m, k = m + 2 := ⟨k - 2, by omega⟩
    have hi : i < ys.length := by omega
    have IH := forms_l0 a0 n h hl d (i + 1) k (by omega) (by omega)
    have hr : rd_L2 ys (i : Int) = ys[i] := by
      unfold rd_L2
      simp [List.getElem?_eq_getElem hi]
    obtain ⟨hB, hlen⟩ := h _ (List.getElem_mem hi)
    have J : ∀ x : Int, law26_DeltaForms.j3 (k + 1) a0 n ys (i : Int) x = some true := by
      intro x
      obtain ⟨r, r1, r2⟩ := dec_eq hB hlen x k (by omega)
      have c1 : (0 : Int) ≤ (i : Int) := by omega
      have c2 : (i : Int) < (ys.length : Int) := by omega
      rw [law26_DeltaForms.j3, if_pos c1, if_pos c2, hr, r1, r2]
      simp only [Option.bind_some, if_true]
      unfold ref26_Same.f
      rw [if_pos rfl]
      simp only [Option.bind_some, if_true]
      rw [wrap_succ i (by omega)]
      exact IH
    rw [law26_DeltaForms.l0, if_pos (by omega), J, J]
    split <;> rfl
theorem forms_j0 (a0 n : Int) {raw c : List Int} (hr : byteB raw = true) (hrl : raw.length ≤ 140737488351232) (hc : byteB c = true) (hcl : c.length ≤ 2000000) (L : List Int) (p : Int) (hp : 0 ≤ p) (hp2 : p ≤ 100000) (K : Nat) (hK : 50000 < K) : law26_DeltaForms.j0 K a0 raw n c false L p = some true := by
  obtain ⟨k, rfl⟩ : ∃ m, K = m + 2 := ⟨K - 2, by omega⟩
  rw [law26_DeltaForms.j0, if_neg Bool.false_ne_true, if_pos (by simp only [List.length_nil]; omega)]
  simp only [Option.bind_some, List.nil_append, List.length_nil, Nat.zero_add]
  obtain ⟨r, er, r0, r1, _⟩ := next_ok L p 3 hp (by omega) (by omega)
  have r1 := r1 (by omega)
  rw [er]
  simp only [Option.bind_some]
  rw [if_pos (by omega)]
  have h3 : ∀ y ∈ ([raw, c, c ++ [r % 256]] : List (List Int)), byteB y = true ∧ y.length < 140737488355328 := by
    intro y hy
    simp only [List.mem_cons, List.not_mem_nil, or_false] at hy
    rcases hy with rfl | rfl | rfl
    · exact ⟨hr, by omega⟩
    · exact ⟨hc, by omega⟩
    · refine ⟨byteB_append hc (byteB_iff2.2 (fun x hx => ?_)), by simp only [List.length_append, List.length_singleton]; omega⟩
      simp only [List.mem_singleton] at hx
      subst hx
      omega
  by_cases hpos : (c.length : Int) > 0
  · rw [if_pos hpos]
    obtain ⟨i, ei, i0, i1, i2⟩ := next_ok L (p + 1) (c.length : Int) (by omega) (by omega) (by omega)
    have il : i < (c.length : Int) := by
      by_cases h : 1 < (c.length : Int)
      · exact i1 h
      · have := i2 (by omega); omega
    rw [ei]
    simp only [Option.bind_some]
    rw [if_pos i0, if_pos il]
    obtain ⟨s, es, s0, s1, _⟩ := next_ok L (p + 1 + 1) 8 (by omega) (by omega) (by omega)
    have s1 := s1 (by omega)
    rw [es]
    simp only [Option.bind_some]
    rw [if_pos s0]
    obtain ⟨m, em, m0, m1, m2⟩ := next_ok L (p + 1 + 1 + 1) (c.length : Int) (by omega) (by omega) (by omega)
    have ml : m ≤ (c.length : Int) := by
      by_cases h : 1 < (c.length : Int)
      · have := m1 h; omega
      · have := m2 (by omega); omega
    rw [em]
    simp only [Option.bind_some]
    have tl : (c.take m.toNat).length < 140737488355328 := by rw [List.length_take]; omega
    rw [if_pos m0, if_pos ml, if_pos tl, if_pos (by simp)]
    rw [law26_DeltaForms.j1]
    have hi : i.toNat < c.length := by omega
    have hrd : 0 ≤ rd c i ∧ rd c i < 256 := by
      have := byteB_rd hc i.toNat
      rw [show ((i.toNat : Nat) : Int) = i by omega] at this
      exact this
    refine forms_l0 a0 n (fun y hy => ?_) (by simp) 5 0 k (by simp) (by omega)
    rcases List.mem_append.1 hy with hy | hy
    · exact h3 y hy
    · simp only [List.mem_cons, List.not_mem_nil, or_false] at hy
      rcases hy with rfl | rfl
      · refine ⟨byteB_iff2.2 (fun x hx => ?_), by rw [List.length_set]; omega⟩
        rcases List.mem_or_eq_of_mem_set hx with hx | rfl
        · exact byteB_iff2.1 hc x hx
        · exact xor_byte hrd.1 hrd.2 s0 s1
      · exact ⟨byteB_iff2.2 (fun x hx => byteB_iff2.1 hc x (List.mem_of_mem_take hx)), tl⟩
  · rw [if_neg hpos, law26_DeltaForms.j1]
    exact forms_l0 a0 n h3 (by simp) 3 0 k (by simp) (by omega)
theorem DeltaForms : law26_DeltaForms.Pure := by
  intro a0 l1 l2 h0 h1 h2 h3 h4 h5 h6
  obtain ⟨K, hK⟩ : ∃ K : Nat, K = 60000 := ⟨_, rfl⟩
  refine ⟨K, ?_⟩
  unfold law26_DeltaForms.f
  obtain ⟨n, e1, n0, n1, _⟩ := next_ok l2 0 20 (by omega) (by omega) (by omega)
  have n1 := n1 (by omega)
  rw [e1]
  simp only [Option.bind_some]
  obtain ⟨l, q, e2, q0, q1, ll, fl⟩ := faulty_ok l2 (0 + 1) n (by omega) (by omega) (by omega) (by omega) K (by omega)
  rw [e2]
  simp only [Option.bind_some]
  have oB := flt_opsB (by omega) fl
  have hby : ∀ o ∈ l, byB o.f2 = true := fun o ho => (fl o ho).2.2.2.2.2
  have hW : encW l ≤ 24 * l.length := by
    clear e2 oB hby
    induction l with
    | nil => simp [encW]
    | cons o l ih =>
      have e3 : encW (o :: l) = 20 + o.f2.length + encW l := by simp [encW]
      have := (fl o (by simp)).2.2.2.2.1
      have := ih (by simp only [List.length_cons] at ll; omega) (fun x hx => fl x (by simp [hx]))
      rw [e3, List.length_cons]
      omega
  have hS : costSum l = encW l := rfl
  have hraw := byteB_of h3
  rw [encode_eq oB K (by omega)]
  simp only [Option.bind_some]
  have hE : ref26_Encode.f K n l = some (encS n l) := by
    unfold ref26_Encode.f encS
    rw [refCheck_eq n oB K (by omega)]
    simp only [Option.bind_some]
    by_cases h : (checkS n l).2 = 0
    · rw [if_pos h, if_pos h]
      obtain ⟨z1, z2, z3, z4, z5, z6, z7, z8⟩ := checkS_ok (base := n) (l := l) (r := (checkS n l).1) (by rw [← h])
      rw [refBytes_eq oB (good_costB z4) (by omega) (by omega) K (by omega)]
      rfl
    · rw [if_neg h, if_neg h]
  rw [hE]
  simp only [Option.bind_some, law26_known.f, if_true]
  unfold encS
  by_cases h : (checkS n l).2 = 0
  · rw [if_pos h]
    obtain ⟨z1, z2, z3, z4, z5, z6, z7, z8⟩ := checkS_ok (base := n) (l := l) (r := (checkS n l).1) (by rw [← h])
    simp only [if_true]
    rw [cost_eq oB (by omega), if_pos (good_costB z4)]
    simp only [Option.bind_some, bne_self_eq_false]
    have hlen : (encOps l).length ≤ 10 + (8 * l.length + totS l) := by
      have := encOps_len z2 z4 (fun o ho => by have := opLen_le_size z4 o ho; omega)
      have := encU_len10 (v := l.length) (by omega)
      unfold encOps
      rw [List.length_append]
      omega
    exact forms_j0 a0 n hraw (by omega) (enc_byteB hby) (by omega) l2 q (by omega) (by omega) K (by omega)
  · rw [if_neg h]
    simp only [if_neg h]
    exact forms_j0 a0 n hraw (by omega) (by rfl) (by simp) l2 q (by omega) (by omega) K (by omega)
end Go.Proofs.Ytjckjcekapkkjaa.Pure
