/- What the tape's methods answer: numbers in bounds, bytes. -/
import Derived.Test.YtjckjcekapkkjaaPx0
import Derived.Test.YtjckjcekapkkjaaPx1
import Derived.Test.YtjckjcekapkkjaaPx3
import Derived.Test.YtjckjcekapkkjaaHMakeOk
import Derived.Test.YtjckjcekapkkjaaHEncode
import Derived.Test.YtjckjcekapkkjaaHMap
import Derived.Test.YtjckjcekapkkjaaHMake
namespace Go.Proofs.Ytjckjcekapkkjaa.P
open Go.RowKit Go.Proofs.YtjckjcekapkkjaaW.PrintWords Go.Proofs.YtjckjcekapkkjaaW.PrintLast Go.Proofs.YtjckjcekapkkjaaW.PrintMore
set_option linter.unusedVariables false
set_option linter.unusedSimpArgs false

theorem next_ok (L : List Int) (p n : Int) (h0 : 0 ≤ p) (h1 : p < 1000000000000) (hn : n ≤ 4611686018427387904) : ∃ r, make_Tape_Next.f L p n = some (r, p + 1) ∧ 0 ≤ r ∧ (1 < n → r < n) ∧ (n ≤ 1 → r = 0) := by
  unfold make_Tape_Next.f
  rw [wrap64_id (x := p + 1) (by omega) (by omega)]
  by_cases h : p < (L.length : Int)
  · rw [if_pos h, if_pos h0]
    obtain ⟨r, e, q⟩ := fold_any (rd L p) n hn
    rw [e]
    exact ⟨r, rfl, q⟩
  · rw [if_neg h]
    obtain ⟨r, e, q⟩ := fold_any (Int.tmod (wrap64 (p * 7)) 11) n hn
    rw [e]
    exact ⟨r, rfl, q⟩
theorem bytes_l0 (L : List Int) (n c : Int) (hn : n ≤ 1000000) (hc : c ≤ 256) : ∀ (d : Nat) (i k : Nat) (p : Int) (x : List Int), n ≤ i + d → i ≤ n → d < k → 0 ≤ p → p + n ≤ 900000000000 + i → x.length = i → byB x = true →
    ∃ bs, make_Tape_Bytes.l0 k n c x (i : Int) L p = some (bs, p + (n - i)) ∧ (bs.length : Int) = n ∧ byB bs = true
  | 0, i, k, p, x, h1, h2, h3, h4, h5, h6, h7 => by
    obtain ⟨k, rfl⟩ : ∃ q, k = q + 1 := ⟨k - 1, by omega⟩
    rw [make_Tape_Bytes.l0, if_neg (by omega)]
    exact ⟨x, by rw [show p + (n - i) = p by omega], by omega, h7⟩
  | d + 1, i, k, p, x, h1, h2, h3, h4, h5, h6, h7 => by
    obtain ⟨k, rfl⟩ : ∃ q, k = q + 1 := ⟨k - 1, by omega⟩
    rw [make_Tape_Bytes.l0]
    by_cases h : (i : Int) < n
    · obtain ⟨r, e, r0, r1, _⟩ := next_ok L p c h4 (by omega) (by omega)
      rw [if_pos h, e]
      simp only [Option.bind_some]
      rw [if_pos (by omega), wrap64_id (x := (i : Int) + 1) (by omega) (by omega)]
      obtain ⟨bs, e2, q1, q2⟩ := bytes_l0 L n c hn hc d (i + 1) k (p + 1) (x ++ [r % 256]) (by omega) (by omega) (by omega) (by omega) (by omega) (by simp; omega) (byB_app h7 (byB_iff.2 (fun y hy => by rw [List.mem_singleton.1 hy]; omega)))
      refine ⟨bs, ?_, q1, q2⟩
      rw [show ((i : Int) + 1) = ((i + 1 : Nat) : Int) by omega, e2]
      congr 2
      omega
    · rw [if_neg h]
      exact ⟨x, by rw [show p + (n - i) = p by omega], by omega, h7⟩
theorem bytes_ok (L : List Int) (p n c : Int) (h0 : 0 ≤ n) (hn : n ≤ 1000000) (hc : c ≤ 256) (hp : 0 ≤ p) (hp2 : p ≤ 800000000000) (k : Nat) (hk : n.toNat < k) : ∃ bs, make_Tape_Bytes.f k L p n c = some (bs, p + n) ∧ (bs.length : Int) = n ∧ byB bs = true := by
  unfold make_Tape_Bytes.f
  have hm : mx n 0 = n := by unfold mx; split <;> omega
  rw [hm, if_pos h0, if_pos (by omega)]
  obtain ⟨bs, e, q⟩ := bytes_l0 L n c hn hc n.toNat 0 k p [] (by omega) (by omega) hk hp (by omega) rfl rfl
  rw [show ((0 : Nat) : Int) = 0 from rfl] at e
  rw [e]
  exact ⟨bs, by simp, q⟩
end Go.Proofs.Ytjckjcekapkkjaa.P
