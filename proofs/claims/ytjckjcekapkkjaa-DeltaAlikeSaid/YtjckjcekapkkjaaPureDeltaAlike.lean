/- The pure statement of DeltaAlike: a string of at least MinMatch bytes is made of itself by one copy, and a string without a byte of the base is one literal. -/
import Derived.Test.YtjckjcekapkkjaaPx0
import Derived.Test.YtjckjcekapkkjaaPx16
import Derived.Test.YtjckjcekapkkjaaHEncode
import Derived.Test.YtjckjcekapkkjaaHFold
import Derived.Test.YtjckjcekapkkjaaHKnown
import Derived.Test.YtjckjcekapkkjaaHMakeLaw
import Derived.Test.YtjckjcekapkkjaaHOps
import Derived.Test.YtjckjcekapkkjaaHSame
namespace Go.Proofs.Ytjckjcekapkkjaa.Pure
open Go.RowKit Go.Proofs.Ytjckjcekapkkjaa.P Go.Proofs.YtjckjcekapkkjaaW.PrintWords Go.Proofs.YtjckjcekapkkjaaW.PrintLast
set_option linter.unusedVariables false

theorem and127 (x : Int) : 0 ≤ Go.bits .and .u8 x 127 ∧ Go.bits .and .u8 x 127 ≤ 127 := by
  unfold Go.bits
  simp only
  have h : (BitVec.ofInt IntKind.u8.bits x &&& BitVec.ofInt IntKind.u8.bits 127).toNat ≤ 127 := by
    rw [BitVec.toNat_and]
    exact Nat.le_trans Nat.and_le_right (by decide)
  generalize (BitVec.ofInt IntKind.u8.bits x &&& BitVec.ofInt IntKind.u8.bits 127).toNat = n at *
  simp [IntKind.wrap, IntKind.signed, IntKind.bits]
  omega
theorem match_none (t : List Int) : ∀ (a : List Int) (s b f : Nat), a.length ≤ b → matchS t a s b f = (b, f)
  | [], s, b, f, h => rfl
  | x :: a, s, b, f, h => by
    have := (lcp_le (x :: a) t).1
    simp only [List.length_cons] at h this
    rw [matchS, if_neg (by omega)]
    exact match_none t a (s + 1) b f (by omega)
theorem lcp_self : ∀ (a : List Int), lcp a a = a.length
  | [] => rfl
  | x :: a => by rw [lcp, if_pos rfl, lcp_self a]; rfl
theorem make_self (a : List Int) (h : 4 ≤ a.length) : makeS a a = [⟨0, (a.length : Int), []⟩] := by
  obtain ⟨x, t, rfl⟩ : ∃ x t, a = x :: t := by
    cases a with
    | nil => simp at h
    | cons x t => exact ⟨x, t, rfl⟩
  have hm : matchS (x :: t) (x :: t) 0 0 0 = ((x :: t).length, 0) := by
    rw [matchS, lcp_self, if_pos (by simp)]
    exact match_none _ t 1 _ 0 (by simp)
  unfold makeS
  obtain ⟨n, hn⟩ : ∃ n, (x :: t).length = n + 1 := ⟨t.length, rfl⟩
  rw [hn, makeGo]
  simp only [hm]
  rw [if_pos h, List.drop_length]
  cases n <;> simp [makeGo, addOp, ← hn]
theorem match_low (t : List Int) : ∀ (a : List Int) (s : Nat), (∀ x ∈ a, ∀ y ∈ t, x ≠ y) → matchS t a s 0 0 = (0, 0)
  | [], s, h => rfl
  | x :: a, s, h => by
    have e : lcp (x :: a) t = 0 := by
      cases t with
      | nil => rfl
      | cons y t => rw [lcp, if_neg (h x (by simp) y (by simp))]
    rw [matchS, e, if_neg (by omega)]
    exact match_low t a (s + 1) (fun x hx => h x (by simp [hx]))
theorem go_low (a : List Int) (h : ∀ x ∈ a, x ≠ 128) : ∀ (m k : Nat), 1 ≤ k → makeGo a m [⟨0, 0, List.replicate k 128⟩] (List.replicate m 128) = [⟨0, 0, List.replicate (k + m) 128⟩]
  | 0, k, hk => rfl
  | m + 1, k, hk => by
    rw [List.replicate_succ, makeGo, ← List.replicate_succ, match_low _ a 0 (fun x hx y hy => by rw [(List.mem_replicate.1 hy).2]; exact h x hx)]
    simp only
    rw [if_neg (by omega)]
    have e : addOp [⟨0, 0, List.replicate k 128⟩] ⟨0, 0, [128]⟩ = [⟨0, 0, List.replicate (k + 1) 128⟩] := by
      have h1 : opLt (⟨0, 0, List.replicate k 128⟩ : Dop) := ⟨rfl, rfl, by simp; omega⟩
      have h2 : opLt (⟨0, 0, [128]⟩ : Dop) := ⟨rfl, rfl, by simp⟩
      simp only [addOp, List.getLast?_singleton]
      rw [if_pos ⟨h1, h2⟩, List.replicate_succ']
      rfl
    rw [e, go_low a h m (k + 1) (by omega)]
    congr 3
    omega
theorem make_low (a : List Int) (h : ∀ x ∈ a, x ≠ 128) (m : Nat) (hm : 1 ≤ m) : makeS a (List.replicate m 128) = [⟨0, 0, List.replicate m 128⟩] := by
  obtain ⟨n, rfl⟩ : ∃ n, m = n + 1 := ⟨m - 1, by omega⟩
  unfold makeS
  rw [List.length_replicate, List.replicate_succ, makeGo, ← List.replicate_succ, match_low _ a 0 (fun x hx y hy => by rw [(List.mem_replicate.1 hy).2]; exact h x hx)]
  simp only
  rw [if_neg (by omega)]
  have := go_low a h n 1 (by omega)
  rw [show addOp [] ⟨0, 0, [128]⟩ = [⟨0, 0, List.replicate 1 128⟩] from rfl, this, Nat.add_comm]
theorem alike_l1 (x7 : List Int) (h7 : ∀ x ∈ x7, 0 ≤ x ∧ x ≤ 127) (hl : x7.length ≤ 2048) (m : Nat) (hm : 1 ≤ m) (hm2 : m ≤ 50) : ∀ (d i k : Nat), i + d = m → d < k → law26_DeltaAlike.l1 k x7 (List.replicate i 128 ++ List.replicate d 0) (i : Int) = some true
  | 0, i, k, hi, hk => by
    obtain ⟨k, rfl⟩ : ∃ q, k = q + 1 := ⟨k - 1, by omega⟩
    simp only [List.replicate_zero, List.append_nil]
    obtain rfl : i = m := by omega
    rw [law26_DeltaAlike.l1, if_neg (by simp)]
    rw [makef_ok (byB_iff.2 (fun x hx => by have := h7 x hx; omega)) (byB_iff.2 (fun x hx => by rw [(List.mem_replicate.1 hx).2]; omega)) hl (by simp; omega)]
    rw [make_low x7 (fun x hx => by have := h7 x hx; omega) i hm]
    simp only [Option.bind_some, if_true]
    unfold ref26_Same.f
    rw [if_pos rfl]
    rfl
  | d + 1, i, k, hi, hk => by
    obtain ⟨k, rfl⟩ : ∃ q, k = q + 1 := ⟨k - 1, by omega⟩
    rw [law26_DeltaAlike.l1, if_pos (by simp; omega), if_pos (by omega), wrap64_id (x := (i : Int) + 1) (by omega) (by omega)]
    have e : (List.replicate i (128 : Int) ++ List.replicate (d + 1) 0).set (i : Int).toNat 128 = List.replicate (i + 1) 128 ++ List.replicate d 0 := by
      rw [Int.toNat_natCast, List.set_append_right _ _ (by simp), List.length_replicate, Nat.sub_self, List.replicate_succ (n := d), List.set_cons_zero, List.replicate_succ' (n := i), List.append_assoc]
      rfl
    rw [e]
    exact alike_l1 x7 h7 hl m hm hm2 d (i + 1) k (by omega) (by omega)
theorem alike_l0 (x0 : List Int) (hl : x0.length ≤ 2048) (m : Nat) (hm : 1 ≤ m) (hm2 : m ≤ 50) : ∀ (d i k : Nat) (x7 : List Int), i + d = x0.length → d + 60 < k → x7.length = x0.length → (∀ x ∈ x7, 0 ≤ x ∧ x ≤ 127) → law26_DeltaAlike.l0 k x0 x7 (List.replicate m 0) (i : Int) = some true
  | 0, i, k, x7, hi, hk, h7, h8 => by
    obtain ⟨k, rfl⟩ : ∃ q, k = q + 1 := ⟨k - 1, by omega⟩
    rw [law26_DeltaAlike.l0, if_neg (by omega)]
    have := alike_l1 x7 h8 (by omega) m hm hm2 m 0 k (by omega) (by omega)
    simpa using this
  | d + 1, i, k, x7, hi, hk, h7, h8 => by
    obtain ⟨k, rfl⟩ : ∃ q, k = q + 1 := ⟨k - 1, by omega⟩
    rw [law26_DeltaAlike.l0, if_pos (by omega), if_pos (by omega), if_pos (by omega), wrap64_id (x := (i : Int) + 1) (by omega) (by omega)]
    refine alike_l0 x0 hl m hm hm2 d (i + 1) k _ (by omega) (by omega) (by rw [List.length_set]; exact h7) (fun x hx => ?_)
    rcases List.mem_or_eq_of_mem_set hx with hx | rfl
    · exact h8 x hx
    · exact and127 _
theorem DeltaAlike : law26_DeltaAlike.Pure := by
  intro l0 a1 h0 h1 h2 h3
  have hB := byB_of h2
  refine ⟨4000, ?_⟩
  unfold law26_DeltaAlike.f
  by_cases hl : (l0.length : Int) > 2048
  · rw [if_pos hl]
  · rw [if_neg hl, makef_ok hB hB (by omega) (by omega)]
    simp only [Option.bind_some, law26_known.f, if_true]
    have hj : law26_DeltaAlike.j0 4000 l0 a1 false = some true := by
      obtain ⟨r, hr, r0, r1, _⟩ := fold_ok a1 50 (wf64 h3) (by omega)
      have r1 := r1 (by omega)
      rw [law26_DeltaAlike.j0, if_neg (by simp), if_pos (by omega), if_pos (by omega), hr]
      simp only [Option.bind_some]
      rw [wrap64_id (x := 1 + r) (by omega) (by omega), if_pos (by omega), if_pos (by omega), Int.toNat_natCast]
      have := alike_l0 l0 (by omega) (1 + r).toNat (by omega) (by omega) l0.length 0 3999 (List.replicate l0.length 0) (by omega) (by omega) (by simp) (fun x hx => by rw [(List.mem_replicate.1 hx).2]; omega)
      exact this
    by_cases h4 : (l0.length : Int) ≥ 4
    · rw [if_pos h4, make_self l0 (by omega)]
      unfold ref26_Same.f
      rw [if_pos rfl]
      exact hj
    · rw [if_neg h4]
      exact hj
end Go.Proofs.Ytjckjcekapkkjaa.Pure
