/- The reference's match is matchS, its Make is makeS. -/
import Derived.Test.YtjckjcekapkkjaaPx0
import Derived.Test.YtjckjcekapkkjaaPx2
import Derived.Test.YtjckjcekapkkjaaPx4
import Derived.Test.YtjckjcekapkkjaaHAtoms
import Derived.Test.YtjckjcekapkkjaaHEncode
import Derived.Test.YtjckjcekapkkjaaHMakeLaw
import Derived.Test.YtjckjcekapkkjaaHMakeOk
import Derived.Test.YtjckjcekapkkjaaHOps
import Derived.Test.YtjckjcekapkkjaaHRefAdd
import Derived.Test.YtjckjcekapkkjaaHWrAdd
namespace Go.Proofs.Ytjckjcekapkkjaa.P
open Go.RowKit Go.Proofs.YtjckjcekapkkjaaW.PrintWords Go.Proofs.YtjckjcekapkkjaaW.PrintLast Go.Proofs.YtjckjcekapkkjaaW.PrintMore
set_option linter.unusedVariables false
set_option linter.unusedSimpArgs false

theorem rd_nat (l : List Int) (n : Nat) : rd l (n : Int) = l[n]?.getD 0 := by simp [rd, rdOf]
theorem lcp_at (x y : List Int) (i j : Nat) : lcp (x.drop i) (y.drop j) = if h : i < x.length ∧ j < y.length ∧ x[i]?.getD 0 = y[j]?.getD 0 then lcp (x.drop (i + 1)) (y.drop (j + 1)) + 1 else 0 := by
  by_cases h1 : i < x.length
  · by_cases h2 : j < y.length
    · rw [List.drop_eq_getElem_cons h1, List.drop_eq_getElem_cons h2, lcp]
      simp [h1, h2]
    · rw [dif_neg (fun h => h2 h.2.1), List.drop_of_length_le (by omega : y.length ≤ j)]
      cases x.drop i <;> rfl
  · rw [dif_neg (fun h => h1 h.1), List.drop_of_length_le (by omega : x.length ≤ i)]
    rfl
theorem match_l1 (a t : List Int) (ha : a.length ≤ 2048) (ht : t.length ≤ 2048) (p s : Nat) (hs : s ≤ a.length) (hp : p ≤ t.length) (b f : Int) (k : Nat) (d : Nat) : ∀ (j : Nat), lcp (a.drop (s + j)) (t.drop (p + j)) = d → j + d ≤ 4096 →
    ref26_match.l1 (k + d + 1) a t (p : Int) b f (s : Int) (j : Int) = if ((j + d : Nat) : Int) > b then ref26_match.l0 k a t (p : Int) ((j + d : Nat) : Int) (s : Int) ((s + 1 : Nat) : Int) else ref26_match.l0 k a t (p : Int) b f ((s + 1 : Nat) : Int) := by
  induction d with
  | zero =>
    intro j hd hj
    have e1 : wrap64 ((s : Int) + (j : Int)) = ((s + j : Nat) : Int) := by rw [wrap64_id (by omega) (by omega)]; omega
    have e2 : wrap64 ((p : Int) + (j : Int)) = ((p + j : Nat) : Int) := by rw [wrap64_id (by omega) (by omega)]; omega
    have e3 : wrap64 ((s : Int) + 1) = ((s + 1 : Nat) : Int) := wrap64_id (by omega) (by omega)
    rw [ref26_match.l1, e1, e2, e3]
    simp only [Nat.add_zero]
    rw [lcp_at] at hd
    have r1 : rd a ((s + j : Nat) : Int) = a[s + j]?.getD 0 := rd_nat a (s + j)
    have r2 : rd t ((p + j : Nat) : Int) = t[p + j]?.getD 0 := rd_nat t (p + j)
    by_cases h1 : s + j < a.length
    · rw [if_pos (by omega)]
      by_cases h2 : p + j < t.length
      · rw [if_pos (by omega), if_pos (by omega), if_pos (by omega), r1, r2]
        by_cases h3 : a[s + j]?.getD 0 = t[p + j]?.getD 0
        · rw [dif_pos ⟨h1, h2, h3⟩] at hd
          omega
        · rw [if_neg h3]
      · rw [if_neg (by omega)]
    · rw [if_neg (by omega)]
  | succ d ih =>
    intro j hd hj
    have e1 : wrap64 ((s : Int) + (j : Int)) = ((s + j : Nat) : Int) := by rw [wrap64_id (by omega) (by omega)]; omega
    have e2 : wrap64 ((p : Int) + (j : Int)) = ((p + j : Nat) : Int) := by rw [wrap64_id (by omega) (by omega)]; omega
    have e4 : wrap64 ((j : Int) + 1) = ((j + 1 : Nat) : Int) := wrap64_id (by omega) (by omega)
    have r1 : rd a ((s + j : Nat) : Int) = a[s + j]?.getD 0 := rd_nat a (s + j)
    have r2 : rd t ((p + j : Nat) : Int) = t[p + j]?.getD 0 := rd_nat t (p + j)
    rw [lcp_at] at hd
    by_cases h : s + j < a.length ∧ p + j < t.length ∧ a[s + j]?.getD 0 = t[p + j]?.getD 0
    · rw [dif_pos h] at hd
      obtain ⟨h1, h2, h3⟩ := h
      have IH := ih (j + 1) (by rw [show s + (j + 1) = s + j + 1 by omega, show p + (j + 1) = p + j + 1 by omega]; omega) (by omega)
      rw [ref26_match.l1, e1, e2, e4, if_pos (by omega), if_pos (by omega), if_pos (by omega), if_pos (by omega), r1, r2, if_pos h3, show k + (d + 1) = k + d + 1 by omega, IH, show j + 1 + d = j + (d + 1) by omega]
    · rw [dif_neg h] at hd
      omega
theorem match_l0 (a t : List Int) (ha : a.length ≤ 2048) (ht : t.length ≤ 2048) (p : Nat) (hp : p ≤ t.length) (M : Nat) (hM : 2060 ≤ M) : ∀ (d s k b f : Nat), s + d = a.length → d * M < k →
    ref26_match.l0 k a t (p : Int) (b : Int) (f : Int) (s : Int) = some (((matchS (t.drop p) (a.drop s) s b f).1 : Int), ((matchS (t.drop p) (a.drop s) s b f).2 : Int))
  | 0, s, k, b, f, h1, h2 => by
    obtain ⟨k, rfl⟩ : ∃ m, k = m + 1 := ⟨k - 1, by omega⟩
    rw [ref26_match.l0, if_neg (by omega), List.drop_of_length_le (show a.length ≤ s by omega)]
    rfl
  | d + 1, s, k, b, f, h1, h2 => by
    have hs : s < a.length := by omega
    rw [Nat.succ_mul] at h2
    obtain ⟨L, hL⟩ : ∃ L, lcp (a.drop s) (t.drop p) = L := ⟨_, rfl⟩
    have hb := (lcp_len (a.drop s) (t.drop p)).1
    rw [hL, List.length_drop] at hb
    obtain ⟨k, rfl⟩ : ∃ m, k = m + L + 1 + 1 := ⟨k - L - 2, by omega⟩
    rw [ref26_match.l0, if_pos (by omega)]
    have h := match_l1 a t ha ht p s (by omega) hp (b : Int) (f : Int) k L 0 (by simpa using hL) (by omega)
    rw [show ((0 : Nat) : Int) = 0 from rfl] at h
    rw [h, Nat.zero_add]
    have e := List.drop_eq_getElem_cons hs
    rw [e, matchS, ← e, hL]
    by_cases hg : L > b
    · rw [if_pos (by omega), if_pos hg]
      exact match_l0 a t ha ht p hp M hM d (s + 1) k L s (by omega) (by omega)
    · rw [if_neg (by omega), if_neg hg]
      exact match_l0 a t ha ht p hp M hM d (s + 1) k b f (by omega) (by omega)
theorem match_eq (a t : List Int) (ha : a.length ≤ 2048) (ht : t.length ≤ 2048) (p : Nat) (hp : p ≤ t.length) (k : Nat) (hk : 5000000 ≤ k) : ref26_match.f k a t (p : Int) = some (((matchS (t.drop p) a 0 0 0).1 : Int), ((matchS (t.drop p) a 0 0 0).2 : Int)) := by
  have hm : a.length * 2060 < k := Nat.lt_of_le_of_lt (Nat.mul_le_mul_right 2060 ha) (by omega)
  have := match_l0 a t ha ht p hp 2060 (Nat.le_refl _) a.length 0 k 0 0 (by omega) hm
  exact this
theorem refMake_l0 (a t : List Int) (ha : a.length ≤ 2048) (ht : t.length ≤ 2048) : ∀ (r p k : Nat) (out : List Dop), t.length ≤ p + r → p ≤ t.length → 5000010 + r ≤ k → MakeOk a out → out.length ≤ p → totS out ≤ p →
    ref26_Make.l0 k a t out (p : Int) = some (makeGo a r out (t.drop p), 0)
  | 0, p, k, out, h1, h2, h3, h4, h5, h6 => by
    obtain ⟨k, rfl⟩ : ∃ m, k = m + 1 := ⟨k - 1, by omega⟩
    rw [ref26_Make.l0, if_neg (by omega)]
    rfl
  | r + 1, p, k, out, h1, h2, h3, h4, h5, h6 => by
    obtain ⟨k, rfl⟩ : ∃ m, k = m + 1 := ⟨k - 1, by omega⟩
    by_cases hp : p < t.length
    · have hk := goodOps.ok h4.good
      have hs := match_spec a (t.drop p)
      obtain ⟨b, f, hm⟩ : ∃ b f, matchS (t.drop p) a 0 0 0 = (b, f) := ⟨_, _, rfl⟩
      rw [ref26_Make.l0, if_pos (by omega), match_eq a t ha ht p h2 k (by omega), hm]
      rw [hm] at hs
      obtain ⟨m1, m2, m3⟩ := hs
      simp only [List.length_drop] at m1 m2 m3
      simp only [Option.bind_some]
      by_cases h : 4 ≤ b
      · have hgo : goodOp (a.length : Int) ⟨(f : Int), (b : Int), []⟩ := .inl ⟨⟨by show (1 : Int) ≤ (b : Int); omega, rfl⟩, by show (0 : Int) ≤ (f : Int); omega, by show (f : Int) + (b : Int) ≤ _; omega⟩
        have ha1 := add_eq (o := ⟨(f : Int), (b : Int), []⟩) (by omega) h4.good hgo (by omega) (by omega) (by simp) k (by omega)
        simp only at ha1
        rw [if_pos (by omega), ha1]
        simp only [Option.bind_some]
        have a1 := addOp_len out ⟨(f : Int), (b : Int), []⟩
        have a2 := addOp_tot hk (good_kind hgo)
        simp only [List.length_nil] at a2
        rw [make_copy hp hm h, wrap64_id (x := (p : Int) + (b : Int)) (by omega) (by omega), show (p : Int) + (b : Int) = ((p + b : Nat) : Int) by omega]
        exact refMake_l0 a t ha ht r (p + b) k _ (by omega) (by omega) (by omega) ⟨goodOps_add h4.good hgo, addOp_nrm hk h4.norm (good_kind hgo)⟩ (by omega) (by omega)
      · have hgo : goodOp (a.length : Int) ⟨0, 0, [t[p]]⟩ := .inr ⟨rfl, rfl, by simp⟩
        have ha1 := add_eq (o := ⟨0, 0, [t[p]]⟩) (by omega) h4.good hgo (by omega) (by omega) (by simp) k (by omega)
        simp only at ha1
        have e : (t.take ((p + 1 : Nat) : Int).toNat).drop (p : Int).toNat = [t[p]] := by
          rw [Int.toNat_natCast, Int.toNat_natCast, List.drop_take, show p + 1 - p = 1 by omega, List.drop_eq_getElem_cons hp]; rfl
        rw [if_neg (by omega), wrap64_id (x := (p : Int) + 1) (by omega) (by omega), show (p : Int) + 1 = ((p + 1 : Nat) : Int) by omega, if_pos (by omega), if_pos (by omega), if_pos (by omega), e, ha1]
        simp only [Option.bind_some]
        have a1 := addOp_len out ⟨0, 0, [t[p]]⟩
        have a2 := addOp_tot hk (good_kind hgo)
        simp only [List.length_singleton] at a2
        rw [make_lit hp (by rw [hm]; show b < 4; omega)]
        exact refMake_l0 a t ha ht r (p + 1) k _ (by omega) (by omega) (by omega) ⟨goodOps_add h4.good hgo, addOp_nrm hk h4.norm (good_kind hgo)⟩ (by omega) (by omega)
    · rw [ref26_Make.l0, if_neg (by omega), List.drop_of_length_le (by omega)]
      rfl
theorem refMake_eq (a t : List Int) (ha : a.length ≤ 2048) (ht : t.length ≤ 2048) (k : Nat) (hk : 6000000 ≤ k) : ref26_Make.f k a t = some (makeS a t, 0) := by
  obtain ⟨k, rfl⟩ : ∃ m, k = m + 1 := ⟨k - 1, by omega⟩
  unfold ref26_Make.f
  rw [if_neg (by omega), ref26_Make.j0, if_neg (by simp; omega)]
  have := refMake_l0 a t ha ht t.length 0 k [] (by omega) (by omega) (by omega) ⟨(fun x hx => by cases hx), trivial⟩ (by simp) (by simp [totS])
  exact this
end Go.Proofs.Ytjckjcekapkkjaa.P
