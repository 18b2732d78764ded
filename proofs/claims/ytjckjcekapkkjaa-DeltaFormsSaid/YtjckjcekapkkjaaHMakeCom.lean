/- delta.common is lcp. -/
import Derived.Test.YtjckjcekapkkjaaPx0
import Derived.Test.YtjckjcekapkkjaaPx1
import Derived.Test.YtjckjcekapkkjaaHMakeLaw
import Derived.Test.YtjckjcekapkkjaaHOps
namespace Go.Proofs.Ytjckjcekapkkjaa.P
open Go.RowKit Go.Proofs.YtjckjcekapkkjaaW.PrintWords Go.Proofs.YtjckjcekapkkjaaW.PrintLast Go.Proofs.YtjckjcekapkkjaaW.PrintMore
set_option linter.unusedVariables false
set_option linter.unusedSimpArgs false

theorem lcp_step (x y : List Int) (i : Nat) : lcp (x.drop i) (y.drop i) = if h : i < x.length ∧ i < y.length ∧ x[i]?.getD 0 = y[i]?.getD 0 then lcp (x.drop (i + 1)) (y.drop (i + 1)) + 1 else 0 := by
  by_cases h1 : i < x.length
  · by_cases h2 : i < y.length
    · rw [List.drop_eq_getElem_cons h1, List.drop_eq_getElem_cons h2, lcp]
      simp [h1, h2]
    · rw [dif_neg (fun h => h2 h.2.1), List.drop_of_length_le (by omega : y.length ≤ i)]
      cases x.drop i <;> rfl
  · rw [dif_neg (fun h => h1 h.1), List.drop_of_length_le (by omega : x.length ≤ i)]
    rfl
theorem common_l0 (x y : List Int) (hb : x.length < 4000000000) : ∀ (n i : Nat), x.length + 1 ≤ n + i → i ≤ x.length → delta_common.l0 n x y (i : Int) = some ((i + lcp (x.drop i) (y.drop i) : Nat) : Int)
  | 0, i, h, h2 => by omega
  | n + 1, i, h, h2 => by
    rw [delta_common.l0, lcp_step]
    have hx : rd x (i : Int) = x[i]?.getD 0 := by simp [rd, rdOf]
    have hy : rd y (i : Int) = y[i]?.getD 0 := by simp [rd, rdOf]
    by_cases h3 : i < x.length
    · rw [if_pos (by omega)]
      by_cases h4 : i < y.length
      · rw [if_pos (by omega), if_pos (by omega), hx, hy]
        by_cases h5 : x[i]?.getD 0 = y[i]?.getD 0
        · rw [if_pos h5, dif_pos ⟨h3, h4, h5⟩]
          have hw : wrap64 ((i : Int) + 1) = ((i + 1 : Nat) : Int) := by unfold wrap64; omega
          rw [hw, common_l0 x y hb n (i + 1) (by omega) (by omega)]
          congr 2; omega
        · rw [if_neg h5, dif_neg (fun h => h5 h.2.2)]; rfl
      · rw [if_neg (by omega), dif_neg (fun h => h4 h.2.1)]; rfl
    · rw [if_neg (by omega), dif_neg (fun h => h3 h.1)]; rfl
theorem common_lcp (x y : List Int) (hb : x.length < 4000000000) : delta_common.f (x.length + 1) x y = some (lcp x y : Int) := by
  have := common_l0 x y hb (x.length + 1) 0 (by omega) (by omega)
  simpa [delta_common.f] using this
theorem common_at (ad0 ad1 : Addr) (l0 l1 : List Int) (c0 c1 i j nn : Nat) (w : World) (h0 : Kd.C (Kd.int .u8) w (some ad0) l0.length l0) (h1 : Kd.C (Kd.int .u8) w (some ad1) l1.length l1) (hc0 : l0.length ≤ c0) (hc1 : l1.length ≤ c1) (hi : i < l0.length) (hj : j < l1.length) (hb : l0.length ≤ 2048) (hn : lcp (l0.drop i) (l1.drop j) = nn) :
    Calls Try.prog 42 #[.slice (some (ad0.add i)) (l0.length - i) (c0 - i), .slice (some (ad1.add j)) (l1.length - j) (c1 - j)] w fun e w' => e = .returned (.int .i64 (nn : Int)) ∧ Drawn0 w w' := by
  have := delta_common.calls ((l0.drop i).length + 1) (some (ad0.add i)) (c0 - i) (l0.drop i) (some (ad1.add j)) (c1 - j) (l1.drop j) (nn : Int) w (C_from h0 (by omega) hc0 (by omega)) (by rw [List.length_drop]; omega) (C_from h1 (by omega) hc1 (by omega)) (by rw [List.length_drop]; omega) (by rw [common_lcp _ _ (by rw [List.length_drop]; omega), hn])
  rwa [List.length_drop, List.length_drop] at this
end Go.Proofs.Ytjckjcekapkkjaa.P
