/- The contract of the statement CodecSigns: it returns true. -/
-- HAND stockyard/stockyardlaw01.CodecSigns
import Derived.Test.YtnaamckkepdkkaaPx0
import Derived.Test.YtnaamckkepdkkaaPx1
import Derived.Test.YtnaamckkepdkkaaPx4
import Derived.Test.YtnaamckkepdkkaaPx5
import Derived.Test.YtnaamckkepdkkaaPx16
import Derived.Test.YtnaamckkepdkkaaHMathI
import Derived.Test.YtnaamckkepdkkaaHMathU
import Derived.Test.YtnaamckkepdkkaaHPutUint
import Derived.Test.YtnaamckkepdkkaaHUint
import Derived.Lib.Hide
import Derived.Outline
import Derived.Deep.DeepMust
namespace Go.Proofs.Ytnaamckkepdkkaa.P
open Go.RowKit Go.Proofs.YtnaamckkepdkkaaW.PrintWords Go.Proofs.YtnaamckkepdkkaaW.PrintLast Go.Proofs.YtnaamckkepdkkaaW.PrintMore
set_option linter.unusedVariables false
set_option linter.unusedSimpArgs false

def stockyardlaw01_CodecSigns.f (a0 a1 : Int) : Option Bool := if (Lit.int .i64 a0).wf = true ∧ (Lit.int .u64 a1).wf = true then some true else none

theorem C_nil {α : Type} (d : Kd α) (w : World) : Kd.C d w none ([] : List α).length [] := ⟨rfl, by simp, fun h => by simp at h⟩
theorem sg_halves {n : Int} (h : -9223372036854775808 ≤ n ∧ n ≤ 9223372036854775807) :
    (((foldN n : Nat) : Int) / 2 != ((foldN (-1 - n) : Nat) : Int) / 2) = false ∧ (((foldN n : Nat) : Int) == ((foldN (-1 - n) : Nat) : Int)) = false ∧
    (((foldN n : Nat) : Int) % 2 == 0) = decide (0 ≤ n) := by
  unfold foldN
  refine ⟨?_, ?_, ?_⟩
  · simp; split <;> split <;> omega
  · simp; split <;> split <;> omega
  · rw [Bool.eq_iff_iff]; simp; split <;> omega

set_option maxHeartbeats 2000000 in
theorem stockyardlaw01_CodecSigns.calls (a0 a1 : Int) (r : Bool) (w : World) (h : stockyardlaw01_CodecSigns.f a0 a1 = some r) :
    Calls Try.prog 9 #[.int .i64 a0, .int .u64 a1] w fun e w' => e = .returned (.bool r) ∧ Below w.heap.size w w' := by
  unfold stockyardlaw01_CodecSigns.f at h
  by_cases hg : (Lit.int .i64 a0).wf = true ∧ (Lit.int .u64 a1).wf = true
  case neg => rw [if_neg hg] at h; cases h
  rw [if_pos hg] at h
  obtain rfl := Option.some.inj h
  have hn := wf_i64b hg.1
  have hv := wf_u64b hg.2
  clear h hg
  obtain ⟨v, rfl⟩ := Int.eq_ofNat_of_zero_le hv.1
  have hv' : v < 2 ^ 64 := by omega
  have hn2 : -9223372036854775808 ≤ -1 - a0 ∧ -1 - a0 ≤ 9223372036854775807 := by omega
  obtain ⟨b1, b2, b3⟩ := sg_halves hn
  have HP1 := Lib.hid (putI (l := []) (by decide) hn)
  have HP2 := Lib.hid (putI (l := []) (by decide) hn2)
  have HP3 := Lib.hid (putU (l := []) (by decide) hv')
  have HP4 := Lib.hid (putI (l := []) (by decide) (unfoldN_range hv'))
  rw [fold_unfold] at HP4
  have HU1 := Lib.hid (takeU_at (l := []) (rest := []) rfl rfl (foldN_lt hn))
  have HU2 := Lib.hid (takeU_at (l := []) (rest := []) rfl rfl (foldN_lt hn2))
  have HI := Lib.hid (intU (takeU_at (l := []) (rest := []) rfl rfl hv') hv')
  simp only [List.nil_append, List.append_nil, List.length_nil, Int.natCast_zero, Int.zero_add] at HP1 HP2 HP3 HP4 HU1 HU2 HI
  have q1 := encU_pos (foldN a0)
  have q2 := encU_pos (foldN (-1 - a0))
  have q3 := encU_pos v
  have g1 := encU_len10 (foldN_lt hn)
  have g2 := encU_len10 (foldN_lt hn2)
  have g3 := encU_len10 hv'
  have hr := unfoldN_range hv'
  have HS := Lib.hid (same_refl (encU v))
  have HA := Lib.hid awake_true
  have hfa : foldN a0 < 18446744073709551616 := foldN_lt hn
  have hfb : foldN (-1 - a0) < 18446744073709551616 := foldN_lt hn2
  generalize unfoldN v = m at *
  generalize foldN a0 = a at *
  generalize foldN (-1 - a0) = b at *
  have hmn1 : (-1 : Int) - a0 ≤ 9223372036854775807 := hn2.2
  have hmn2 : -9223372036854775808 ≤ (-1 : Int) - a0 := hn2.1
  go_enter Try.func9, Try.ntmps9
  go_wp2_with fail
  refine (codec_PutInt.calls none 0 [] a0 _ _ (C_nil _ _) (Nat.le_refl _) HP1.out).mono ?_
  rintro e w1 ⟨v1, rfl, R1, B1⟩
  obtain ⟨A1, c1, rfl, L1, C1⟩ := Kd.R_reads R1
  clear R1
  go_wp2_with fail
  refine (codec_Uint.calls A1 c1 (encU a) 0 _ _ _ _ C1 L1 HU1.out).mono ?_
  rintro e w1' ⟨rfl, ⟨d1, rfl⟩⟩
  go_wp2_with fail
  refine (codec_PutInt.calls none 0 [] (-1 - a0) _ _ (C_nil _ _) (Nat.le_refl _) HP2.out).mono ?_
  rintro e w2 ⟨v2, rfl, R2, B2⟩
  obtain ⟨A2, c2, rfl, L2, C2⟩ := Kd.R_reads R2
  clear R2
  go_wp2_with fail
  refine (codec_Uint.calls A2 c2 (encU b) 0 _ _ _ _ C2 L2 HU2.out).mono ?_
  rintro e w2' ⟨rfl, ⟨d2, rfl⟩⟩
  go_wp2_with fail
  refine (codec_PutUint.calls none 0 [] (v : Int) _ _ (C_nil _ _) (Nat.le_refl _) HP3.out).mono ?_
  rintro e w3 ⟨v3, rfl, R3, B3⟩
  obtain ⟨A3, c3, rfl, L3, C3⟩ := Kd.R_reads R3
  clear R3
  go_wp2_with fail
  refine (codec_Int.calls A3 c3 (encU v) 0 _ _ _ _ C3 L3 HI.out).mono ?_
  rintro e w3' ⟨rfl, ⟨d3, rfl⟩⟩
  go_wp2_with fail
  refine (codec_PutUint.calls none 0 [] (v : Int) _ _ (C_nil _ _) (Nat.le_refl _) HP3.out).mono ?_
  rintro e w4 ⟨v4, rfl, R4, B4⟩
  obtain ⟨A4, c4, rfl, L4, C4⟩ := Kd.R_reads R4
  clear R4
  go_wp2_with fail
  refine (codec_PutInt.calls none 0 [] m _ _ (C_nil _ _) (Nat.le_refl _) HP4.out).mono ?_
  rintro e w5 ⟨v5, rfl, R5, B5⟩
  obtain ⟨A5, c5, rfl, L5, C5⟩ := Kd.R_reads R5
  clear R5
  go_wp2_with fail
  refine (codec_PutUint.calls none 0 [] (v : Int) _ _ (C_nil _ _) (Nat.le_refl _) HP3.out).mono ?_
  rintro e w6 ⟨v6, rfl, R6, B6⟩
  obtain ⟨A6, c6, rfl, L6, C6⟩ := Kd.R_reads R6
  clear R6
  go_wp2_with fail
  refine (stockyardlaw01_same.calls A5 c5 (encU v) A6 c6 (encU v) true _ (Kd.C_below C5 B6) L5 C6 L6 HS.out).mono ?_
  rintro e w7 ⟨rfl, ⟨d7, rfl⟩⟩
  go_wp2_with fail
  refine (stockyardlaw01_awake.calls true _ HA.out).mono ?_
  rintro e w8 ⟨rfl, B8⟩
  go_wp2_with fail
  go_ret
  refine ⟨rfl, ?_⟩
  have D2 := pw_below_drewN (Below.refl w1.heap.size w1) d1
  exact below_step (below_step (below_step (below_step (below_step (below_step B1 (below_then (pw_below_drewN (Below.refl _ _) d1) (Nat.le_refl _) B2)) (below_then (pw_below_drewN (Below.refl _ _) d2) (Nat.le_refl _) B3)) (below_then (pw_below_drewN (Below.refl _ _) d3) (Nat.le_refl _) B4)) B5) B6) (below_then (pw_below_drewN (Below.refl _ _) d7) (Nat.le_refl _) B8)
end Go.Proofs.Ytnaamckkepdkkaa.P
