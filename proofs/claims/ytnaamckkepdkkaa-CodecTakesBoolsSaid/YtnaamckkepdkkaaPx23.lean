-- WRITTEN BY myprint.py (wip/tools) for this seat
import Derived.Test.YtnaamckkepdkkaaPx0
namespace Go.Proofs.Ytnaamckkepdkkaa.P
open Go.RowKit Go.Proofs.YtnaamckkepdkkaaW.PrintWords Go.Proofs.YtnaamckkepdkkaaW.PrintLast Go.Proofs.YtnaamckkepdkkaaW.PrintMore
attribute [local go_sem] max2_int min2_int max_two min_two max_three min_three max_four min_four   -- for this text's walks alone
set_option linter.unusedVariables false
set_option linter.unusedSimpArgs false

/-! ### stockyardref01_TakeBool: function 29 -/
def stockyardref01_TakeBool.j0 : Nat → List Int → Int → Bool → Option (Bool × Int × Int)
  | 0, _, _, _ => none
  | k + 1, x0, x1, x14 => if x14 = true then (some (false, 0, 10)) else (if x1 = (x0.length : Int) then (some (false, 0, 11)) else (if 0 ≤ x1 then (if x1 < (x0.length : Int) then (if (rd x0 x1) > 1 then (some (false, 0, 12)) else (some (((rd x0 x1) == 1), wrap64 (x1 + 1), 0))) else (none)) else (none)))
def stockyardref01_TakeBool.f (k : Nat) (l0 : List Int) (a1 : Int) : Option (Bool × Int × Int) := if a1 < 0 then (stockyardref01_TakeBool.j0 k l0 a1 true) else (stockyardref01_TakeBool.j0 k l0 a1 (decide (a1 > (l0.length : Int))))
theorem stockyardref01_TakeBool.mono_l : ∀ k, (∀ y0 y1 y2, LeO (stockyardref01_TakeBool.j0 k y0 y1 y2) (stockyardref01_TakeBool.j0 (k + 1) y0 y1 y2))
  | 0 => fun _ _ _ r h => by simp [stockyardref01_TakeBool.j0] at h
  | k + 1 => by
    have ih0 := stockyardref01_TakeBool.mono_l k
    · intro y0 y1 y2
      unfold stockyardref01_TakeBool.j0
      repeat' first
      | (with_reducible exact ih0 _ _ _)
      | (with_reducible exact LeO.refl _)
      | (with_reducible exact LeO.none _)
      | (with_reducible refine LeO.ite ?_ ?_)
      | (with_reducible refine LeO.bind ?_ (fun _ => ?_))
      | exact ih0 _ _ _
      | exact LeO.none _
      | refine LeO.ite ?_ ?_
      | refine LeO.bind ?_ (fun _ => ?_)
theorem stockyardref01_TakeBool.mono : ∀ a0 a1 k, LeO (stockyardref01_TakeBool.f k a0 a1) (stockyardref01_TakeBool.f (k + 1) a0 a1) := by
  intro a0 a1 k
  have ih0 := stockyardref01_TakeBool.mono_l k
  unfold stockyardref01_TakeBool.f
  repeat' first
      | (with_reducible exact ih0 _ _ _)
      | (with_reducible exact LeO.refl _)
      | (with_reducible exact LeO.none _)
      | (with_reducible refine LeO.ite ?_ ?_)
      | (with_reducible refine LeO.bind ?_ (fun _ => ?_))
      | exact ih0 _ _ _
      | exact LeO.none _
      | refine LeO.ite ?_ ?_
      | refine LeO.bind ?_ (fun _ => ?_)
set_option maxHeartbeats 8000000 in
set_option maxRecDepth 100000 in
theorem stockyardref01_TakeBool.calls (k : Nat) (A0 : Option Addr) (c0 : Nat) (l0 : List Int) (a1 : Int) (r1 : Bool) (r2 : Int) (r3 : Int) (w : World) (hr0 : Kd.C (Kd.int .u8) w A0 l0.length l0) (hc0 : l0.length ≤ c0) (h : stockyardref01_TakeBool.f k l0 a1 = some (r1, r2, r3)) :
    Calls Try.prog 29 #[.slice A0 l0.length c0, .int .i64 a1] w fun e w' => e = .returned (.tuple #[.bool r1, .int .i64 r2, .int .i64 r3]) ∧ Drawn0 w w' := by
  have HR0 := Aside0.mk hr0
  have HC0 := Aside0.mk hc0
  clear hr0 hc0
  have H : (if a1 < 0 then (stockyardref01_TakeBool.j0 k l0 a1 true) else (stockyardref01_TakeBool.j0 k l0 a1 (decide (a1 > (l0.length : Int))))) = some (r1, r2, r3) := h
  clear h
  have HC3 := Aside0.mk H
  clear H
  go_enter Try.func29, Try.ntmps29
  go_upto_region 1 with (fail)
  go_cut [14] (fun v14 wc => ∃ (kq : Nat) (x14_2 : Bool), v14 = .bool x14_2 ∧ Aside0 (stockyardref01_TakeBool.j0 kq l0 a1 x14_2 = some (r1, r2, r3)) ∧ Aside0 (kq ≤ k) ∧ Drawn0 w wc)
  case first =>
    have H := HC3.out
    clear HC3
    by_cases c4 : a1 < 0
    · rw [if_pos c4] at H
      have c4b0 : decide (a1 < 0) = true := decide_eq_true c4
      clear c4
      (first | rw [c4b0] | (simp only [i64_w, i32_w]; rw [c4b0]) | skip)
      have H' := Aside0.mk H
      clear H
      go_wp2
      go_meet
      case rel => exact ⟨_, (true), (by first | rfl | (simp; done) | (simp [*]; done)), H', ⟨by first | omega | exact Nat.le_refl _⟩, by repeat (first | exact Drawn0.refl _ | apply Drawn0.step)⟩
    · rw [if_neg c4] at H
      have c4b0 : decide (a1 < 0) = false := decide_eq_false c4
      clear c4
      (first | rw [c4b0] | (simp only [i64_w, i32_w]; rw [c4b0]) | skip)
      have H' := Aside0.mk H
      clear H
      go_wp2
      go_meet
      case rel => exact ⟨_, (decide (a1 > (l0.length : Int))), (by first | rfl | (simp; done) | (simp [*]; done)), H', ⟨by first | omega | exact Nat.le_refl _⟩, by repeat (first | exact Drawn0.refl _ | apply Drawn0.step)⟩
  case rest =>
    clear HC3
    try clear c2
    try clear p2
    try clear c4
    try clear c4b0
    obtain ⟨kq, x14_2, rfl, HA, HJ2, ⟨mc2, rfl⟩⟩ := hcut
    cases kq with
    | zero => exact absurd HA.out (by simp [stockyardref01_TakeBool.j0])
    | succ kj2 =>
      have H := HA.out
      clear HA
      simp only [stockyardref01_TakeBool.j0] at H
      by_cases c5 : x14_2 = true
      · subst c5
        have H1 : (some (false, 0, 10)) = some (r1, r2, r3) := by rw [if_pos rfl] at H; exact H
        clear H
        have H := H1
        clear H1
        simp only [Option.some.injEq, Prod.mk.injEq] at H
        obtain ⟨rfl, rfl, rfl⟩ := H
        go_wp2
        go_ret3
        exact ⟨by first | rfl | (simp; done) | (simp [*]; done), by repeat (first | exact Drawn0.refl _ | apply Drawn0.step)⟩
      · replace c5 := Bool.eq_false_iff.mpr c5
        subst c5
        have H1 : (if a1 = (l0.length : Int) then (some (false, 0, 11)) else (if 0 ≤ a1 then (if a1 < (l0.length : Int) then (if (rd l0 a1) > 1 then (some (false, 0, 12)) else (some (((rd l0 a1) == 1), wrap64 (a1 + 1), 0))) else (none)) else (none))) = some (r1, r2, r3) := by rw [if_neg (show ¬ (false = true) by decide)] at H; exact H
        clear H
        have H := H1
        clear H1
        by_cases c6 : a1 = (l0.length : Int)
        · rw [if_pos c6] at H
          have c6b0 : (a1 == (l0.length : Int)) = true := beq_iff_eq.mpr c6
          have c6b1 : (a1 != (l0.length : Int)) = false := bne_eq_false_iff_eq.mpr c6
          clear c6
          simp only [Option.some.injEq, Prod.mk.injEq] at H
          obtain ⟨rfl, rfl, rfl⟩ := H
          go_wp2
          go_ret3
          exact ⟨by first | rfl | (simp; done) | (simp [*]; done), by repeat (first | exact Drawn0.refl _ | apply Drawn0.step)⟩
        · rw [if_neg c6] at H
          have c6b0 : (a1 == (l0.length : Int)) = false := beq_eq_false_iff_ne.mpr c6
          have c6b1 : (a1 != (l0.length : Int)) = true := bne_iff_ne.mpr c6
          by_cases c7 : 0 ≤ a1
          · rw [if_pos c7] at H
            have c7b0 : decide (0 ≤ a1) = true := decide_eq_true c7
            clear c7
            by_cases c8 : a1 < (l0.length : Int)
            · rw [if_pos c8] at H
              have c8b0 : decide (a1 < (l0.length : Int)) = true := decide_eq_true c8
              clear c8
              by_cases c9 : (rd l0 a1) > 1
              · rw [if_pos c9] at H
                have c9b0 : decide (1 < (rd l0 a1)) = true := decide_eq_true c9
                clear c9
                simp only [Option.some.injEq, Prod.mk.injEq] at H
                obtain ⟨rfl, rfl, rfl⟩ := H
                have p328 : 0 ≤ (a1 : Int) := of_decide_eq_true (by first | (with_reducible assumption) | assumption)
                have q328 : a1 < (l0.length : Int) := of_decide_eq_true (by first | (with_reducible assumption) | assumption)
                obtain ⟨ad328, e328, hx328_0⟩ := Kd.at_int HR0.out a1 p328 q328
                cases e328
                replace p328 := eq_true p328
                replace q328 := eq_true q328
                go_wp2
                go_ret3
                exact ⟨by first | rfl | (simp; done) | (simp [*]; done), by repeat (first | exact Drawn0.refl _ | apply Drawn0.step)⟩
              · rw [if_neg c9] at H
                have c9b0 : decide (1 < (rd l0 a1)) = false := decide_eq_false c9
                clear c9
                simp only [Option.some.injEq, Prod.mk.injEq] at H
                obtain ⟨rfl, rfl, rfl⟩ := H
                have p328 : 0 ≤ (a1 : Int) := of_decide_eq_true (by first | (with_reducible assumption) | assumption)
                have q328 : a1 < (l0.length : Int) := of_decide_eq_true (by first | (with_reducible assumption) | assumption)
                obtain ⟨ad328, e328, hx328_0⟩ := Kd.at_int HR0.out a1 p328 q328
                cases e328
                replace p328 := eq_true p328
                replace q328 := eq_true q328
                have p329 : 0 ≤ (a1 : Int) := of_decide_eq_true (by first | (with_reducible assumption) | assumption)
                have q329 : a1 < (l0.length : Int) := of_decide_eq_true (by first | (with_reducible assumption) | assumption)
                obtain ⟨ad329, e329, hx329_0⟩ := Kd.at_int HR0.out a1 p329 q329
                obtain rfl : ad328 = ad329 := (by injection e329)
                replace p329 := eq_true p329
                replace q329 := eq_true q329
                go_wp2
                go_ret3
                exact ⟨by first | rfl | (simp; done) | (simp [*]; done), by repeat (first | exact Drawn0.refl _ | apply Drawn0.step)⟩
            · rw [if_neg c8] at H
              exact absurd H (by simp)
          · rw [if_neg c7] at H
            exact absurd H (by simp)

end Go.Proofs.Ytnaamckkepdkkaa.P
