-- WRITTEN BY myprint.py (wip/tools) for this seat
import Derived.Test.YtnaamckkepdkkaaPx0
import Derived.Test.YtnaamckkepdkkaaPx1
import Derived.Test.YtnaamckkepdkkaaPx4
import Derived.Test.YtnaamckkepdkkaaPx16
import Derived.Test.YtnaamckkepdkkaaHPutUint
import Derived.Test.YtnaamckkepdkkaaHUint
namespace Go.Proofs.Ytnaamckkepdkkaa.P
open Go.RowKit Go.Proofs.YtnaamckkepdkkaaW.PrintWords Go.Proofs.YtnaamckkepdkkaaW.PrintLast Go.Proofs.YtnaamckkepdkkaaW.PrintMore
attribute [local go_sem] max2_int min2_int max_two min_two max_three min_three max_four min_four   -- for this text's walks alone
set_option linter.unusedVariables false
set_option linter.unusedSimpArgs false

/-! ### stockyardlaw01_CodecNumbersBack: function 8 -/
mutual
def stockyardlaw01_CodecNumbersBack.j0 : Nat → List Int → List Int → Int → Int → Bool → Option (Bool)
  | 0, _, _, _, _, _ => none
  | k + 1, x0, x1, x2, x3, x24 => if x24 = true then ((stockyardlaw01_awake.f).bind fun t254 => (some t254)) else (if ([] : List Int).length + x0.length < 140737488355328 then ((codec_PutUint.f (([] : List Int) ++ x0) x2).bind fun t258 => ((codec_PutInt.f t258 x3).bind fun t261 => (if ([] : List Int).length + t261.length < 140737488355328 then ((some (([] : List Int) ++ t261 : List Int)).bind fun y264 => (if y264.length + x1.length < 140737488355328 then ((some (y264 ++ x1 : List Int)).bind fun y267 => ((codec_Uint.f y267 (x0.length : Int)).bind fun bt270 => (if bt270.1 = x2 then (if bt270.2.2 = 0 then (if bt270.2.1 ≤ (x0.length : Int) then (stockyardlaw01_CodecNumbersBack.j1 k x3 y267 (t261.length : Int) bt270.2.1 true) else (stockyardlaw01_CodecNumbersBack.j1 k x3 y267 (t261.length : Int) bt270.2.1 (decide (bt270.2.1 ≥ (t261.length : Int))))) else (stockyardlaw01_CodecNumbersBack.j1 k x3 y267 (t261.length : Int) bt270.2.1 true)) else (stockyardlaw01_CodecNumbersBack.j1 k x3 y267 (t261.length : Int) bt270.2.1 true)))) else (none))) else (none)))) else (none))
def stockyardlaw01_CodecNumbersBack.j1 : Nat → Int → List Int → Int → Int → Bool → Option (Bool)
  | 0, _, _, _, _, _ => none
  | k + 1, x3, x9, x10, x12, x63 => if x63 = true then (some false) else ((codec_Int.f x9 x12).bind fun bt273 => (if bt273.1 = x3 then (if bt273.2.1 = x10 then (if bt273.2.2 = 0 then ((stockyardlaw01_awake.f).bind fun t276 => (some t276)) else (some false)) else (some false)) else (some false)))
end
def stockyardlaw01_CodecNumbersBack.f (k : Nat) (l0 : List Int) (l1 : List Int) (a2 : Int) (a3 : Int) : Option (Bool) := if (l0.length : Int) > 100 then (stockyardlaw01_CodecNumbersBack.j0 k l0 l1 a2 a3 true) else (stockyardlaw01_CodecNumbersBack.j0 k l0 l1 a2 a3 (decide ((l1.length : Int) > 100)))
theorem stockyardlaw01_CodecNumbersBack.mono_l : ∀ k, (∀ y0 y1 y2 y3 y4, LeO (stockyardlaw01_CodecNumbersBack.j0 k y0 y1 y2 y3 y4) (stockyardlaw01_CodecNumbersBack.j0 (k + 1) y0 y1 y2 y3 y4)) ∧ (∀ y0 y1 y2 y3 y4, LeO (stockyardlaw01_CodecNumbersBack.j1 k y0 y1 y2 y3 y4) (stockyardlaw01_CodecNumbersBack.j1 (k + 1) y0 y1 y2 y3 y4))
  | 0 => ⟨fun _ _ _ _ _ r h => by simp [stockyardlaw01_CodecNumbersBack.j0] at h, fun _ _ _ _ _ r h => by simp [stockyardlaw01_CodecNumbersBack.j1] at h⟩
  | k + 1 => by
    obtain ⟨ih0, ih1⟩ := stockyardlaw01_CodecNumbersBack.mono_l k
    refine ⟨?_, ?_⟩
    · intro y0 y1 y2 y3 y4
      unfold stockyardlaw01_CodecNumbersBack.j0
      repeat' first
      | (with_reducible exact ih0 _ _ _ _ _)
      | (with_reducible exact ih1 _ _ _ _ _)
      | (with_reducible exact LeO.refl _)
      | (with_reducible exact LeO.none _)
      | (with_reducible refine LeO.ite ?_ ?_)
      | (with_reducible refine LeO.bind ?_ (fun _ => ?_))
      | exact ih0 _ _ _ _ _
      | exact ih1 _ _ _ _ _
      | exact LeO.none _
      | refine LeO.ite ?_ ?_
      | refine LeO.bind ?_ (fun _ => ?_)
    · intro y0 y1 y2 y3 y4
      unfold stockyardlaw01_CodecNumbersBack.j1
      repeat' first
      | (with_reducible exact ih0 _ _ _ _ _)
      | (with_reducible exact ih1 _ _ _ _ _)
      | (with_reducible exact LeO.refl _)
      | (with_reducible exact LeO.none _)
      | (with_reducible refine LeO.ite ?_ ?_)
      | (with_reducible refine LeO.bind ?_ (fun _ => ?_))
      | exact ih0 _ _ _ _ _
      | exact ih1 _ _ _ _ _
      | exact LeO.none _
      | refine LeO.ite ?_ ?_
      | refine LeO.bind ?_ (fun _ => ?_)
theorem stockyardlaw01_CodecNumbersBack.mono : ∀ a0 a1 a2 a3 k, LeO (stockyardlaw01_CodecNumbersBack.f k a0 a1 a2 a3) (stockyardlaw01_CodecNumbersBack.f (k + 1) a0 a1 a2 a3) := by
  intro a0 a1 a2 a3 k
  obtain ⟨ih0, ih1⟩ := stockyardlaw01_CodecNumbersBack.mono_l k
  unfold stockyardlaw01_CodecNumbersBack.f
  repeat' first
      | (with_reducible exact ih0 _ _ _ _ _)
      | (with_reducible exact ih1 _ _ _ _ _)
      | (with_reducible exact LeO.refl _)
      | (with_reducible exact LeO.none _)
      | (with_reducible refine LeO.ite ?_ ?_)
      | (with_reducible refine LeO.bind ?_ (fun _ => ?_))
      | exact ih0 _ _ _ _ _
      | exact ih1 _ _ _ _ _
      | exact LeO.none _
      | refine LeO.ite ?_ ?_
      | refine LeO.bind ?_ (fun _ => ?_)
set_option maxHeartbeats 8000000 in
set_option maxRecDepth 100000 in
theorem stockyardlaw01_CodecNumbersBack.calls (k : Nat) (A0 : Option Addr) (c0 : Nat) (l0 : List Int) (A1 : Option Addr) (c1 : Nat) (l1 : List Int) (a2 : Int) (a3 : Int) (r : Bool) (w : World) (hr0 : Kd.C (Kd.int .u8) w A0 l0.length l0) (hc0 : l0.length ≤ c0) (hr1 : Kd.C (Kd.int .u8) w A1 l1.length l1) (hc1 : l1.length ≤ c1) (h : stockyardlaw01_CodecNumbersBack.f k l0 l1 a2 a3 = some r) :
    Calls Try.prog 8 #[.slice A0 l0.length c0, .slice A1 l1.length c1, .int .u64 a2, .int .i64 a3] w fun e w' => e = .returned (.bool r) ∧ Below w.heap.size w w' := by
  have HR0 := Aside0.mk hr0
  have HC0 := Aside0.mk hc0
  clear hr0 hc0
  have HR1 := Aside0.mk hr1
  have HC1 := Aside0.mk hc1
  clear hr1 hc1
  have HB := Aside0.mk (Below.refl w.heap.size w)
  have H : (if (l0.length : Int) > 100 then (stockyardlaw01_CodecNumbersBack.j0 k l0 l1 a2 a3 true) else (stockyardlaw01_CodecNumbersBack.j0 k l0 l1 a2 a3 (decide ((l1.length : Int) > 100)))) = some r := h
  clear h
  have HC5 := Aside0.mk H
  clear H
  go_enter Try.func8, Try.ntmps8
  go_upto_region 1 with (fail)
  go_cut [24] (fun v24 wc => ∃ (kq : Nat) (x24_4 : Bool), v24 = .bool x24_4 ∧ Aside0 (stockyardlaw01_CodecNumbersBack.j0 kq l0 l1 a2 a3 x24_4 = some r) ∧ Aside0 (kq ≤ k) ∧ Aside0 (Below w.heap.size w wc))
  case first =>
    have H := HC5.out
    clear HC5
    by_cases c6 : (l0.length : Int) > 100
    · rw [if_pos c6] at H
      have c6b0 : decide (100 < (l0.length : Int)) = true := decide_eq_true c6
      have c6b1 : decide (100 < l0.length) = true := decide_eq_true (by omega)
      clear c6
      (first | rw [c6b0] | (simp only [i64_w, i32_w]; rw [c6b0]) | skip)
      have H' := Aside0.mk H
      clear H
      go_wp2
      go_meet
      case rel => exact ⟨_, (true), (by first | rfl | (simp; done) | (simp [*]; done)), H', ⟨by first | omega | exact Nat.le_refl _⟩, ⟨by repeat (first | (with_reducible first | exact HB.out | apply below_alloc | apply pw_below_drewN | apply below_drew1) | exact HB.out)⟩⟩
    · rw [if_neg c6] at H
      have c6b0 : decide (100 < (l0.length : Int)) = false := decide_eq_false c6
      have c6b1 : decide (100 < l0.length) = false := decide_eq_false (by omega)
      clear c6
      (first | rw [c6b0] | (simp only [i64_w, i32_w]; rw [c6b0]) | skip)
      have H' := Aside0.mk H
      clear H
      go_wp2
      go_meet
      case rel => exact ⟨_, (decide ((l1.length : Int) > 100)), (by first | rfl | (simp; done) | (simp [*]; done)), H', ⟨by first | omega | exact Nat.le_refl _⟩, ⟨by repeat (first | (with_reducible first | exact HB.out | apply below_alloc | apply pw_below_drewN | apply below_drew1) | exact HB.out)⟩⟩
  case rest =>
    clear HC5
    try clear c1
    try clear p2
    try clear c6
    try clear c6b0
    try clear c6b1
    obtain ⟨kq, x24_4, rfl, HA, HJ4, HB⟩ := hcut
    cases kq with
    | zero => exact absurd HA.out (by simp [stockyardlaw01_CodecNumbersBack.j0])
    | succ kj4 =>
      have H := HA.out
      clear HA
      simp only [stockyardlaw01_CodecNumbersBack.j0] at H
      by_cases c7 : x24_4 = true
      · subst c7
        have H1 : ((stockyardlaw01_awake.f).bind fun t254 => (some t254)) = some r := by rw [if_pos rfl] at H; exact H
        clear H
        have H := H1
        clear H1
        replace H := Option.bind_eq_some_iff.mp H
        obtain ⟨t254, A80, H⟩ := H
        replace H : (some t254) = some r := H
        have A8 := Aside0.mk A80
        clear A80
        obtain rfl := Option.some.inj H
        go_wp2_with (first | ((with_reducible refine gate_callee (f := 14) rfl ?_); refine goesL_ (some 25) rfl rfl Try.func14 (by kernel_rfl) rfl #[] rfl (by (try simp only [List.map_toArray, List.map_cons, List.map_nil]); first | done | rfl | (simp only [List.length_drop, List.length_take]; rfl)) ?_; (with_reducible refine (stockyardlaw01_awake.calls  t254 _ A8.out).mono ?_); rintro e w9 ⟨rfl, hb⟩; refine ⟨_, rfl, ?_⟩; have n0_ := Aside0.mk (below_step (by repeat (first | (with_reducible first | exact HB.out | apply below_alloc | apply pw_below_drewN | apply below_drew1) | exact HB.out)) hb); clear HB; have HB := n0_; clear n0_; (try clear hb); (try clear hb2); (try clear hk); (try clear hi)))
        go_ret
        exact ⟨by first | rfl | (simp [errW_none, errW_some] <;> rfl) | (simp [*, errW_none, errW_some] <;> rfl), by repeat (first | (with_reducible first | exact HB.out | apply below_alloc | apply pw_below_drewN | apply below_drew1) | exact HB.out)⟩
      · replace c7 := Bool.eq_false_iff.mpr c7
        subst c7
        have H1 : (if ([] : List Int).length + l0.length < 140737488355328 then ((codec_PutUint.f (([] : List Int) ++ l0) a2).bind fun t258 => ((codec_PutInt.f t258 a3).bind fun t261 => (if ([] : List Int).length + t261.length < 140737488355328 then ((some (([] : List Int) ++ t261 : List Int)).bind fun y264 => (if y264.length + l1.length < 140737488355328 then ((some (y264 ++ l1 : List Int)).bind fun y267 => ((codec_Uint.f y267 (l0.length : Int)).bind fun bt270 => (if bt270.1 = a2 then (if bt270.2.2 = 0 then (if bt270.2.1 ≤ (l0.length : Int) then (stockyardlaw01_CodecNumbersBack.j1 kj4 a3 y267 (t261.length : Int) bt270.2.1 true) else (stockyardlaw01_CodecNumbersBack.j1 kj4 a3 y267 (t261.length : Int) bt270.2.1 (decide (bt270.2.1 ≥ (t261.length : Int))))) else (stockyardlaw01_CodecNumbersBack.j1 kj4 a3 y267 (t261.length : Int) bt270.2.1 true)) else (stockyardlaw01_CodecNumbersBack.j1 kj4 a3 y267 (t261.length : Int) bt270.2.1 true)))) else (none))) else (none)))) else (none)) = some r := by rw [if_neg (show ¬ (false = true) by decide)] at H; exact H
        clear H
        have H := H1
        clear H1
        by_cases c10 : ([] : List Int).length + l0.length < 140737488355328
        · rw [if_pos c10] at H
          have LMc10 := Aside0.mk c10
          clear c10
          obtain ⟨y255, hy255⟩ : ∃ y_ : List Int, y_ = (([] : List Int) ++ l0) := ⟨_, rfl⟩
          replace H : ((codec_PutUint.f y255 a2).bind fun t258 => ((codec_PutInt.f t258 a3).bind fun t261 => (if ([] : List Int).length + t261.length < 140737488355328 then ((some (([] : List Int) ++ t261 : List Int)).bind fun y264 => (if y264.length + l1.length < 140737488355328 then ((some (y264 ++ l1 : List Int)).bind fun y267 => ((codec_Uint.f y267 (l0.length : Int)).bind fun bt270 => (if bt270.1 = a2 then (if bt270.2.2 = 0 then (if bt270.2.1 ≤ (l0.length : Int) then (stockyardlaw01_CodecNumbersBack.j1 kj4 a3 y267 (t261.length : Int) bt270.2.1 true) else (stockyardlaw01_CodecNumbersBack.j1 kj4 a3 y267 (t261.length : Int) bt270.2.1 (decide (bt270.2.1 ≥ (t261.length : Int))))) else (stockyardlaw01_CodecNumbersBack.j1 kj4 a3 y267 (t261.length : Int) bt270.2.1 true)) else (stockyardlaw01_CodecNumbersBack.j1 kj4 a3 y267 (t261.length : Int) bt270.2.1 true)))) else (none))) else (none)))) = some r := by first | (rw [hy255]; with_reducible exact H) | (have H2_ := (Option.bind_some _ _).symm.trans H; rw [hy255]; with_reducible exact H2_) | (have H2_ := (Option.bind_some _ _).symm.trans H; with_reducible exact H2_) | with_reducible exact H | (rw [hy255]; exact H) | exact H
          have Ny255 := Aside0.mk hy255
          clear hy255
          replace H := Option.bind_eq_some_iff.mp H
          obtain ⟨t258, A110, H⟩ := H
          replace H : ((codec_PutInt.f t258 a3).bind fun t261 => (if ([] : List Int).length + t261.length < 140737488355328 then ((some (([] : List Int) ++ t261 : List Int)).bind fun y264 => (if y264.length + l1.length < 140737488355328 then ((some (y264 ++ l1 : List Int)).bind fun y267 => ((codec_Uint.f y267 (l0.length : Int)).bind fun bt270 => (if bt270.1 = a2 then (if bt270.2.2 = 0 then (if bt270.2.1 ≤ (l0.length : Int) then (stockyardlaw01_CodecNumbersBack.j1 kj4 a3 y267 (t261.length : Int) bt270.2.1 true) else (stockyardlaw01_CodecNumbersBack.j1 kj4 a3 y267 (t261.length : Int) bt270.2.1 (decide (bt270.2.1 ≥ (t261.length : Int))))) else (stockyardlaw01_CodecNumbersBack.j1 kj4 a3 y267 (t261.length : Int) bt270.2.1 true)) else (stockyardlaw01_CodecNumbersBack.j1 kj4 a3 y267 (t261.length : Int) bt270.2.1 true)))) else (none))) else (none))) = some r := H
          have A11 := Aside0.mk A110
          clear A110
          replace H := Option.bind_eq_some_iff.mp H
          obtain ⟨t261, A120, H⟩ := H
          replace H : (if ([] : List Int).length + t261.length < 140737488355328 then ((some (([] : List Int) ++ t261 : List Int)).bind fun y264 => (if y264.length + l1.length < 140737488355328 then ((some (y264 ++ l1 : List Int)).bind fun y267 => ((codec_Uint.f y267 (l0.length : Int)).bind fun bt270 => (if bt270.1 = a2 then (if bt270.2.2 = 0 then (if bt270.2.1 ≤ (l0.length : Int) then (stockyardlaw01_CodecNumbersBack.j1 kj4 a3 y267 (t261.length : Int) bt270.2.1 true) else (stockyardlaw01_CodecNumbersBack.j1 kj4 a3 y267 (t261.length : Int) bt270.2.1 (decide (bt270.2.1 ≥ (t261.length : Int))))) else (stockyardlaw01_CodecNumbersBack.j1 kj4 a3 y267 (t261.length : Int) bt270.2.1 true)) else (stockyardlaw01_CodecNumbersBack.j1 kj4 a3 y267 (t261.length : Int) bt270.2.1 true)))) else (none))) else (none)) = some r := H
          have A12 := Aside0.mk A120
          clear A120
          by_cases c13 : ([] : List Int).length + t261.length < 140737488355328
          · rw [if_pos c13] at H
            have LMc13 := Aside0.mk c13
            clear c13
            obtain ⟨y264, hy264⟩ : ∃ y_ : List Int, y_ = (([] : List Int) ++ t261) := ⟨_, rfl⟩
            replace H : (if y264.length + l1.length < 140737488355328 then ((some (y264 ++ l1 : List Int)).bind fun y267 => ((codec_Uint.f y267 (l0.length : Int)).bind fun bt270 => (if bt270.1 = a2 then (if bt270.2.2 = 0 then (if bt270.2.1 ≤ (l0.length : Int) then (stockyardlaw01_CodecNumbersBack.j1 kj4 a3 y267 (t261.length : Int) bt270.2.1 true) else (stockyardlaw01_CodecNumbersBack.j1 kj4 a3 y267 (t261.length : Int) bt270.2.1 (decide (bt270.2.1 ≥ (t261.length : Int))))) else (stockyardlaw01_CodecNumbersBack.j1 kj4 a3 y267 (t261.length : Int) bt270.2.1 true)) else (stockyardlaw01_CodecNumbersBack.j1 kj4 a3 y267 (t261.length : Int) bt270.2.1 true)))) else (none)) = some r := by first | (rw [hy264]; with_reducible exact H) | (have H2_ := (Option.bind_some _ _).symm.trans H; rw [hy264]; with_reducible exact H2_) | (have H2_ := (Option.bind_some _ _).symm.trans H; with_reducible exact H2_) | with_reducible exact H | (rw [hy264]; exact H) | exact H
            have Ny264 := Aside0.mk hy264
            clear hy264
            by_cases c14 : y264.length + l1.length < 140737488355328
            · rw [if_pos c14] at H
              have LMc14 := Aside0.mk c14
              clear c14
              obtain ⟨y267, hy267⟩ : ∃ y_ : List Int, y_ = (y264 ++ l1) := ⟨_, rfl⟩
              replace H : ((codec_Uint.f y267 (l0.length : Int)).bind fun bt270 => (if bt270.1 = a2 then (if bt270.2.2 = 0 then (if bt270.2.1 ≤ (l0.length : Int) then (stockyardlaw01_CodecNumbersBack.j1 kj4 a3 y267 (t261.length : Int) bt270.2.1 true) else (stockyardlaw01_CodecNumbersBack.j1 kj4 a3 y267 (t261.length : Int) bt270.2.1 (decide (bt270.2.1 ≥ (t261.length : Int))))) else (stockyardlaw01_CodecNumbersBack.j1 kj4 a3 y267 (t261.length : Int) bt270.2.1 true)) else (stockyardlaw01_CodecNumbersBack.j1 kj4 a3 y267 (t261.length : Int) bt270.2.1 true))) = some r := by first | (rw [hy267]; with_reducible exact H) | (have H2_ := (Option.bind_some _ _).symm.trans H; rw [hy267]; with_reducible exact H2_) | (have H2_ := (Option.bind_some _ _).symm.trans H; with_reducible exact H2_) | with_reducible exact H | (rw [hy267]; exact H) | exact H
              have Ny267 := Aside0.mk hy267
              clear hy267
              replace H := Option.bind_eq_some_iff.mp H
              obtain ⟨⟨t270, t271, t272⟩, A150, H⟩ := H
              replace H : (if t270 = a2 then (if t272 = 0 then (if t271 ≤ (l0.length : Int) then (stockyardlaw01_CodecNumbersBack.j1 kj4 a3 y267 (t261.length : Int) t271 true) else (stockyardlaw01_CodecNumbersBack.j1 kj4 a3 y267 (t261.length : Int) t271 (decide (t271 ≥ (t261.length : Int))))) else (stockyardlaw01_CodecNumbersBack.j1 kj4 a3 y267 (t261.length : Int) t271 true)) else (stockyardlaw01_CodecNumbersBack.j1 kj4 a3 y267 (t261.length : Int) t271 true)) = some r := H
              have A15 := Aside0.mk A150
              clear A150
              have HC16 := Aside0.mk H
              clear H
              go_upto_region 7 with (first | ((with_reducible refine gate_builtin (b := .append) (xs := #[.const (.slice none 0 0), .tmp 26]) rfl ?_); (try (refine gate_guard (by rfl) ?_; dsimp only)); at_builtin; refine Kd.R_append_rows (Kd.int .u8) (w0 := w) w.heap.size rfl (.const (.slice none 0 0)) (.tmp 26) 22 5 (.int .u8 0) 1 rfl Try.underlying22 info5 rfl (by decide) (by omega) (.slice none 0 0) ([] : List Int) l0 _ _ _ (fun _ => True) (fun _ => False) rfl rfl ?aO ?aR (fun _ _ h => h) (fun _ h => h.elim) ?aF ?aB ?aS ?aL ?_; (case aR => repeat (first | exact (Kd.C_below HR0.out HB.out) | (with_reducible refine Kd.C_alloc ?_ _) | (with_reducible refine Kd.C_drewN ?_ _) | (with_reducible refine Kd.C_drew ?_))); (case aB => exact (by repeat (first | (with_reducible first | exact HB.out | apply below_alloc | apply pw_below_drewN | apply below_drew1) | exact HB.out))); (case aF => exact (fun _ _ => trivial)); (case aO => exact ((Kd.R_nil _ _ _ _ (fun _ => True)))); (case aS => exact (below_size (by repeat (first | (with_reducible first | exact HB.out | apply below_alloc | apply pw_below_drewN | apply below_drew1) | exact HB.out)))); (case aL => have := LMc10.out; omega); intro v256 w17 ho hb hg hat; rw [← Ny255.out] at ho; have n0_ := Aside0.mk (hb); have n1_ := Aside0.mk (ho); clear HB; have HB := n0_; have HO257 := n1_; clear n0_ n1_; clear ho hb hg hat; obtain ⟨Ao18, co18, eo18⟩ := Kd.R_slice HO257.out; subst eo18) | ((with_reducible refine gate_callee (f := 15) rfl ?_); refine goesL_ (some 29) rfl rfl Try.func15 (by kernel_rfl) rfl #[.slice Ao18 y255.length co18, .int .u64 a2] rfl (by (try simp only [List.map_toArray, List.map_cons, List.map_nil]); first | done | rfl | (simp only [List.length_drop, List.length_take]; rfl)) ?_; (with_reducible refine (codec_PutUint.calls _ _ y255 a2 t258 _ ?side1 ?side2 A11.out).mono ?_); (case side1 => repeat (first | exact (Kd.R_reads' HO257.out).2.2 | (with_reducible refine Kd.C_alloc ?_ _) | (with_reducible refine Kd.C_drewN ?_ _) | (with_reducible refine Kd.C_drew ?_))); (case side2 => exact (Kd.R_reads' HO257.out).2.1); rintro e w19 ⟨v259, rfl, ho0, hb⟩; refine ⟨_, rfl, ?_⟩; have n0_ := Aside0.mk (Kd.R_elder' (by (with_reducible repeat (first | apply Kd.R_alloc | apply Kd.R_drewN | apply Kd.R_drew)); exact HO257.out) (Kd.R_base ho0) hb); have n1_ := Aside0.mk (Kd.R_lower (Kd.R_new' ho0 (Kd.R_lt (by (with_reducible repeat (first | apply Kd.R_alloc | apply Kd.R_drewN | apply Kd.R_drew)); exact HO257.out))) (below_size (by repeat (first | (with_reducible first | exact HB.out | apply below_alloc | apply pw_below_drewN | apply below_drew1) | exact HB.out)))); have n2_ := Aside0.mk (below_step (by repeat (first | (with_reducible first | exact HB.out | apply below_alloc | apply pw_below_drewN | apply below_drew1) | exact HB.out)) hb); clear HO257; clear HB; have HO257 := n0_; have HO260 := n1_; have HB := n2_; clear n0_ n1_ n2_; (try clear hb); (try clear hb2); (try clear hk); (try clear hi); (try clear ho0); obtain ⟨Ao20, co20, eo20⟩ := Kd.R_slice HO260.out; subst eo20) | ((with_reducible refine gate_callee (f := 16) rfl ?_); refine goesL_ (some 31) rfl rfl Try.func16 (by kernel_rfl) rfl #[.slice Ao20 t258.length co20, .int .i64 a3] rfl (by (try simp only [List.map_toArray, List.map_cons, List.map_nil]); first | done | rfl | (simp only [List.length_drop, List.length_take]; rfl)) ?_; (with_reducible refine (codec_PutInt.calls _ _ t258 a3 t261 _ ?side1 ?side2 A12.out).mono ?_); (case side1 => repeat (first | exact (Kd.R_reads' HO260.out).2.2 | (with_reducible refine Kd.C_alloc ?_ _) | (with_reducible refine Kd.C_drewN ?_ _) | (with_reducible refine Kd.C_drew ?_))); (case side2 => exact (Kd.R_reads' HO260.out).2.1); rintro e w21 ⟨v262, rfl, ho0, hb⟩; refine ⟨_, rfl, ?_⟩; have n0_ := Aside0.mk (Kd.R_elder' (by (with_reducible repeat (first | apply Kd.R_alloc | apply Kd.R_drewN | apply Kd.R_drew)); exact HO257.out) (Kd.R_base ho0) hb); have n1_ := Aside0.mk (Kd.R_elder' (by (with_reducible repeat (first | apply Kd.R_alloc | apply Kd.R_drewN | apply Kd.R_drew)); exact HO260.out) (Kd.R_base ho0) hb); have n2_ := Aside0.mk (Kd.R_lower (Kd.R_new' (Kd.R_new' ho0 (Kd.R_lt (by (with_reducible repeat (first | apply Kd.R_alloc | apply Kd.R_drewN | apply Kd.R_drew)); exact HO257.out))) (Kd.R_lt (by (with_reducible repeat (first | apply Kd.R_alloc | apply Kd.R_drewN | apply Kd.R_drew)); exact HO260.out))) (below_size (by repeat (first | (with_reducible first | exact HB.out | apply below_alloc | apply pw_below_drewN | apply below_drew1) | exact HB.out)))); have n3_ := Aside0.mk (below_step (by repeat (first | (with_reducible first | exact HB.out | apply below_alloc | apply pw_below_drewN | apply below_drew1) | exact HB.out)) hb); clear HO257; clear HO260; clear HB; have HO257 := n0_; have HO260 := n1_; have HO263 := n2_; have HB := n3_; clear n0_ n1_ n2_ n3_; (try clear hb); (try clear hb2); (try clear hk); (try clear hi); (try clear ho0); obtain ⟨Ao22, co22, eo22⟩ := Kd.R_slice HO263.out; subst eo22) | ((with_reducible refine gate_builtin (b := .append) (xs := #[.const (.slice none 0 0), .tmp 34]) rfl ?_); (try (refine gate_guard (by rfl) ?_; dsimp only)); at_builtin; refine Kd.R_append_rows (Kd.int .u8) (w0 := w) w.heap.size rfl (.const (.slice none 0 0)) (.tmp 34) 22 5 (.int .u8 0) 1 rfl Try.underlying22 info5 rfl (by decide) (by omega) (.slice none 0 0) ([] : List Int) t261 _ _ _ (fun k_ => some k_ ≠ (.slice Ao18 y255.length co18 : Value).ownBlock ∧ some k_ ≠ (.slice Ao20 t258.length co20 : Value).ownBlock ∧ some k_ ≠ (.slice Ao22 t261.length co22 : Value).ownBlock) (fun _ => False) rfl rfl ?aO ?aR (fun _ _ h => h) (fun _ h => h.elim) ?aF ?aB ?aS ?aL ?_; (case aR => repeat (first | exact (Kd.R_reads' HO263.out).2.2 | (with_reducible refine Kd.C_alloc ?_ _) | (with_reducible refine Kd.C_drewN ?_ _) | (with_reducible refine Kd.C_drew ?_))); (case aB => exact (by repeat (first | (with_reducible first | exact HB.out | apply below_alloc | apply pw_below_drewN | apply below_drew1) | exact HB.out))); (case aF => exact (fun k_ hk => ⟨Kd.fresh' (Kd.R_lt (by (with_reducible repeat (first | apply Kd.R_alloc | apply Kd.R_drewN | apply Kd.R_drew)); exact HO257.out)) k_ hk, Kd.fresh' (Kd.R_lt (by (with_reducible repeat (first | apply Kd.R_alloc | apply Kd.R_drewN | apply Kd.R_drew)); exact HO260.out)) k_ hk, Kd.fresh' (Kd.R_lt (by (with_reducible repeat (first | apply Kd.R_alloc | apply Kd.R_drewN | apply Kd.R_drew)); exact HO263.out)) k_ hk⟩)); (case aO => exact ((Kd.R_nil _ _ _ _ (fun k_ => some k_ ≠ (.slice Ao18 y255.length co18 : Value).ownBlock ∧ some k_ ≠ (.slice Ao20 t258.length co20 : Value).ownBlock ∧ some k_ ≠ (.slice Ao22 t261.length co22 : Value).ownBlock)))); (case aS => exact (below_size (by repeat (first | (with_reducible first | exact HB.out | apply below_alloc | apply pw_below_drewN | apply below_drew1) | exact HB.out)))); (case aL => have := LMc13.out; omega); intro v265 w23 ho hb hg hat; rw [← Ny264.out] at ho; have n0_ := Aside0.mk (Kd.R_after (Kd.R_apart_nil (by (with_reducible repeat (first | apply Kd.R_alloc | apply Kd.R_drewN | apply Kd.R_drew)); exact HO257.out)) hg hat); have n1_ := Aside0.mk (Kd.R_after (Kd.R_apart_nil (by (with_reducible repeat (first | apply Kd.R_alloc | apply Kd.R_drewN | apply Kd.R_drew)); exact HO260.out)) hg hat); have n2_ := Aside0.mk (Kd.R_after (Kd.R_apart_nil (by (with_reducible repeat (first | apply Kd.R_alloc | apply Kd.R_drewN | apply Kd.R_drew)); exact HO263.out)) hg hat); have n3_ := Aside0.mk (hb); have n4_ := Aside0.mk (ho); clear HO257; clear HO260; clear HO263; clear HB; have HO257 := n0_; have HO260 := n1_; have HO263 := n2_; have HB := n3_; have HO266 := n4_; clear n0_ n1_ n2_ n3_ n4_; clear ho hb hg hat) | ((with_reducible refine gate_builtin (b := .append) (xs := #[.tmp 35, .tmp 36]) rfl ?_); (try (refine gate_guard (by rfl) ?_; dsimp only)); at_builtin; refine Kd.R_append_rows (Kd.int .u8) (w0 := w) w.heap.size rfl (.tmp 35) (.tmp 36) 22 5 (.int .u8 0) 1 rfl Try.underlying22 info5 rfl (by decide) (by omega) v265 y264 l1 _ _ _ (fun k_ => some k_ ≠ (.slice Ao18 y255.length co18 : Value).ownBlock ∧ some k_ ≠ (.slice Ao20 t258.length co20 : Value).ownBlock ∧ some k_ ≠ (.slice Ao22 t261.length co22 : Value).ownBlock) (fun _ => False) rfl rfl ?aO ?aR (fun _ _ h => h) (fun _ h => h.elim) ?aF ?aB ?aS ?aL ?_; (case aR => repeat (first | exact (Kd.C_below HR1.out HB.out) | (with_reducible refine Kd.C_alloc ?_ _) | (with_reducible refine Kd.C_drewN ?_ _) | (with_reducible refine Kd.C_drew ?_))); (case aB => exact (by repeat (first | (with_reducible first | exact HB.out | apply below_alloc | apply pw_below_drewN | apply below_drew1) | exact HB.out))); (case aF => exact (fun k_ hk => ⟨Kd.fresh' (Kd.R_lt (by (with_reducible repeat (first | apply Kd.R_alloc | apply Kd.R_drewN | apply Kd.R_drew)); exact HO257.out)) k_ hk, Kd.fresh' (Kd.R_lt (by (with_reducible repeat (first | apply Kd.R_alloc | apply Kd.R_drewN | apply Kd.R_drew)); exact HO260.out)) k_ hk, Kd.fresh' (Kd.R_lt (by (with_reducible repeat (first | apply Kd.R_alloc | apply Kd.R_drewN | apply Kd.R_drew)); exact HO263.out)) k_ hk⟩)); (case aO => exact (by (with_reducible repeat (first | apply Kd.R_alloc | apply Kd.R_drewN | apply Kd.R_drew)); exact HO266.out)); (case aS => exact (below_size (by repeat (first | (with_reducible first | exact HB.out | apply below_alloc | apply pw_below_drewN | apply below_drew1) | exact HB.out)))); (case aL => have := LMc14.out; omega); intro v268 w24 ho hb hg hat; rw [← Ny267.out] at ho; have n0_ := Aside0.mk (Kd.R_after (ok := (fun k_ => some k_ ≠ (.slice Ao20 t258.length co20 : Value).ownBlock ∧ some k_ ≠ (.slice Ao22 t261.length co22 : Value).ownBlock)) (by (with_reducible repeat (first | apply Kd.R_alloc | apply Kd.R_drewN | apply Kd.R_drew)); exact Kd.R_mono HO257.out (fun _ hk => ⟨⟨hk.1.1.2, hk.1.2⟩, hk.2⟩)) hg hat); have n1_ := Aside0.mk (Kd.R_after (ok := (fun k_ => some k_ ≠ (.slice Ao18 y255.length co18 : Value).ownBlock ∧ some k_ ≠ (.slice Ao22 t261.length co22 : Value).ownBlock)) (by (with_reducible repeat (first | apply Kd.R_alloc | apply Kd.R_drewN | apply Kd.R_drew)); exact Kd.R_mono HO260.out (fun _ hk => ⟨⟨hk.1.1.2, hk.1.2⟩, hk.2⟩)) hg hat); have n2_ := Aside0.mk (Kd.R_after (ok := (fun k_ => some k_ ≠ (.slice Ao18 y255.length co18 : Value).ownBlock ∧ some k_ ≠ (.slice Ao20 t258.length co20 : Value).ownBlock)) (by (with_reducible repeat (first | apply Kd.R_alloc | apply Kd.R_drewN | apply Kd.R_drew)); exact Kd.R_mono HO263.out (fun _ hk => ⟨⟨hk.1.1.2, hk.1.2⟩, hk.2⟩)) hg hat); have n3_ := Aside0.mk (hb); have n4_ := Aside0.mk (ho); clear HO257; clear HO260; clear HO263; clear HB; clear HO266; have HO257 := n0_; have HO260 := n1_; have HO263 := n2_; have HB := n3_; have HO269 := n4_; clear n0_ n1_ n2_ n3_ n4_; clear ho hb hg hat; obtain ⟨Ao25, co25, eo25⟩ := Kd.R_slice HO269.out; subst eo25) | ((with_reducible refine gate_callee (f := 20) rfl ?_); refine goesL_ (some 42) rfl rfl Try.func20 (by kernel_rfl) rfl #[.slice Ao25 y267.length co25, .int .i64 (l0.length : Int)] rfl (by (try simp only [List.map_toArray, List.map_cons, List.map_nil]); first | done | rfl | (simp only [List.length_drop, List.length_take]; rfl)) ?_; (with_reducible refine (codec_Uint.calls _ _ y267 (l0.length : Int) t270 t271 t272 _ ?side1 ?side2 A15.out).mono ?_); (case side1 => repeat (first | exact (Kd.R_reads' HO269.out).2.2 | (with_reducible refine Kd.C_alloc ?_ _) | (with_reducible refine Kd.C_drewN ?_ _) | (with_reducible refine Kd.C_drew ?_))); (case side2 => exact (Kd.R_reads' HO269.out).2.1); rintro e w' ⟨rfl, ⟨nd, rfl⟩⟩; refine ⟨_, rfl, ?_⟩))
              (try simp only [Act.put, List.setIfInBounds_toArray, List.set_cons_zero, List.set_cons_succ])
              go_cut [63] (fun v63 wc => ∃ (kq : Nat) (x63_15 : Bool), v63 = .bool x63_15 ∧ Aside0 (stockyardlaw01_CodecNumbersBack.j1 kq a3 y267 (t261.length : Int) t271 x63_15 = some r) ∧ Aside0 (kq ≤ kj4) ∧ Aside0 (Kd.R (Kd.int .u8) 5 wc w.heap.size (fun _ => True) (.slice Ao25 y267.length co25) y267) ∧ Aside0 (Below w.heap.size w wc))
              case first =>
                have H := HC16.out
                clear HC16
                by_cases c26 : t270 = a2
                · rw [if_pos c26] at H
                  have c26b0 : (t270 == a2) = true := beq_iff_eq.mpr c26
                  have c26b1 : (t270 != a2) = false := bne_eq_false_iff_eq.mpr c26
                  clear c26
                  (first | rw [c26b0] | (simp only [i64_w, i32_w]; rw [c26b0]) | skip)
                  by_cases c27 : t272 = 0
                  · rw [if_pos c27] at H
                    have c27b0 : (t272 == 0) = true := beq_iff_eq.mpr c27
                    have c27b1 : (t272 != 0) = false := bne_eq_false_iff_eq.mpr c27
                    clear c27
                    by_cases c28 : t271 ≤ (l0.length : Int)
                    · rw [if_pos c28] at H
                      have c28b0 : decide (t271 ≤ (l0.length : Int)) = true := decide_eq_true c28
                      clear c28
                      have H' := Aside0.mk H
                      clear H
                      go_wp2
                      go_meet
                      case rel => exact ⟨_, (true), (by first | rfl | (simp; done) | (simp [*]; done)), H', ⟨by have := HJ4.out; first | omega | exact Nat.le_refl _⟩, ⟨by (with_reducible repeat (first | apply Kd.R_alloc | apply Kd.R_drewN | apply Kd.R_drew)); exact Kd.R_mono HO269.out (fun _ hk => trivial)⟩, ⟨by repeat (first | (with_reducible first | exact HB.out | apply below_alloc | apply pw_below_drewN | apply below_drew1) | exact HB.out)⟩⟩
                    · rw [if_neg c28] at H
                      have c28b0 : decide (t271 ≤ (l0.length : Int)) = false := decide_eq_false c28
                      clear c28
                      have H' := Aside0.mk H
                      clear H
                      go_wp2
                      go_meet
                      case rel => exact ⟨_, (decide (t271 ≥ (t261.length : Int))), (by first | rfl | (simp; done) | (simp [*]; done)), H', ⟨by have := HJ4.out; first | omega | exact Nat.le_refl _⟩, ⟨by (with_reducible repeat (first | apply Kd.R_alloc | apply Kd.R_drewN | apply Kd.R_drew)); exact Kd.R_mono HO269.out (fun _ hk => trivial)⟩, ⟨by repeat (first | (with_reducible first | exact HB.out | apply below_alloc | apply pw_below_drewN | apply below_drew1) | exact HB.out)⟩⟩
                  · rw [if_neg c27] at H
                    have c27b0 : (t272 == 0) = false := beq_eq_false_iff_ne.mpr c27
                    have c27b1 : (t272 != 0) = true := bne_iff_ne.mpr c27
                    have H' := Aside0.mk H
                    clear H
                    go_wp2
                    go_meet
                    case rel => exact ⟨_, (true), (by first | rfl | (simp; done) | (simp [*]; done)), H', ⟨by have := HJ4.out; first | omega | exact Nat.le_refl _⟩, ⟨by (with_reducible repeat (first | apply Kd.R_alloc | apply Kd.R_drewN | apply Kd.R_drew)); exact Kd.R_mono HO269.out (fun _ hk => trivial)⟩, ⟨by repeat (first | (with_reducible first | exact HB.out | apply below_alloc | apply pw_below_drewN | apply below_drew1) | exact HB.out)⟩⟩
                · rw [if_neg c26] at H
                  have c26b0 : (t270 == a2) = false := beq_eq_false_iff_ne.mpr c26
                  have c26b1 : (t270 != a2) = true := bne_iff_ne.mpr c26
                  (first | rw [c26b0] | (simp only [i64_w, i32_w]; rw [c26b0]) | skip)
                  have H' := Aside0.mk H
                  clear H
                  go_wp2
                  go_meet
                  case rel => exact ⟨_, (true), (by first | rfl | (simp; done) | (simp [*]; done)), H', ⟨by have := HJ4.out; first | omega | exact Nat.le_refl _⟩, ⟨by (with_reducible repeat (first | apply Kd.R_alloc | apply Kd.R_drewN | apply Kd.R_drew)); exact Kd.R_mono HO269.out (fun _ hk => trivial)⟩, ⟨by repeat (first | (with_reducible first | exact HB.out | apply below_alloc | apply pw_below_drewN | apply below_drew1) | exact HB.out)⟩⟩
              case rest =>
                clear HC16
                try clear c1
                try clear c2
                try clear p2
                try clear c6
                try clear c6b0
                try clear c6b1
                try clear c7
                try clear c8
                try clear c10
                try clear c13
                try clear c14
                try clear c15
                try clear c16
                try clear c20
                try clear c26
                try clear c26b0
                try clear c26b1
                try clear c27
                try clear c27b0
                try clear c27b1
                try clear c28
                try clear c28b0
                try clear p2
                obtain ⟨kq, x63_15, rfl, HA, HJ15, HO_9, HB⟩ := hcut
                cases kq with
                | zero => exact absurd HA.out (by simp [stockyardlaw01_CodecNumbersBack.j1])
                | succ kj15 =>
                  have H := HA.out
                  clear HA
                  simp only [stockyardlaw01_CodecNumbersBack.j1] at H
                  by_cases c29 : x63_15 = true
                  · subst c29
                    have H1 : (some false) = some r := by rw [if_pos rfl] at H; exact H
                    clear H
                    have H := H1
                    clear H1
                    obtain rfl := Option.some.inj H
                    go_wp2
                    go_ret
                    exact ⟨by first | rfl | (simp [errW_none, errW_some] <;> rfl) | (simp [*, errW_none, errW_some] <;> rfl), by repeat (first | (with_reducible first | exact HB.out | apply below_alloc | apply pw_below_drewN | apply below_drew1) | exact HB.out)⟩
                  · replace c29 := Bool.eq_false_iff.mpr c29
                    subst c29
                    have H1 : ((codec_Int.f y267 t271).bind fun bt273 => (if bt273.1 = a3 then (if bt273.2.1 = (t261.length : Int) then (if bt273.2.2 = 0 then ((stockyardlaw01_awake.f).bind fun t276 => (some t276)) else (some false)) else (some false)) else (some false))) = some r := by rw [if_neg (show ¬ (false = true) by decide)] at H; exact H
                    clear H
                    have H := H1
                    clear H1
                    replace H := Option.bind_eq_some_iff.mp H
                    obtain ⟨⟨t273, t274, t275⟩, A300, H⟩ := H
                    replace H : (if t273 = a3 then (if t274 = (t261.length : Int) then (if t275 = 0 then ((stockyardlaw01_awake.f).bind fun t276 => (some t276)) else (some false)) else (some false)) else (some false)) = some r := H
                    have A30 := Aside0.mk A300
                    clear A300
                    by_cases c31 : t273 = a3
                    · rw [if_pos c31] at H
                      have c31b0 : (t273 == a3) = true := beq_iff_eq.mpr c31
                      have c31b1 : (t273 != a3) = false := bne_eq_false_iff_eq.mpr c31
                      clear c31
                      by_cases c32 : t274 = (t261.length : Int)
                      · rw [if_pos c32] at H
                        have c32b0 : (t274 == (t261.length : Int)) = true := beq_iff_eq.mpr c32
                        have c32b1 : (t274 != (t261.length : Int)) = false := bne_eq_false_iff_eq.mpr c32
                        clear c32
                        by_cases c33 : t275 = 0
                        · rw [if_pos c33] at H
                          have c33b0 : (t275 == 0) = true := beq_iff_eq.mpr c33
                          have c33b1 : (t275 != 0) = false := bne_eq_false_iff_eq.mpr c33
                          clear c33
                          replace H := Option.bind_eq_some_iff.mp H
                          obtain ⟨t276, A340, H⟩ := H
                          replace H : (some t276) = some r := H
                          have A34 := Aside0.mk A340
                          clear A340
                          obtain rfl := Option.some.inj H
                          go_wp2_with (first | ((with_reducible refine gate_callee (f := 26) rfl ?_); refine goesL_ (some 67) rfl rfl Try.func26 (by kernel_rfl) rfl #[.slice Ao25 y267.length co25, .int .i64 t271] rfl (by (try simp only [List.map_toArray, List.map_cons, List.map_nil]); first | done | rfl | (simp only [List.length_drop, List.length_take]; rfl)) ?_; (with_reducible refine (codec_Int.calls _ _ y267 t271 t273 t274 t275 _ ?side1 ?side2 A30.out).mono ?_); (case side1 => repeat (first | exact (Kd.R_reads' HO_9.out).2.2 | (with_reducible refine Kd.C_alloc ?_ _) | (with_reducible refine Kd.C_drewN ?_ _) | (with_reducible refine Kd.C_drew ?_))); (case side2 => exact (Kd.R_reads' HO_9.out).2.1); rintro e w' ⟨rfl, ⟨nd, rfl⟩⟩; refine ⟨_, rfl, ?_⟩) | (go_at_call 14; (with_reducible refine (stockyardlaw01_awake.calls  t276 _ A34.out).mono ?_); rintro e w35 ⟨rfl, hb⟩; have n0_ := Aside0.mk (Kd.R_below (by (with_reducible repeat (first | apply Kd.R_alloc | apply Kd.R_drewN | apply Kd.R_drew)); exact HO_9.out) hb); have n1_ := Aside0.mk (below_step (by repeat (first | (with_reducible first | exact HB.out | apply below_alloc | apply pw_below_drewN | apply below_drew1) | exact HB.out)) hb); clear HO_9; clear HB; have HO_9 := n0_; have HB := n1_; clear n0_ n1_; (try clear hb); (try clear hb2); (try clear hk); (try clear hi)))
                          go_ret
                          exact ⟨by first | rfl | (simp [errW_none, errW_some] <;> rfl) | (simp [*, errW_none, errW_some] <;> rfl), by repeat (first | (with_reducible first | exact HB.out | apply below_alloc | apply pw_below_drewN | apply below_drew1) | exact HB.out)⟩
                        · rw [if_neg c33] at H
                          have c33b0 : (t275 == 0) = false := beq_eq_false_iff_ne.mpr c33
                          have c33b1 : (t275 != 0) = true := bne_iff_ne.mpr c33
                          obtain rfl := Option.some.inj H
                          go_wp2_with (first | ((with_reducible refine gate_callee (f := 26) rfl ?_); refine goesL_ (some 67) rfl rfl Try.func26 (by kernel_rfl) rfl #[.slice Ao25 y267.length co25, .int .i64 t271] rfl (by (try simp only [List.map_toArray, List.map_cons, List.map_nil]); first | done | rfl | (simp only [List.length_drop, List.length_take]; rfl)) ?_; (with_reducible refine (codec_Int.calls _ _ y267 t271 t273 t274 t275 _ ?side1 ?side2 A30.out).mono ?_); (case side1 => repeat (first | exact (Kd.R_reads' HO_9.out).2.2 | (with_reducible refine Kd.C_alloc ?_ _) | (with_reducible refine Kd.C_drewN ?_ _) | (with_reducible refine Kd.C_drew ?_))); (case side2 => exact (Kd.R_reads' HO_9.out).2.1); rintro e w' ⟨rfl, ⟨nd, rfl⟩⟩; refine ⟨_, rfl, ?_⟩))
                          go_ret
                          exact ⟨by first | rfl | (simp [errW_none, errW_some] <;> rfl) | (simp [*, errW_none, errW_some] <;> rfl), by repeat (first | (with_reducible first | exact HB.out | apply below_alloc | apply pw_below_drewN | apply below_drew1) | exact HB.out)⟩
                      · rw [if_neg c32] at H
                        have c32b0 : (t274 == (t261.length : Int)) = false := beq_eq_false_iff_ne.mpr c32
                        have c32b1 : (t274 != (t261.length : Int)) = true := bne_iff_ne.mpr c32
                        obtain rfl := Option.some.inj H
                        go_wp2_with (first | ((with_reducible refine gate_callee (f := 26) rfl ?_); refine goesL_ (some 67) rfl rfl Try.func26 (by kernel_rfl) rfl #[.slice Ao25 y267.length co25, .int .i64 t271] rfl (by (try simp only [List.map_toArray, List.map_cons, List.map_nil]); first | done | rfl | (simp only [List.length_drop, List.length_take]; rfl)) ?_; (with_reducible refine (codec_Int.calls _ _ y267 t271 t273 t274 t275 _ ?side1 ?side2 A30.out).mono ?_); (case side1 => repeat (first | exact (Kd.R_reads' HO_9.out).2.2 | (with_reducible refine Kd.C_alloc ?_ _) | (with_reducible refine Kd.C_drewN ?_ _) | (with_reducible refine Kd.C_drew ?_))); (case side2 => exact (Kd.R_reads' HO_9.out).2.1); rintro e w' ⟨rfl, ⟨nd, rfl⟩⟩; refine ⟨_, rfl, ?_⟩))
                        go_ret
                        exact ⟨by first | rfl | (simp [errW_none, errW_some] <;> rfl) | (simp [*, errW_none, errW_some] <;> rfl), by repeat (first | (with_reducible first | exact HB.out | apply below_alloc | apply pw_below_drewN | apply below_drew1) | exact HB.out)⟩
                    · rw [if_neg c31] at H
                      have c31b0 : (t273 == a3) = false := beq_eq_false_iff_ne.mpr c31
                      have c31b1 : (t273 != a3) = true := bne_iff_ne.mpr c31
                      obtain rfl := Option.some.inj H
                      go_wp2_with (first | ((with_reducible refine gate_callee (f := 26) rfl ?_); refine goesL_ (some 67) rfl rfl Try.func26 (by kernel_rfl) rfl #[.slice Ao25 y267.length co25, .int .i64 t271] rfl (by (try simp only [List.map_toArray, List.map_cons, List.map_nil]); first | done | rfl | (simp only [List.length_drop, List.length_take]; rfl)) ?_; (with_reducible refine (codec_Int.calls _ _ y267 t271 t273 t274 t275 _ ?side1 ?side2 A30.out).mono ?_); (case side1 => repeat (first | exact (Kd.R_reads' HO_9.out).2.2 | (with_reducible refine Kd.C_alloc ?_ _) | (with_reducible refine Kd.C_drewN ?_ _) | (with_reducible refine Kd.C_drew ?_))); (case side2 => exact (Kd.R_reads' HO_9.out).2.1); rintro e w' ⟨rfl, ⟨nd, rfl⟩⟩; refine ⟨_, rfl, ?_⟩))
                      go_ret
                      exact ⟨by first | rfl | (simp [errW_none, errW_some] <;> rfl) | (simp [*, errW_none, errW_some] <;> rfl), by repeat (first | (with_reducible first | exact HB.out | apply below_alloc | apply pw_below_drewN | apply below_drew1) | exact HB.out)⟩
            · rw [if_neg c14] at H
              exact absurd H (by simp)
          · rw [if_neg c13] at H
            exact absurd H (by simp)
        · rw [if_neg c10] at H
          exact absurd H (by simp)

/-- THE ONE PURE STATEMENT of stockyardlaw01_CodecNumbersBack: yours. -/
def stockyardlaw01_CodecNumbersBack.Pure : Prop := ∀ (l0 : List Int) (l1 : List Int) (a2 : Int) (a3 : Int), l0.length ≤ maxLen → l0.length * 1 ≤ 140737488351232 → (∀ x ∈ l0, (Lit.int .u8 x).wf = true) → l1.length ≤ maxLen → l1.length * 1 ≤ 140737488351232 → (∀ x ∈ l1, (Lit.int .u8 x).wf = true) → (Lit.int .u64 a2).wf = true → (Lit.int .i64 a3).wf = true → ∃ k, stockyardlaw01_CodecNumbersBack.f k l0 l1 a2 a3 = some true
theorem stockyardlaw01_CodecNumbersBack.walk (P : stockyardlaw01_CodecNumbersBack.Pure) (a0 : Option Addr) (len0 cap0 : Nat) (z0 : List Int) (a1 : Option Addr) (len1 cap1 : Nat) (z1 : List Int) (a2 : Int) (a3 : Int) (w : World) (w0 : (a0 = none ∧ len0 = 0 ∧ cap0 = 0 ∧ z0 = []) ∨ ∃ x, a0 = some x ∧ len0 ≤ cap0 ∧ cap0 ≤ maxLen ∧ z0.length = cap0 ∧ (∀ i, i < z0.length → w.cell? (x.add i) = some (.int .u8 (z0.getD i 0))) ∧ ∀ n ∈ z0, (Lit.int .u8 n).wf = true) (y0 : len0 * 1 ≤ 140737488351232) (w1 : (a1 = none ∧ len1 = 0 ∧ cap1 = 0 ∧ z1 = []) ∨ ∃ x, a1 = some x ∧ len1 ≤ cap1 ∧ cap1 ≤ maxLen ∧ z1.length = cap1 ∧ (∀ i, i < z1.length → w.cell? (x.add i) = some (.int .u8 (z1.getD i 0))) ∧ ∀ n ∈ z1, (Lit.int .u8 n).wf = true) (y1 : len1 * 1 ≤ 140737488351232) (w2 : (Lit.int .u64 a2).wf = true) (w3 : (Lit.int .i64 a3).wf = true) :
    Calls Try.prog 8 #[.slice a0 len0 cap0, .slice a1 len1 cap1, .int .u64 a2, .int .i64 a3] w fun e w' => e = .returned (.bool true) ∧ Below w.heap.size w w' := by
  obtain ⟨l0, rfl, hr0, hm0, hw0, hc0⟩ := ReadsInt.ofRowC w0
  obtain ⟨l1, rfl, hr1, hm1, hw1, hc1⟩ := ReadsInt.ofRowC w1
  obtain ⟨k, h⟩ := P l0 l1 a2 a3 hm0 y0 hw0 hm1 y1 hw1 w2 w3
  refine (stockyardlaw01_CodecNumbersBack.calls k _ _ l0 _ _ l1 a2 a3 true w (Kd.C_of_reads (d := (0 : Int)) (h1 := fun _ => rfl) hr0) hc0 (Kd.C_of_reads (d := (0 : Int)) (h1 := fun _ => rfl) hr1) hc1 h).mono ?_
  rintro e w' ⟨rfl, hd⟩
  exact ⟨rfl, hd⟩

end Go.Proofs.Ytnaamckkepdkkaa.P
