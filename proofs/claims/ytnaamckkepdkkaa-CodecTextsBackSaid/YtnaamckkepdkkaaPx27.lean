-- WRITTEN BY myprint.py (wip/tools) for this seat
import Derived.Test.YtnaamckkepdkkaaPx0
import Derived.Test.YtnaamckkepdkkaaPx3
import Derived.Test.YtnaamckkepdkkaaPx4
import Derived.Test.YtnaamckkepdkkaaPx11
import Derived.Test.YtnaamckkepdkkaaPx22
import Derived.Test.YtnaamckkepdkkaaHText
namespace Go.Proofs.Ytnaamckkepdkkaa.P
open Go.RowKit Go.Proofs.YtnaamckkepdkkaaW.PrintWords Go.Proofs.YtnaamckkepdkkaaW.PrintLast Go.Proofs.YtnaamckkepdkkaaW.PrintMore
attribute [local go_sem] max2_int min2_int max_two min_two max_three min_three max_four min_four   -- for this text's walks alone
set_option linter.unusedVariables false
set_option linter.unusedSimpArgs false

/-! ### stockyardlaw01_CodecTextsBack: function 13 -/
mutual
def stockyardlaw01_CodecTextsBack.j0 : Nat → List Int → List Int → ByteArray → Bool → Int → Bool → Option (Bool)
  | 0, _, _, _, _, _, _ => none
  | k + 1, x0, x1, x2, x3, x4, x31 => if x31 = true then ((stockyardlaw01_awake.f).bind fun t309 => (some t309)) else (if ([] : List Int).length + x0.length < 140737488355328 then ((codec_PutText.f (([] : List Int) ++ x0) x2).bind fun t313 => ((codec_PutBool.f t313 x3).bind fun t316 => (if ([] : List Int).length + t316.length < 140737488355328 then ((some (([] : List Int) ++ t316 : List Int)).bind fun y319 => (if y319.length + x1.length < 140737488355328 then ((some (y319 ++ x1 : List Int)).bind fun y322 => ((codec_Text.f y322 (x0.length : Int) x4).bind fun bt325 => (if x4 < (x2.size : Int) then (if x4 ≥ 0 then (stockyardlaw01_CodecTextsBack.j1 k x2 x3 y322 (t316.length : Int) bt325.1 bt325.2.1 bt325.2.2 true) else (stockyardlaw01_CodecTextsBack.j1 k x2 x3 y322 (t316.length : Int) bt325.1 bt325.2.1 bt325.2.2 (decide ((x2.size : Int) > 0)))) else (stockyardlaw01_CodecTextsBack.j1 k x2 x3 y322 (t316.length : Int) bt325.1 bt325.2.1 bt325.2.2 false)))) else (none))) else (none)))) else (none))
def stockyardlaw01_CodecTextsBack.j1 : Nat → ByteArray → Bool → List Int → Int → ByteArray → Int → Int → Bool → Option (Bool)
  | 0, _, _, _, _, _, _, _, _ => none
  | k + 1, x2, x3, x11, x12, x13, x14, x15, x66 => if x66 = true then (if x13.toList = ([] : List UInt8) then (if x14 = 0 then (if x15 = 13 then ((stockyardlaw01_awake.f).bind fun t328 => (some t328)) else (some false)) else (some false)) else (some false)) else (if x13.toList = x2.toList then (if x15 = 0 then (stockyardlaw01_CodecTextsBack.j2 k x3 x11 x12 x14 (x14 != (wrap64 (x12 - 1)))) else (stockyardlaw01_CodecTextsBack.j2 k x3 x11 x12 x14 true)) else (stockyardlaw01_CodecTextsBack.j2 k x3 x11 x12 x14 true))
def stockyardlaw01_CodecTextsBack.j2 : Nat → Bool → List Int → Int → Int → Bool → Option (Bool)
  | 0, _, _, _, _, _ => none
  | k + 1, x3, x11, x12, x14, x92 => if x92 = true then (some false) else ((codec_Bool.f x11 x14).bind fun bt329 => (if (bt329.1 == x3) = true then (if bt329.2.1 = x12 then (if bt329.2.2 = 0 then ((stockyardlaw01_awake.f).bind fun t332 => (some t332)) else (some false)) else (some false)) else (some false)))
end
def stockyardlaw01_CodecTextsBack.f (k : Nat) (l0 : List Int) (l1 : List Int) (a2 : ByteArray) (a3 : Bool) (a4 : Int) : Option (Bool) := if (l0.length : Int) > 100 then (stockyardlaw01_CodecTextsBack.j0 k l0 l1 a2 a3 a4 true) else (if (l1.length : Int) > 100 then (stockyardlaw01_CodecTextsBack.j0 k l0 l1 a2 a3 a4 true) else (stockyardlaw01_CodecTextsBack.j0 k l0 l1 a2 a3 a4 (decide ((a2.size : Int) > 400))))
theorem stockyardlaw01_CodecTextsBack.mono_l : ∀ k, (∀ y0 y1 y2 y3 y4 y5, LeO (stockyardlaw01_CodecTextsBack.j0 k y0 y1 y2 y3 y4 y5) (stockyardlaw01_CodecTextsBack.j0 (k + 1) y0 y1 y2 y3 y4 y5)) ∧ (∀ y0 y1 y2 y3 y4 y5 y6 y7, LeO (stockyardlaw01_CodecTextsBack.j1 k y0 y1 y2 y3 y4 y5 y6 y7) (stockyardlaw01_CodecTextsBack.j1 (k + 1) y0 y1 y2 y3 y4 y5 y6 y7)) ∧ (∀ y0 y1 y2 y3 y4, LeO (stockyardlaw01_CodecTextsBack.j2 k y0 y1 y2 y3 y4) (stockyardlaw01_CodecTextsBack.j2 (k + 1) y0 y1 y2 y3 y4))
  | 0 => ⟨fun _ _ _ _ _ _ r h => by simp [stockyardlaw01_CodecTextsBack.j0] at h, fun _ _ _ _ _ _ _ _ r h => by simp [stockyardlaw01_CodecTextsBack.j1] at h, fun _ _ _ _ _ r h => by simp [stockyardlaw01_CodecTextsBack.j2] at h⟩
  | k + 1 => by
    obtain ⟨ih0, ih1, ih2⟩ := stockyardlaw01_CodecTextsBack.mono_l k
    refine ⟨?_, ?_, ?_⟩
    · intro y0 y1 y2 y3 y4 y5
      unfold stockyardlaw01_CodecTextsBack.j0
      repeat' first
      | (with_reducible exact ih0 _ _ _ _ _ _)
      | (with_reducible exact ih1 _ _ _ _ _ _ _ _)
      | (with_reducible exact ih2 _ _ _ _ _)
      | (with_reducible exact LeO.refl _)
      | (with_reducible exact LeO.none _)
      | (with_reducible refine LeO.ite ?_ ?_)
      | (with_reducible refine LeO.bind ?_ (fun _ => ?_))
      | exact ih0 _ _ _ _ _ _
      | exact ih1 _ _ _ _ _ _ _ _
      | exact ih2 _ _ _ _ _
      | exact LeO.none _
      | refine LeO.ite ?_ ?_
      | refine LeO.bind ?_ (fun _ => ?_)
    · intro y0 y1 y2 y3 y4 y5 y6 y7
      unfold stockyardlaw01_CodecTextsBack.j1
      repeat' first
      | (with_reducible exact ih0 _ _ _ _ _ _)
      | (with_reducible exact ih1 _ _ _ _ _ _ _ _)
      | (with_reducible exact ih2 _ _ _ _ _)
      | (with_reducible exact LeO.refl _)
      | (with_reducible exact LeO.none _)
      | (with_reducible refine LeO.ite ?_ ?_)
      | (with_reducible refine LeO.bind ?_ (fun _ => ?_))
      | exact ih0 _ _ _ _ _ _
      | exact ih1 _ _ _ _ _ _ _ _
      | exact ih2 _ _ _ _ _
      | exact LeO.none _
      | refine LeO.ite ?_ ?_
      | refine LeO.bind ?_ (fun _ => ?_)
    · intro y0 y1 y2 y3 y4
      unfold stockyardlaw01_CodecTextsBack.j2
      repeat' first
      | (with_reducible exact ih0 _ _ _ _ _ _)
      | (with_reducible exact ih1 _ _ _ _ _ _ _ _)
      | (with_reducible exact ih2 _ _ _ _ _)
      | (with_reducible exact LeO.refl _)
      | (with_reducible exact LeO.none _)
      | (with_reducible refine LeO.ite ?_ ?_)
      | (with_reducible refine LeO.bind ?_ (fun _ => ?_))
      | exact ih0 _ _ _ _ _ _
      | exact ih1 _ _ _ _ _ _ _ _
      | exact ih2 _ _ _ _ _
      | exact LeO.none _
      | refine LeO.ite ?_ ?_
      | refine LeO.bind ?_ (fun _ => ?_)
theorem stockyardlaw01_CodecTextsBack.mono : ∀ a0 a1 a2 a3 a4 k, LeO (stockyardlaw01_CodecTextsBack.f k a0 a1 a2 a3 a4) (stockyardlaw01_CodecTextsBack.f (k + 1) a0 a1 a2 a3 a4) := by
  intro a0 a1 a2 a3 a4 k
  obtain ⟨ih0, ih1, ih2⟩ := stockyardlaw01_CodecTextsBack.mono_l k
  unfold stockyardlaw01_CodecTextsBack.f
  repeat' first
      | (with_reducible exact ih0 _ _ _ _ _ _)
      | (with_reducible exact ih1 _ _ _ _ _ _ _ _)
      | (with_reducible exact ih2 _ _ _ _ _)
      | (with_reducible exact LeO.refl _)
      | (with_reducible exact LeO.none _)
      | (with_reducible refine LeO.ite ?_ ?_)
      | (with_reducible refine LeO.bind ?_ (fun _ => ?_))
      | exact ih0 _ _ _ _ _ _
      | exact ih1 _ _ _ _ _ _ _ _
      | exact ih2 _ _ _ _ _
      | exact LeO.none _
      | refine LeO.ite ?_ ?_
      | refine LeO.bind ?_ (fun _ => ?_)
set_option maxHeartbeats 8000000 in
set_option maxRecDepth 100000 in
theorem stockyardlaw01_CodecTextsBack.calls (k : Nat) (A0 : Option Addr) (c0 : Nat) (l0 : List Int) (A1 : Option Addr) (c1 : Nat) (l1 : List Int) (a2 : ByteArray) (a3 : Bool) (a4 : Int) (r : Bool) (w : World) (hr0 : Kd.C (Kd.int .u8) w A0 l0.length l0) (hc0 : l0.length ≤ c0) (hr1 : Kd.C (Kd.int .u8) w A1 l1.length l1) (hc1 : l1.length ≤ c1) (h : stockyardlaw01_CodecTextsBack.f k l0 l1 a2 a3 a4 = some r) :
    Calls Try.prog 13 #[.slice A0 l0.length c0, .slice A1 l1.length c1, .string a2, .bool a3, .int .i64 a4] w fun e w' => e = .returned (.bool r) ∧ Below w.heap.size w w' := by
  have HR0 := Aside0.mk hr0
  have HC0 := Aside0.mk hc0
  clear hr0 hc0
  have HR1 := Aside0.mk hr1
  have HC1 := Aside0.mk hc1
  clear hr1 hc1
  have HB := Aside0.mk (Below.refl w.heap.size w)
  have H : (if (l0.length : Int) > 100 then (stockyardlaw01_CodecTextsBack.j0 k l0 l1 a2 a3 a4 true) else (if (l1.length : Int) > 100 then (stockyardlaw01_CodecTextsBack.j0 k l0 l1 a2 a3 a4 true) else (stockyardlaw01_CodecTextsBack.j0 k l0 l1 a2 a3 a4 (decide ((a2.size : Int) > 400))))) = some r := h
  clear h
  have HC6 := Aside0.mk H
  clear H
  go_enter Try.func13, Try.ntmps13
  go_upto_region 1 with (fail)
  go_cut [31] (fun v31 wc => ∃ (kq : Nat) (x31_5 : Bool), v31 = .bool x31_5 ∧ Aside0 (stockyardlaw01_CodecTextsBack.j0 kq l0 l1 a2 a3 a4 x31_5 = some r) ∧ Aside0 (kq ≤ k) ∧ Aside0 (Below w.heap.size w wc))
  case first =>
    have H := HC6.out
    clear HC6
    by_cases c7 : (l0.length : Int) > 100
    · rw [if_pos c7] at H
      have c7b0 : decide (100 < (l0.length : Int)) = true := decide_eq_true c7
      have c7b1 : decide (100 < l0.length) = true := decide_eq_true (by omega)
      clear c7
      (first | rw [c7b0] | (simp only [i64_w, i32_w]; rw [c7b0]) | skip)
      have H' := Aside0.mk H
      clear H
      go_wp2
      go_meet
      case rel => exact ⟨_, (true), (by first | rfl | (simp; done) | (simp [*]; done)), H', ⟨by first | omega | exact Nat.le_refl _⟩, ⟨by repeat (first | (with_reducible first | exact HB.out | apply below_alloc | apply pw_below_drewN | apply below_drew1) | exact HB.out)⟩⟩
    · rw [if_neg c7] at H
      have c7b0 : decide (100 < (l0.length : Int)) = false := decide_eq_false c7
      have c7b1 : decide (100 < l0.length) = false := decide_eq_false (by omega)
      clear c7
      (first | rw [c7b0] | (simp only [i64_w, i32_w]; rw [c7b0]) | skip)
      by_cases c8 : (l1.length : Int) > 100
      · rw [if_pos c8] at H
        have c8b0 : decide (100 < (l1.length : Int)) = true := decide_eq_true c8
        have c8b1 : decide (100 < l1.length) = true := decide_eq_true (by omega)
        clear c8
        have H' := Aside0.mk H
        clear H
        go_wp2
        go_meet
        case rel => exact ⟨_, (true), (by first | rfl | (simp; done) | (simp [*]; done)), H', ⟨by first | omega | exact Nat.le_refl _⟩, ⟨by repeat (first | (with_reducible first | exact HB.out | apply below_alloc | apply pw_below_drewN | apply below_drew1) | exact HB.out)⟩⟩
      · rw [if_neg c8] at H
        have c8b0 : decide (100 < (l1.length : Int)) = false := decide_eq_false c8
        have c8b1 : decide (100 < l1.length) = false := decide_eq_false (by omega)
        clear c8
        have H' := Aside0.mk H
        clear H
        go_wp2
        go_meet
        case rel => exact ⟨_, (decide ((a2.size : Int) > 400)), (by first | rfl | (simp; done) | (simp [*]; done)), H', ⟨by first | omega | exact Nat.le_refl _⟩, ⟨by repeat (first | (with_reducible first | exact HB.out | apply below_alloc | apply pw_below_drewN | apply below_drew1) | exact HB.out)⟩⟩
  case rest =>
    clear HC6
    try clear c1
    try clear p2
    try clear c7
    try clear c7b0
    try clear c7b1
    try clear c8
    try clear c8b0
    try clear c8b1
    obtain ⟨kq, x31_5, rfl, HA, HJ5, HB⟩ := hcut
    cases kq with
    | zero => exact absurd HA.out (by simp [stockyardlaw01_CodecTextsBack.j0])
    | succ kj5 =>
      have H := HA.out
      clear HA
      simp only [stockyardlaw01_CodecTextsBack.j0] at H
      by_cases c9 : x31_5 = true
      · subst c9
        have H1 : ((stockyardlaw01_awake.f).bind fun t309 => (some t309)) = some r := by rw [if_pos rfl] at H; exact H
        clear H
        have H := H1
        clear H1
        replace H := Option.bind_eq_some_iff.mp H
        obtain ⟨t309, A100, H⟩ := H
        replace H : (some t309) = some r := H
        have A10 := Aside0.mk A100
        clear A100
        obtain rfl := Option.some.inj H
        go_wp2_with (first | ((with_reducible refine gate_callee (f := 14) rfl ?_); refine goesL_ (some 32) rfl rfl Try.func14 (by kernel_rfl) rfl #[] rfl (by (try simp only [List.map_toArray, List.map_cons, List.map_nil]); first | done | rfl | (simp only [List.length_drop, List.length_take]; rfl)) ?_; (with_reducible refine (stockyardlaw01_awake.calls  t309 _ A10.out).mono ?_); rintro e w11 ⟨rfl, hb⟩; refine ⟨_, rfl, ?_⟩; have n0_ := Aside0.mk (below_step (by repeat (first | (with_reducible first | exact HB.out | apply below_alloc | apply pw_below_drewN | apply below_drew1) | exact HB.out)) hb); clear HB; have HB := n0_; clear n0_; (try clear hb); (try clear hb2); (try clear hk); (try clear hi)))
        go_ret
        exact ⟨by first | rfl | (simp [errW_none, errW_some] <;> rfl) | (simp [*, errW_none, errW_some] <;> rfl), by repeat (first | (with_reducible first | exact HB.out | apply below_alloc | apply pw_below_drewN | apply below_drew1) | exact HB.out)⟩
      · replace c9 := Bool.eq_false_iff.mpr c9
        subst c9
        have H1 : (if ([] : List Int).length + l0.length < 140737488355328 then ((codec_PutText.f (([] : List Int) ++ l0) a2).bind fun t313 => ((codec_PutBool.f t313 a3).bind fun t316 => (if ([] : List Int).length + t316.length < 140737488355328 then ((some (([] : List Int) ++ t316 : List Int)).bind fun y319 => (if y319.length + l1.length < 140737488355328 then ((some (y319 ++ l1 : List Int)).bind fun y322 => ((codec_Text.f y322 (l0.length : Int) a4).bind fun bt325 => (if a4 < (a2.size : Int) then (if a4 ≥ 0 then (stockyardlaw01_CodecTextsBack.j1 kj5 a2 a3 y322 (t316.length : Int) bt325.1 bt325.2.1 bt325.2.2 true) else (stockyardlaw01_CodecTextsBack.j1 kj5 a2 a3 y322 (t316.length : Int) bt325.1 bt325.2.1 bt325.2.2 (decide ((a2.size : Int) > 0)))) else (stockyardlaw01_CodecTextsBack.j1 kj5 a2 a3 y322 (t316.length : Int) bt325.1 bt325.2.1 bt325.2.2 false)))) else (none))) else (none)))) else (none)) = some r := by rw [if_neg (show ¬ (false = true) by decide)] at H; exact H
        clear H
        have H := H1
        clear H1
        by_cases c12 : ([] : List Int).length + l0.length < 140737488355328
        · rw [if_pos c12] at H
          have LMc12 := Aside0.mk c12
          clear c12
          obtain ⟨y310, hy310⟩ : ∃ y_ : List Int, y_ = (([] : List Int) ++ l0) := ⟨_, rfl⟩
          replace H : ((codec_PutText.f y310 a2).bind fun t313 => ((codec_PutBool.f t313 a3).bind fun t316 => (if ([] : List Int).length + t316.length < 140737488355328 then ((some (([] : List Int) ++ t316 : List Int)).bind fun y319 => (if y319.length + l1.length < 140737488355328 then ((some (y319 ++ l1 : List Int)).bind fun y322 => ((codec_Text.f y322 (l0.length : Int) a4).bind fun bt325 => (if a4 < (a2.size : Int) then (if a4 ≥ 0 then (stockyardlaw01_CodecTextsBack.j1 kj5 a2 a3 y322 (t316.length : Int) bt325.1 bt325.2.1 bt325.2.2 true) else (stockyardlaw01_CodecTextsBack.j1 kj5 a2 a3 y322 (t316.length : Int) bt325.1 bt325.2.1 bt325.2.2 (decide ((a2.size : Int) > 0)))) else (stockyardlaw01_CodecTextsBack.j1 kj5 a2 a3 y322 (t316.length : Int) bt325.1 bt325.2.1 bt325.2.2 false)))) else (none))) else (none)))) = some r := by first | (rw [hy310]; with_reducible exact H) | (have H2_ := (Option.bind_some _ _).symm.trans H; rw [hy310]; with_reducible exact H2_) | (have H2_ := (Option.bind_some _ _).symm.trans H; with_reducible exact H2_) | with_reducible exact H | (rw [hy310]; exact H) | exact H
          have Ny310 := Aside0.mk hy310
          clear hy310
          replace H := Option.bind_eq_some_iff.mp H
          obtain ⟨t313, A130, H⟩ := H
          replace H : ((codec_PutBool.f t313 a3).bind fun t316 => (if ([] : List Int).length + t316.length < 140737488355328 then ((some (([] : List Int) ++ t316 : List Int)).bind fun y319 => (if y319.length + l1.length < 140737488355328 then ((some (y319 ++ l1 : List Int)).bind fun y322 => ((codec_Text.f y322 (l0.length : Int) a4).bind fun bt325 => (if a4 < (a2.size : Int) then (if a4 ≥ 0 then (stockyardlaw01_CodecTextsBack.j1 kj5 a2 a3 y322 (t316.length : Int) bt325.1 bt325.2.1 bt325.2.2 true) else (stockyardlaw01_CodecTextsBack.j1 kj5 a2 a3 y322 (t316.length : Int) bt325.1 bt325.2.1 bt325.2.2 (decide ((a2.size : Int) > 0)))) else (stockyardlaw01_CodecTextsBack.j1 kj5 a2 a3 y322 (t316.length : Int) bt325.1 bt325.2.1 bt325.2.2 false)))) else (none))) else (none))) = some r := H
          have A13 := Aside0.mk A130
          clear A130
          replace H := Option.bind_eq_some_iff.mp H
          obtain ⟨t316, A140, H⟩ := H
          replace H : (if ([] : List Int).length + t316.length < 140737488355328 then ((some (([] : List Int) ++ t316 : List Int)).bind fun y319 => (if y319.length + l1.length < 140737488355328 then ((some (y319 ++ l1 : List Int)).bind fun y322 => ((codec_Text.f y322 (l0.length : Int) a4).bind fun bt325 => (if a4 < (a2.size : Int) then (if a4 ≥ 0 then (stockyardlaw01_CodecTextsBack.j1 kj5 a2 a3 y322 (t316.length : Int) bt325.1 bt325.2.1 bt325.2.2 true) else (stockyardlaw01_CodecTextsBack.j1 kj5 a2 a3 y322 (t316.length : Int) bt325.1 bt325.2.1 bt325.2.2 (decide ((a2.size : Int) > 0)))) else (stockyardlaw01_CodecTextsBack.j1 kj5 a2 a3 y322 (t316.length : Int) bt325.1 bt325.2.1 bt325.2.2 false)))) else (none))) else (none)) = some r := H
          have A14 := Aside0.mk A140
          clear A140
          by_cases c15 : ([] : List Int).length + t316.length < 140737488355328
          · rw [if_pos c15] at H
            have LMc15 := Aside0.mk c15
            clear c15
            obtain ⟨y319, hy319⟩ : ∃ y_ : List Int, y_ = (([] : List Int) ++ t316) := ⟨_, rfl⟩
            replace H : (if y319.length + l1.length < 140737488355328 then ((some (y319 ++ l1 : List Int)).bind fun y322 => ((codec_Text.f y322 (l0.length : Int) a4).bind fun bt325 => (if a4 < (a2.size : Int) then (if a4 ≥ 0 then (stockyardlaw01_CodecTextsBack.j1 kj5 a2 a3 y322 (t316.length : Int) bt325.1 bt325.2.1 bt325.2.2 true) else (stockyardlaw01_CodecTextsBack.j1 kj5 a2 a3 y322 (t316.length : Int) bt325.1 bt325.2.1 bt325.2.2 (decide ((a2.size : Int) > 0)))) else (stockyardlaw01_CodecTextsBack.j1 kj5 a2 a3 y322 (t316.length : Int) bt325.1 bt325.2.1 bt325.2.2 false)))) else (none)) = some r := by first | (rw [hy319]; with_reducible exact H) | (have H2_ := (Option.bind_some _ _).symm.trans H; rw [hy319]; with_reducible exact H2_) | (have H2_ := (Option.bind_some _ _).symm.trans H; with_reducible exact H2_) | with_reducible exact H | (rw [hy319]; exact H) | exact H
            have Ny319 := Aside0.mk hy319
            clear hy319
            by_cases c16 : y319.length + l1.length < 140737488355328
            · rw [if_pos c16] at H
              have LMc16 := Aside0.mk c16
              clear c16
              obtain ⟨y322, hy322⟩ : ∃ y_ : List Int, y_ = (y319 ++ l1) := ⟨_, rfl⟩
              replace H : ((codec_Text.f y322 (l0.length : Int) a4).bind fun bt325 => (if a4 < (a2.size : Int) then (if a4 ≥ 0 then (stockyardlaw01_CodecTextsBack.j1 kj5 a2 a3 y322 (t316.length : Int) bt325.1 bt325.2.1 bt325.2.2 true) else (stockyardlaw01_CodecTextsBack.j1 kj5 a2 a3 y322 (t316.length : Int) bt325.1 bt325.2.1 bt325.2.2 (decide ((a2.size : Int) > 0)))) else (stockyardlaw01_CodecTextsBack.j1 kj5 a2 a3 y322 (t316.length : Int) bt325.1 bt325.2.1 bt325.2.2 false))) = some r := by first | (rw [hy322]; with_reducible exact H) | (have H2_ := (Option.bind_some _ _).symm.trans H; rw [hy322]; with_reducible exact H2_) | (have H2_ := (Option.bind_some _ _).symm.trans H; with_reducible exact H2_) | with_reducible exact H | (rw [hy322]; exact H) | exact H
              have Ny322 := Aside0.mk hy322
              clear hy322
              replace H := Option.bind_eq_some_iff.mp H
              obtain ⟨⟨t325, t326, t327⟩, A170, H⟩ := H
              replace H : (if a4 < (a2.size : Int) then (if a4 ≥ 0 then (stockyardlaw01_CodecTextsBack.j1 kj5 a2 a3 y322 (t316.length : Int) t325 t326 t327 true) else (stockyardlaw01_CodecTextsBack.j1 kj5 a2 a3 y322 (t316.length : Int) t325 t326 t327 (decide ((a2.size : Int) > 0)))) else (stockyardlaw01_CodecTextsBack.j1 kj5 a2 a3 y322 (t316.length : Int) t325 t326 t327 false)) = some r := H
              have A17 := Aside0.mk A170
              clear A170
              have HC18 := Aside0.mk H
              clear H
              go_upto_region 7 with (first | ((with_reducible refine gate_builtin (b := .append) (xs := #[.const (.slice none 0 0), .tmp 33]) rfl ?_); (try (refine gate_guard (by rfl) ?_; dsimp only)); at_builtin; refine Kd.R_append_rows (Kd.int .u8) (w0 := w) w.heap.size rfl (.const (.slice none 0 0)) (.tmp 33) 22 5 (.int .u8 0) 1 rfl Try.underlying22 info5 rfl (by decide) (by omega) (.slice none 0 0) ([] : List Int) l0 _ _ _ (fun _ => True) (fun _ => False) rfl rfl ?aO ?aR (fun _ _ h => h) (fun _ h => h.elim) ?aF ?aB ?aS ?aL ?_; (case aR => repeat (first | exact (Kd.C_below HR0.out HB.out) | (with_reducible refine Kd.C_alloc ?_ _) | (with_reducible refine Kd.C_drewN ?_ _) | (with_reducible refine Kd.C_drew ?_))); (case aB => exact (by repeat (first | (with_reducible first | exact HB.out | apply below_alloc | apply pw_below_drewN | apply below_drew1) | exact HB.out))); (case aF => exact (fun _ _ => trivial)); (case aO => exact ((Kd.R_nil _ _ _ _ (fun _ => True)))); (case aS => exact (below_size (by repeat (first | (with_reducible first | exact HB.out | apply below_alloc | apply pw_below_drewN | apply below_drew1) | exact HB.out)))); (case aL => have := LMc12.out; omega); intro v311 w19 ho hb hg hat; rw [← Ny310.out] at ho; have n0_ := Aside0.mk (hb); have n1_ := Aside0.mk (ho); clear HB; have HB := n0_; have HO312 := n1_; clear n0_ n1_; clear ho hb hg hat; obtain ⟨Ao20, co20, eo20⟩ := Kd.R_slice HO312.out; subst eo20) | ((with_reducible refine gate_callee (f := 21) rfl ?_); refine goesL_ (some 36) rfl rfl Try.func21 (by kernel_rfl) rfl #[.slice Ao20 y310.length co20, .string a2] rfl (by (try simp only [List.map_toArray, List.map_cons, List.map_nil]); first | done | rfl | (simp only [List.length_drop, List.length_take]; rfl)) ?_; (with_reducible refine (codec_PutText.calls _ _ y310 a2 t313 _ ?side1 ?side2 A13.out).mono ?_); (case side1 => repeat (first | exact (Kd.R_reads' HO312.out).2.2 | (with_reducible refine Kd.C_alloc ?_ _) | (with_reducible refine Kd.C_drewN ?_ _) | (with_reducible refine Kd.C_drew ?_))); (case side2 => exact (Kd.R_reads' HO312.out).2.1); rintro e w21 ⟨v314, rfl, ho0, hb⟩; refine ⟨_, rfl, ?_⟩; have n0_ := Aside0.mk (Kd.R_elder' (by (with_reducible repeat (first | apply Kd.R_alloc | apply Kd.R_drewN | apply Kd.R_drew)); exact HO312.out) (Kd.R_base ho0) hb); have n1_ := Aside0.mk (Kd.R_lower (Kd.R_new' ho0 (Kd.R_lt (by (with_reducible repeat (first | apply Kd.R_alloc | apply Kd.R_drewN | apply Kd.R_drew)); exact HO312.out))) (below_size (by repeat (first | (with_reducible first | exact HB.out | apply below_alloc | apply pw_below_drewN | apply below_drew1) | exact HB.out)))); have n2_ := Aside0.mk (below_step (by repeat (first | (with_reducible first | exact HB.out | apply below_alloc | apply pw_below_drewN | apply below_drew1) | exact HB.out)) hb); clear HO312; clear HB; have HO312 := n0_; have HO315 := n1_; have HB := n2_; clear n0_ n1_ n2_; (try clear hb); (try clear hb2); (try clear hk); (try clear hi); (try clear ho0); obtain ⟨Ao22, co22, eo22⟩ := Kd.R_slice HO315.out; subst eo22) | ((with_reducible refine gate_callee (f := 22) rfl ?_); refine goesL_ (some 38) rfl rfl Try.func22 (by kernel_rfl) rfl #[.slice Ao22 t313.length co22, .bool a3] rfl (by (try simp only [List.map_toArray, List.map_cons, List.map_nil]); first | done | rfl | (simp only [List.length_drop, List.length_take]; rfl)) ?_; (with_reducible refine (codec_PutBool.calls _ _ t313 a3 t316 _ ?side1 ?side2 A14.out).mono ?_); (case side1 => repeat (first | exact (Kd.R_reads' HO315.out).2.2 | (with_reducible refine Kd.C_alloc ?_ _) | (with_reducible refine Kd.C_drewN ?_ _) | (with_reducible refine Kd.C_drew ?_))); (case side2 => exact (Kd.R_reads' HO315.out).2.1); rintro e w23 ⟨v317, rfl, ho0, hb⟩; refine ⟨_, rfl, ?_⟩; have n0_ := Aside0.mk (Kd.R_elder' (by (with_reducible repeat (first | apply Kd.R_alloc | apply Kd.R_drewN | apply Kd.R_drew)); exact HO312.out) (Kd.R_base ho0) hb); have n1_ := Aside0.mk (Kd.R_elder' (by (with_reducible repeat (first | apply Kd.R_alloc | apply Kd.R_drewN | apply Kd.R_drew)); exact HO315.out) (Kd.R_base ho0) hb); have n2_ := Aside0.mk (Kd.R_lower (Kd.R_new' (Kd.R_new' ho0 (Kd.R_lt (by (with_reducible repeat (first | apply Kd.R_alloc | apply Kd.R_drewN | apply Kd.R_drew)); exact HO312.out))) (Kd.R_lt (by (with_reducible repeat (first | apply Kd.R_alloc | apply Kd.R_drewN | apply Kd.R_drew)); exact HO315.out))) (below_size (by repeat (first | (with_reducible first | exact HB.out | apply below_alloc | apply pw_below_drewN | apply below_drew1) | exact HB.out)))); have n3_ := Aside0.mk (below_step (by repeat (first | (with_reducible first | exact HB.out | apply below_alloc | apply pw_below_drewN | apply below_drew1) | exact HB.out)) hb); clear HO312; clear HO315; clear HB; have HO312 := n0_; have HO315 := n1_; have HO318 := n2_; have HB := n3_; clear n0_ n1_ n2_ n3_; (try clear hb); (try clear hb2); (try clear hk); (try clear hi); (try clear ho0); obtain ⟨Ao24, co24, eo24⟩ := Kd.R_slice HO318.out; subst eo24) | ((with_reducible refine gate_builtin (b := .append) (xs := #[.const (.slice none 0 0), .tmp 41]) rfl ?_); (try (refine gate_guard (by rfl) ?_; dsimp only)); at_builtin; refine Kd.R_append_rows (Kd.int .u8) (w0 := w) w.heap.size rfl (.const (.slice none 0 0)) (.tmp 41) 22 5 (.int .u8 0) 1 rfl Try.underlying22 info5 rfl (by decide) (by omega) (.slice none 0 0) ([] : List Int) t316 _ _ _ (fun k_ => some k_ ≠ (.slice Ao20 y310.length co20 : Value).ownBlock ∧ some k_ ≠ (.slice Ao22 t313.length co22 : Value).ownBlock ∧ some k_ ≠ (.slice Ao24 t316.length co24 : Value).ownBlock) (fun _ => False) rfl rfl ?aO ?aR (fun _ _ h => h) (fun _ h => h.elim) ?aF ?aB ?aS ?aL ?_; (case aR => repeat (first | exact (Kd.R_reads' HO318.out).2.2 | (with_reducible refine Kd.C_alloc ?_ _) | (with_reducible refine Kd.C_drewN ?_ _) | (with_reducible refine Kd.C_drew ?_))); (case aB => exact (by repeat (first | (with_reducible first | exact HB.out | apply below_alloc | apply pw_below_drewN | apply below_drew1) | exact HB.out))); (case aF => exact (fun k_ hk => ⟨Kd.fresh' (Kd.R_lt (by (with_reducible repeat (first | apply Kd.R_alloc | apply Kd.R_drewN | apply Kd.R_drew)); exact HO312.out)) k_ hk, Kd.fresh' (Kd.R_lt (by (with_reducible repeat (first | apply Kd.R_alloc | apply Kd.R_drewN | apply Kd.R_drew)); exact HO315.out)) k_ hk, Kd.fresh' (Kd.R_lt (by (with_reducible repeat (first | apply Kd.R_alloc | apply Kd.R_drewN | apply Kd.R_drew)); exact HO318.out)) k_ hk⟩)); (case aO => exact ((Kd.R_nil _ _ _ _ (fun k_ => some k_ ≠ (.slice Ao20 y310.length co20 : Value).ownBlock ∧ some k_ ≠ (.slice Ao22 t313.length co22 : Value).ownBlock ∧ some k_ ≠ (.slice Ao24 t316.length co24 : Value).ownBlock)))); (case aS => exact (below_size (by repeat (first | (with_reducible first | exact HB.out | apply below_alloc | apply pw_below_drewN | apply below_drew1) | exact HB.out)))); (case aL => have := LMc15.out; omega); intro v320 w25 ho hb hg hat; rw [← Ny319.out] at ho; have n0_ := Aside0.mk (Kd.R_after (Kd.R_apart_nil (by (with_reducible repeat (first | apply Kd.R_alloc | apply Kd.R_drewN | apply Kd.R_drew)); exact HO312.out)) hg hat); have n1_ := Aside0.mk (Kd.R_after (Kd.R_apart_nil (by (with_reducible repeat (first | apply Kd.R_alloc | apply Kd.R_drewN | apply Kd.R_drew)); exact HO315.out)) hg hat); have n2_ := Aside0.mk (Kd.R_after (Kd.R_apart_nil (by (with_reducible repeat (first | apply Kd.R_alloc | apply Kd.R_drewN | apply Kd.R_drew)); exact HO318.out)) hg hat); have n3_ := Aside0.mk (hb); have n4_ := Aside0.mk (ho); clear HO312; clear HO315; clear HO318; clear HB; have HO312 := n0_; have HO315 := n1_; have HO318 := n2_; have HB := n3_; have HO321 := n4_; clear n0_ n1_ n2_ n3_ n4_; clear ho hb hg hat) | ((with_reducible refine gate_builtin (b := .append) (xs := #[.tmp 42, .tmp 43]) rfl ?_); (try (refine gate_guard (by rfl) ?_; dsimp only)); at_builtin; refine Kd.R_append_rows (Kd.int .u8) (w0 := w) w.heap.size rfl (.tmp 42) (.tmp 43) 22 5 (.int .u8 0) 1 rfl Try.underlying22 info5 rfl (by decide) (by omega) v320 y319 l1 _ _ _ (fun k_ => some k_ ≠ (.slice Ao20 y310.length co20 : Value).ownBlock ∧ some k_ ≠ (.slice Ao22 t313.length co22 : Value).ownBlock ∧ some k_ ≠ (.slice Ao24 t316.length co24 : Value).ownBlock) (fun _ => False) rfl rfl ?aO ?aR (fun _ _ h => h) (fun _ h => h.elim) ?aF ?aB ?aS ?aL ?_; (case aR => repeat (first | exact (Kd.C_below HR1.out HB.out) | (with_reducible refine Kd.C_alloc ?_ _) | (with_reducible refine Kd.C_drewN ?_ _) | (with_reducible refine Kd.C_drew ?_))); (case aB => exact (by repeat (first | (with_reducible first | exact HB.out | apply below_alloc | apply pw_below_drewN | apply below_drew1) | exact HB.out))); (case aF => exact (fun k_ hk => ⟨Kd.fresh' (Kd.R_lt (by (with_reducible repeat (first | apply Kd.R_alloc | apply Kd.R_drewN | apply Kd.R_drew)); exact HO312.out)) k_ hk, Kd.fresh' (Kd.R_lt (by (with_reducible repeat (first | apply Kd.R_alloc | apply Kd.R_drewN | apply Kd.R_drew)); exact HO315.out)) k_ hk, Kd.fresh' (Kd.R_lt (by (with_reducible repeat (first | apply Kd.R_alloc | apply Kd.R_drewN | apply Kd.R_drew)); exact HO318.out)) k_ hk⟩)); (case aO => exact (by (with_reducible repeat (first | apply Kd.R_alloc | apply Kd.R_drewN | apply Kd.R_drew)); exact HO321.out)); (case aS => exact (below_size (by repeat (first | (with_reducible first | exact HB.out | apply below_alloc | apply pw_below_drewN | apply below_drew1) | exact HB.out)))); (case aL => have := LMc16.out; omega); intro v323 w26 ho hb hg hat; rw [← Ny322.out] at ho; have n0_ := Aside0.mk (Kd.R_after (ok := (fun k_ => some k_ ≠ (.slice Ao22 t313.length co22 : Value).ownBlock ∧ some k_ ≠ (.slice Ao24 t316.length co24 : Value).ownBlock)) (by (with_reducible repeat (first | apply Kd.R_alloc | apply Kd.R_drewN | apply Kd.R_drew)); exact Kd.R_mono HO312.out (fun _ hk => ⟨⟨hk.1.1.2, hk.1.2⟩, hk.2⟩)) hg hat); have n1_ := Aside0.mk (Kd.R_after (ok := (fun k_ => some k_ ≠ (.slice Ao20 y310.length co20 : Value).ownBlock ∧ some k_ ≠ (.slice Ao24 t316.length co24 : Value).ownBlock)) (by (with_reducible repeat (first | apply Kd.R_alloc | apply Kd.R_drewN | apply Kd.R_drew)); exact Kd.R_mono HO315.out (fun _ hk => ⟨⟨hk.1.1.2, hk.1.2⟩, hk.2⟩)) hg hat); have n2_ := Aside0.mk (Kd.R_after (ok := (fun k_ => some k_ ≠ (.slice Ao20 y310.length co20 : Value).ownBlock ∧ some k_ ≠ (.slice Ao22 t313.length co22 : Value).ownBlock)) (by (with_reducible repeat (first | apply Kd.R_alloc | apply Kd.R_drewN | apply Kd.R_drew)); exact Kd.R_mono HO318.out (fun _ hk => ⟨⟨hk.1.1.2, hk.1.2⟩, hk.2⟩)) hg hat); have n3_ := Aside0.mk (hb); have n4_ := Aside0.mk (ho); clear HO312; clear HO315; clear HO318; clear HB; clear HO321; have HO312 := n0_; have HO315 := n1_; have HO318 := n2_; have HB := n3_; have HO324 := n4_; clear n0_ n1_ n2_ n3_ n4_; clear ho hb hg hat; obtain ⟨Ao27, co27, eo27⟩ := Kd.R_slice HO324.out; subst eo27) | ((with_reducible refine gate_callee (f := 30) rfl ?_); refine goesL_ (some 50) rfl rfl Try.func30 (by kernel_rfl) rfl #[.slice Ao27 y322.length co27, .int .i64 (l0.length : Int), .int .i64 a4] rfl (by (try simp only [List.map_toArray, List.map_cons, List.map_nil]); first | done | rfl | (simp only [List.length_drop, List.length_take]; rfl)) ?_; (with_reducible refine (codec_Text.calls _ _ y322 (l0.length : Int) a4 t325 t326 t327 _ ?side1 ?side2 A17.out).mono ?_); (case side1 => repeat (first | exact (Kd.R_reads' HO324.out).2.2 | (with_reducible refine Kd.C_alloc ?_ _) | (with_reducible refine Kd.C_drewN ?_ _) | (with_reducible refine Kd.C_drew ?_))); (case side2 => exact (Kd.R_reads' HO324.out).2.1); rintro e w' ⟨rfl, ⟨nd, rfl⟩⟩; refine ⟨_, rfl, ?_⟩))
              (try simp only [Act.put, List.setIfInBounds_toArray, List.set_cons_zero, List.set_cons_succ])
              go_cut [66] (fun v66 wc => ∃ (kq : Nat) (x66_17 : Bool), v66 = .bool x66_17 ∧ Aside0 (stockyardlaw01_CodecTextsBack.j1 kq a2 a3 y322 (t316.length : Int) t325 t326 t327 x66_17 = some r) ∧ Aside0 (kq ≤ kj5) ∧ Aside0 (Kd.R (Kd.int .u8) 5 wc w.heap.size (fun _ => True) (.slice Ao27 y322.length co27) y322) ∧ Aside0 (Below w.heap.size w wc))
              case first =>
                have H := HC18.out
                clear HC18
                by_cases c28 : a4 < (a2.size : Int)
                · rw [if_pos c28] at H
                  have c28b0 : decide (a4 < (a2.size : Int)) = true := decide_eq_true c28
                  clear c28
                  (first | rw [c28b0] | (simp only [i64_w, i32_w]; rw [c28b0]) | skip)
                  by_cases c29 : a4 ≥ 0
                  · rw [if_pos c29] at H
                    have c29b0 : decide (0 ≤ a4) = true := decide_eq_true c29
                    clear c29
                    have H' := Aside0.mk H
                    clear H
                    go_wp2
                    go_meet
                    case rel => exact ⟨_, (true), (by first | rfl | (simp; done) | (simp [*]; done)), H', ⟨by have := HJ5.out; first | omega | exact Nat.le_refl _⟩, ⟨by (with_reducible repeat (first | apply Kd.R_alloc | apply Kd.R_drewN | apply Kd.R_drew)); exact Kd.R_mono HO324.out (fun _ hk => trivial)⟩, ⟨by repeat (first | (with_reducible first | exact HB.out | apply below_alloc | apply pw_below_drewN | apply below_drew1) | exact HB.out)⟩⟩
                  · rw [if_neg c29] at H
                    have c29b0 : decide (0 ≤ a4) = false := decide_eq_false c29
                    clear c29
                    have H' := Aside0.mk H
                    clear H
                    go_wp2
                    go_meet
                    case rel => exact ⟨_, (decide ((a2.size : Int) > 0)), (by first | rfl | (simp; done) | (simp [*]; done)), H', ⟨by have := HJ5.out; first | omega | exact Nat.le_refl _⟩, ⟨by (with_reducible repeat (first | apply Kd.R_alloc | apply Kd.R_drewN | apply Kd.R_drew)); exact Kd.R_mono HO324.out (fun _ hk => trivial)⟩, ⟨by repeat (first | (with_reducible first | exact HB.out | apply below_alloc | apply pw_below_drewN | apply below_drew1) | exact HB.out)⟩⟩
                · rw [if_neg c28] at H
                  have c28b0 : decide (a4 < (a2.size : Int)) = false := decide_eq_false c28
                  clear c28
                  (first | rw [c28b0] | (simp only [i64_w, i32_w]; rw [c28b0]) | skip)
                  have H' := Aside0.mk H
                  clear H
                  go_wp2
                  go_meet
                  case rel => exact ⟨_, (false), (by first | rfl | (simp; done) | (simp [*]; done)), H', ⟨by have := HJ5.out; first | omega | exact Nat.le_refl _⟩, ⟨by (with_reducible repeat (first | apply Kd.R_alloc | apply Kd.R_drewN | apply Kd.R_drew)); exact Kd.R_mono HO324.out (fun _ hk => trivial)⟩, ⟨by repeat (first | (with_reducible first | exact HB.out | apply below_alloc | apply pw_below_drewN | apply below_drew1) | exact HB.out)⟩⟩
              case rest =>
                clear HC18
                try clear c1
                try clear c2
                try clear p2
                try clear c3
                try clear c7
                try clear c7b0
                try clear c7b1
                try clear c8
                try clear c8b0
                try clear c8b1
                try clear c9
                try clear c12
                try clear c13
                try clear c14
                try clear c15
                try clear c16
                try clear c21
                try clear c22
                try clear c28
                try clear c28b0
                try clear c29
                try clear c29b0
                try clear p2
                obtain ⟨kq, x66_17, rfl, HA, HJ17, HO_11, HB⟩ := hcut
                cases kq with
                | zero => exact absurd HA.out (by simp [stockyardlaw01_CodecTextsBack.j1])
                | succ kj17 =>
                  have H := HA.out
                  clear HA
                  simp only [stockyardlaw01_CodecTextsBack.j1] at H
                  by_cases c30 : x66_17 = true
                  · subst c30
                    have H1 : (if t325.toList = ([] : List UInt8) then (if t326 = 0 then (if t327 = 13 then ((stockyardlaw01_awake.f).bind fun t328 => (some t328)) else (some false)) else (some false)) else (some false)) = some r := by rw [if_pos rfl] at H; exact H
                    clear H
                    have H := H1
                    clear H1
                    by_cases c31 : t325.toList = ([] : List UInt8)
                    · rw [if_pos c31] at H
                      have c31b0 : (t325.toList == ([] : List UInt8)) = true := beq_iff_eq.mpr c31
                      have c31b1 : (t325.toList != ([] : List UInt8)) = false := bne_eq_false_iff_eq.mpr c31
                      clear c31
                      by_cases c32 : t326 = 0
                      · rw [if_pos c32] at H
                        have c32b0 : (t326 == 0) = true := beq_iff_eq.mpr c32
                        have c32b1 : (t326 != 0) = false := bne_eq_false_iff_eq.mpr c32
                        clear c32
                        by_cases c33 : t327 = 13
                        · rw [if_pos c33] at H
                          have c33b0 : (t327 == 13) = true := beq_iff_eq.mpr c33
                          have c33b1 : (t327 != 13) = false := bne_eq_false_iff_eq.mpr c33
                          clear c33
                          replace H := Option.bind_eq_some_iff.mp H
                          obtain ⟨t328, A340, H⟩ := H
                          replace H : (some t328) = some r := H
                          have A34 := Aside0.mk A340
                          clear A340
                          obtain rfl := Option.some.inj H
                          go_wp2_with (first | (go_at_call 14; (with_reducible refine (stockyardlaw01_awake.calls  t328 _ A34.out).mono ?_); rintro e w35 ⟨rfl, hb⟩; have n0_ := Aside0.mk (Kd.R_below (by (with_reducible repeat (first | apply Kd.R_alloc | apply Kd.R_drewN | apply Kd.R_drew)); exact HO_11.out) hb); have n1_ := Aside0.mk (below_step (by repeat (first | (with_reducible first | exact HB.out | apply below_alloc | apply pw_below_drewN | apply below_drew1) | exact HB.out)) hb); clear HO_11; clear HB; have HO_11 := n0_; have HB := n1_; clear n0_ n1_; (try clear hb); (try clear hb2); (try clear hk); (try clear hi)))
                          go_ret
                          exact ⟨by first | rfl | (simp [errW_none, errW_some] <;> rfl) | (simp [*, errW_none, errW_some] <;> rfl), by repeat (first | (with_reducible first | exact HB.out | apply below_alloc | apply pw_below_drewN | apply below_drew1) | exact HB.out)⟩
                        · rw [if_neg c33] at H
                          have c33b0 : (t327 == 13) = false := beq_eq_false_iff_ne.mpr c33
                          have c33b1 : (t327 != 13) = true := bne_iff_ne.mpr c33
                          obtain rfl := Option.some.inj H
                          go_wp2
                          go_ret
                          exact ⟨by first | rfl | (simp [errW_none, errW_some] <;> rfl) | (simp [*, errW_none, errW_some] <;> rfl), by repeat (first | (with_reducible first | exact HB.out | apply below_alloc | apply pw_below_drewN | apply below_drew1) | exact HB.out)⟩
                      · rw [if_neg c32] at H
                        have c32b0 : (t326 == 0) = false := beq_eq_false_iff_ne.mpr c32
                        have c32b1 : (t326 != 0) = true := bne_iff_ne.mpr c32
                        obtain rfl := Option.some.inj H
                        go_wp2
                        go_ret
                        exact ⟨by first | rfl | (simp [errW_none, errW_some] <;> rfl) | (simp [*, errW_none, errW_some] <;> rfl), by repeat (first | (with_reducible first | exact HB.out | apply below_alloc | apply pw_below_drewN | apply below_drew1) | exact HB.out)⟩
                    · rw [if_neg c31] at H
                      have c31b0 : (t325.toList == ([] : List UInt8)) = false := beq_eq_false_iff_ne.mpr c31
                      have c31b1 : (t325.toList != ([] : List UInt8)) = true := bne_iff_ne.mpr c31
                      obtain rfl := Option.some.inj H
                      go_wp2
                      go_ret
                      exact ⟨by first | rfl | (simp [errW_none, errW_some] <;> rfl) | (simp [*, errW_none, errW_some] <;> rfl), by repeat (first | (with_reducible first | exact HB.out | apply below_alloc | apply pw_below_drewN | apply below_drew1) | exact HB.out)⟩
                  · replace c30 := Bool.eq_false_iff.mpr c30
                    subst c30
                    have H1 : (if t325.toList = a2.toList then (if t327 = 0 then (stockyardlaw01_CodecTextsBack.j2 kj17 a3 y322 (t316.length : Int) t326 (t326 != (wrap64 ((t316.length : Int) - 1)))) else (stockyardlaw01_CodecTextsBack.j2 kj17 a3 y322 (t316.length : Int) t326 true)) else (stockyardlaw01_CodecTextsBack.j2 kj17 a3 y322 (t316.length : Int) t326 true)) = some r := by rw [if_neg (show ¬ (false = true) by decide)] at H; exact H
                    clear H
                    have H := H1
                    clear H1
                    have HC36 := Aside0.mk H
                    clear H
                    go_upto_region 9 with (fail)
                    go_cut [92] (fun v92 wc => ∃ (kq : Nat) (x92_35 : Bool), v92 = .bool x92_35 ∧ Aside0 (stockyardlaw01_CodecTextsBack.j2 kq a3 y322 (t316.length : Int) t326 x92_35 = some r) ∧ Aside0 (kq ≤ kj17) ∧ Aside0 (Kd.R (Kd.int .u8) 5 wc w.heap.size (fun _ => True) (.slice Ao27 y322.length co27) y322) ∧ Aside0 (Below w.heap.size w wc))
                    case first =>
                      have H := HC36.out
                      clear HC36
                      by_cases c37 : t325.toList = a2.toList
                      · rw [if_pos c37] at H
                        have c37b0 : (t325.toList == a2.toList) = true := beq_iff_eq.mpr c37
                        have c37b1 : (t325.toList != a2.toList) = false := bne_eq_false_iff_eq.mpr c37
                        clear c37
                        (first | rw [c37b0] | (simp only [i64_w, i32_w]; rw [c37b0]) | skip)
                        by_cases c38 : t327 = 0
                        · rw [if_pos c38] at H
                          have c38b0 : (t327 == 0) = true := beq_iff_eq.mpr c38
                          have c38b1 : (t327 != 0) = false := bne_eq_false_iff_eq.mpr c38
                          clear c38
                          have H' := Aside0.mk H
                          clear H
                          go_wp2
                          go_meet
                          case rel => exact ⟨_, ((t326 != (wrap64 ((t316.length : Int) - 1)))), (by first | rfl | (simp; done) | (simp [*]; done)), H', ⟨by have := HJ5.out; have := HJ17.out; first | omega | exact Nat.le_refl _⟩, ⟨by (with_reducible repeat (first | apply Kd.R_alloc | apply Kd.R_drewN | apply Kd.R_drew)); exact HO_11.out⟩, ⟨by repeat (first | (with_reducible first | exact HB.out | apply below_alloc | apply pw_below_drewN | apply below_drew1) | exact HB.out)⟩⟩
                        · rw [if_neg c38] at H
                          have c38b0 : (t327 == 0) = false := beq_eq_false_iff_ne.mpr c38
                          have c38b1 : (t327 != 0) = true := bne_iff_ne.mpr c38
                          have H' := Aside0.mk H
                          clear H
                          go_wp2
                          go_meet
                          case rel => exact ⟨_, (true), (by first | rfl | (simp; done) | (simp [*]; done)), H', ⟨by have := HJ5.out; have := HJ17.out; first | omega | exact Nat.le_refl _⟩, ⟨by (with_reducible repeat (first | apply Kd.R_alloc | apply Kd.R_drewN | apply Kd.R_drew)); exact HO_11.out⟩, ⟨by repeat (first | (with_reducible first | exact HB.out | apply below_alloc | apply pw_below_drewN | apply below_drew1) | exact HB.out)⟩⟩
                      · rw [if_neg c37] at H
                        have c37b0 : (t325.toList == a2.toList) = false := beq_eq_false_iff_ne.mpr c37
                        have c37b1 : (t325.toList != a2.toList) = true := bne_iff_ne.mpr c37
                        (first | rw [c37b0] | (simp only [i64_w, i32_w]; rw [c37b0]) | skip)
                        have H' := Aside0.mk H
                        clear H
                        go_wp2
                        go_meet
                        case rel => exact ⟨_, (true), (by first | rfl | (simp; done) | (simp [*]; done)), H', ⟨by have := HJ5.out; have := HJ17.out; first | omega | exact Nat.le_refl _⟩, ⟨by (with_reducible repeat (first | apply Kd.R_alloc | apply Kd.R_drewN | apply Kd.R_drew)); exact HO_11.out⟩, ⟨by repeat (first | (with_reducible first | exact HB.out | apply below_alloc | apply pw_below_drewN | apply below_drew1) | exact HB.out)⟩⟩
                    case rest =>
                      clear HC36
                      try clear c1
                      try clear c2
                      try clear p2
                      try clear c3
                      try clear p6
                      try clear c7
                      try clear c7b0
                      try clear c7b1
                      try clear c8
                      try clear c8b0
                      try clear c8b1
                      try clear c9
                      try clear c12
                      try clear c13
                      try clear c14
                      try clear c15
                      try clear c16
                      try clear c21
                      try clear c22
                      try clear c28
                      try clear c28b0
                      try clear c29
                      try clear c29b0
                      try clear c30
                      try clear c31
                      try clear c31b0
                      try clear c31b1
                      try clear c32
                      try clear c32b0
                      try clear c32b1
                      try clear c33
                      try clear c33b0
                      try clear c33b1
                      try clear c37
                      try clear c37b0
                      try clear c37b1
                      try clear c38
                      try clear c38b0
                      try clear c38b1
                      try clear p2
                      obtain ⟨kq, x92_35, rfl, HA, HJ35, HO_11, HB⟩ := hcut
                      cases kq with
                      | zero => exact absurd HA.out (by simp [stockyardlaw01_CodecTextsBack.j2])
                      | succ kj35 =>
                        have H := HA.out
                        clear HA
                        simp only [stockyardlaw01_CodecTextsBack.j2] at H
                        by_cases c39 : x92_35 = true
                        · subst c39
                          have H1 : (some false) = some r := by rw [if_pos rfl] at H; exact H
                          clear H
                          have H := H1
                          clear H1
                          obtain rfl := Option.some.inj H
                          go_wp2
                          go_ret
                          exact ⟨by first | rfl | (simp [errW_none, errW_some] <;> rfl) | (simp [*, errW_none, errW_some] <;> rfl), by repeat (first | (with_reducible first | exact HB.out | apply below_alloc | apply pw_below_drewN | apply below_drew1) | exact HB.out)⟩
                        · replace c39 := Bool.eq_false_iff.mpr c39
                          subst c39
                          have H1 : ((codec_Bool.f y322 t326).bind fun bt329 => (if (bt329.1 == a3) = true then (if bt329.2.1 = (t316.length : Int) then (if bt329.2.2 = 0 then ((stockyardlaw01_awake.f).bind fun t332 => (some t332)) else (some false)) else (some false)) else (some false))) = some r := by rw [if_neg (show ¬ (false = true) by decide)] at H; exact H
                          clear H
                          have H := H1
                          clear H1
                          replace H := Option.bind_eq_some_iff.mp H
                          obtain ⟨⟨t329, t330, t331⟩, A400, H⟩ := H
                          replace H : (if (t329 == a3) = true then (if t330 = (t316.length : Int) then (if t331 = 0 then ((stockyardlaw01_awake.f).bind fun t332 => (some t332)) else (some false)) else (some false)) else (some false)) = some r := H
                          have A40 := Aside0.mk A400
                          clear A400
                          by_cases c41 : (t329 == a3) = true
                          · rw [if_pos c41] at H
                            have c41b0 : (t329 == a3) = true := c41
                            (try (have c41b1 : decide (t329 = a3) = true := by simpa using c41))
                            (try (have c41b2 : (t329 == a3) = true := by simpa using c41))
                            clear c41
                            by_cases c42 : t330 = (t316.length : Int)
                            · rw [if_pos c42] at H
                              have c42b0 : (t330 == (t316.length : Int)) = true := beq_iff_eq.mpr c42
                              have c42b1 : (t330 != (t316.length : Int)) = false := bne_eq_false_iff_eq.mpr c42
                              clear c42
                              by_cases c43 : t331 = 0
                              · rw [if_pos c43] at H
                                have c43b0 : (t331 == 0) = true := beq_iff_eq.mpr c43
                                have c43b1 : (t331 != 0) = false := bne_eq_false_iff_eq.mpr c43
                                clear c43
                                replace H := Option.bind_eq_some_iff.mp H
                                obtain ⟨t332, A440, H⟩ := H
                                replace H : (some t332) = some r := H
                                have A44 := Aside0.mk A440
                                clear A440
                                obtain rfl := Option.some.inj H
                                go_wp2_with (first | ((with_reducible refine gate_callee (f := 28) rfl ?_); refine goesL_ (some 96) rfl rfl Try.func28 (by kernel_rfl) rfl #[.slice Ao27 y322.length co27, .int .i64 t326] rfl (by (try simp only [List.map_toArray, List.map_cons, List.map_nil]); first | done | rfl | (simp only [List.length_drop, List.length_take]; rfl)) ?_; (with_reducible refine (codec_Bool.calls _ _ y322 t326 t329 t330 t331 _ ?side1 ?side2 A40.out).mono ?_); (case side1 => repeat (first | exact (Kd.R_reads' HO_11.out).2.2 | (with_reducible refine Kd.C_alloc ?_ _) | (with_reducible refine Kd.C_drewN ?_ _) | (with_reducible refine Kd.C_drew ?_))); (case side2 => exact (Kd.R_reads' HO_11.out).2.1); rintro e w' ⟨rfl, ⟨nd, rfl⟩⟩; refine ⟨_, rfl, ?_⟩) | (go_at_call 14; (with_reducible refine (stockyardlaw01_awake.calls  t332 _ A44.out).mono ?_); rintro e w45 ⟨rfl, hb⟩; have n0_ := Aside0.mk (Kd.R_below (by (with_reducible repeat (first | apply Kd.R_alloc | apply Kd.R_drewN | apply Kd.R_drew)); exact HO_11.out) hb); have n1_ := Aside0.mk (below_step (by repeat (first | (with_reducible first | exact HB.out | apply below_alloc | apply pw_below_drewN | apply below_drew1) | exact HB.out)) hb); clear HO_11; clear HB; have HO_11 := n0_; have HB := n1_; clear n0_ n1_; (try clear hb); (try clear hb2); (try clear hk); (try clear hi)))
                                go_ret
                                exact ⟨by first | rfl | (simp [errW_none, errW_some] <;> rfl) | (simp [*, errW_none, errW_some] <;> rfl), by repeat (first | (with_reducible first | exact HB.out | apply below_alloc | apply pw_below_drewN | apply below_drew1) | exact HB.out)⟩
                              · rw [if_neg c43] at H
                                have c43b0 : (t331 == 0) = false := beq_eq_false_iff_ne.mpr c43
                                have c43b1 : (t331 != 0) = true := bne_iff_ne.mpr c43
                                obtain rfl := Option.some.inj H
                                go_wp2_with (first | ((with_reducible refine gate_callee (f := 28) rfl ?_); refine goesL_ (some 96) rfl rfl Try.func28 (by kernel_rfl) rfl #[.slice Ao27 y322.length co27, .int .i64 t326] rfl (by (try simp only [List.map_toArray, List.map_cons, List.map_nil]); first | done | rfl | (simp only [List.length_drop, List.length_take]; rfl)) ?_; (with_reducible refine (codec_Bool.calls _ _ y322 t326 t329 t330 t331 _ ?side1 ?side2 A40.out).mono ?_); (case side1 => repeat (first | exact (Kd.R_reads' HO_11.out).2.2 | (with_reducible refine Kd.C_alloc ?_ _) | (with_reducible refine Kd.C_drewN ?_ _) | (with_reducible refine Kd.C_drew ?_))); (case side2 => exact (Kd.R_reads' HO_11.out).2.1); rintro e w' ⟨rfl, ⟨nd, rfl⟩⟩; refine ⟨_, rfl, ?_⟩))
                                go_ret
                                exact ⟨by first | rfl | (simp [errW_none, errW_some] <;> rfl) | (simp [*, errW_none, errW_some] <;> rfl), by repeat (first | (with_reducible first | exact HB.out | apply below_alloc | apply pw_below_drewN | apply below_drew1) | exact HB.out)⟩
                            · rw [if_neg c42] at H
                              have c42b0 : (t330 == (t316.length : Int)) = false := beq_eq_false_iff_ne.mpr c42
                              have c42b1 : (t330 != (t316.length : Int)) = true := bne_iff_ne.mpr c42
                              obtain rfl := Option.some.inj H
                              go_wp2_with (first | ((with_reducible refine gate_callee (f := 28) rfl ?_); refine goesL_ (some 96) rfl rfl Try.func28 (by kernel_rfl) rfl #[.slice Ao27 y322.length co27, .int .i64 t326] rfl (by (try simp only [List.map_toArray, List.map_cons, List.map_nil]); first | done | rfl | (simp only [List.length_drop, List.length_take]; rfl)) ?_; (with_reducible refine (codec_Bool.calls _ _ y322 t326 t329 t330 t331 _ ?side1 ?side2 A40.out).mono ?_); (case side1 => repeat (first | exact (Kd.R_reads' HO_11.out).2.2 | (with_reducible refine Kd.C_alloc ?_ _) | (with_reducible refine Kd.C_drewN ?_ _) | (with_reducible refine Kd.C_drew ?_))); (case side2 => exact (Kd.R_reads' HO_11.out).2.1); rintro e w' ⟨rfl, ⟨nd, rfl⟩⟩; refine ⟨_, rfl, ?_⟩))
                              go_ret
                              exact ⟨by first | rfl | (simp [errW_none, errW_some] <;> rfl) | (simp [*, errW_none, errW_some] <;> rfl), by repeat (first | (with_reducible first | exact HB.out | apply below_alloc | apply pw_below_drewN | apply below_drew1) | exact HB.out)⟩
                          · rw [if_neg c41] at H
                            have c41b0 : (t329 == a3) = false := by simpa using c41
                            (try (have c41b1 : decide (t329 = a3) = false := by simpa using c41))
                            (try (have c41b2 : (t329 == a3) = false := by simpa using c41))
                            (try (have c41b3 : ¬ (t329 = a3) := by simpa using c41))
                            clear c41
                            obtain rfl := Option.some.inj H
                            go_wp2_with (first | ((with_reducible refine gate_callee (f := 28) rfl ?_); refine goesL_ (some 96) rfl rfl Try.func28 (by kernel_rfl) rfl #[.slice Ao27 y322.length co27, .int .i64 t326] rfl (by (try simp only [List.map_toArray, List.map_cons, List.map_nil]); first | done | rfl | (simp only [List.length_drop, List.length_take]; rfl)) ?_; (with_reducible refine (codec_Bool.calls _ _ y322 t326 t329 t330 t331 _ ?side1 ?side2 A40.out).mono ?_); (case side1 => repeat (first | exact (Kd.R_reads' HO_11.out).2.2 | (with_reducible refine Kd.C_alloc ?_ _) | (with_reducible refine Kd.C_drewN ?_ _) | (with_reducible refine Kd.C_drew ?_))); (case side2 => exact (Kd.R_reads' HO_11.out).2.1); rintro e w' ⟨rfl, ⟨nd, rfl⟩⟩; refine ⟨_, rfl, ?_⟩))
                            go_ret
                            exact ⟨by first | rfl | (simp [errW_none, errW_some] <;> rfl) | (simp [*, errW_none, errW_some] <;> rfl), by repeat (first | (with_reducible first | exact HB.out | apply below_alloc | apply pw_below_drewN | apply below_drew1) | exact HB.out)⟩
            · rw [if_neg c16] at H
              exact absurd H (by simp)
          · rw [if_neg c15] at H
            exact absurd H (by simp)
        · rw [if_neg c12] at H
          exact absurd H (by simp)

/-- THE ONE PURE STATEMENT of stockyardlaw01_CodecTextsBack: yours. -/
def stockyardlaw01_CodecTextsBack.Pure : Prop := ∀ (l0 : List Int) (l1 : List Int) (a2 : ByteArray) (a3 : Bool) (a4 : Int), l0.length ≤ maxLen → l0.length * 1 ≤ 140737488351232 → (∀ x ∈ l0, (Lit.int .u8 x).wf = true) → l1.length ≤ maxLen → l1.length * 1 ≤ 140737488351232 → (∀ x ∈ l1, (Lit.int .u8 x).wf = true) → a2.size ≤ 140737488351232 → (Lit.int .i64 a4).wf = true → ∃ k, stockyardlaw01_CodecTextsBack.f k l0 l1 a2 a3 a4 = some true
theorem stockyardlaw01_CodecTextsBack.walk (P : stockyardlaw01_CodecTextsBack.Pure) (a0 : Option Addr) (len0 cap0 : Nat) (z0 : List Int) (a1 : Option Addr) (len1 cap1 : Nat) (z1 : List Int) (a2 : ByteArray) (a3 : Bool) (a4 : Int) (w : World) (w0 : (a0 = none ∧ len0 = 0 ∧ cap0 = 0 ∧ z0 = []) ∨ ∃ x, a0 = some x ∧ len0 ≤ cap0 ∧ cap0 ≤ maxLen ∧ z0.length = cap0 ∧ (∀ i, i < z0.length → w.cell? (x.add i) = some (.int .u8 (z0.getD i 0))) ∧ ∀ n ∈ z0, (Lit.int .u8 n).wf = true) (y0 : len0 * 1 ≤ 140737488351232) (w1 : (a1 = none ∧ len1 = 0 ∧ cap1 = 0 ∧ z1 = []) ∨ ∃ x, a1 = some x ∧ len1 ≤ cap1 ∧ cap1 ≤ maxLen ∧ z1.length = cap1 ∧ (∀ i, i < z1.length → w.cell? (x.add i) = some (.int .u8 (z1.getD i 0))) ∧ ∀ n ∈ z1, (Lit.int .u8 n).wf = true) (y1 : len1 * 1 ≤ 140737488351232) (w2 : a2.size ≤ 140737488351232) (w4 : (Lit.int .i64 a4).wf = true) :
    Calls Try.prog 13 #[.slice a0 len0 cap0, .slice a1 len1 cap1, .string a2, .bool a3, .int .i64 a4] w fun e w' => e = .returned (.bool true) ∧ Below w.heap.size w w' := by
  obtain ⟨l0, rfl, hr0, hm0, hw0, hc0⟩ := ReadsInt.ofRowC w0
  obtain ⟨l1, rfl, hr1, hm1, hw1, hc1⟩ := ReadsInt.ofRowC w1
  obtain ⟨k, h⟩ := P l0 l1 a2 a3 a4 hm0 y0 hw0 hm1 y1 hw1 w2 w4
  refine (stockyardlaw01_CodecTextsBack.calls k _ _ l0 _ _ l1 a2 a3 a4 true w (Kd.C_of_reads (d := (0 : Int)) (h1 := fun _ => rfl) hr0) hc0 (Kd.C_of_reads (d := (0 : Int)) (h1 := fun _ => rfl) hr1) hc1 h).mono ?_
  rintro e w' ⟨rfl, hd⟩
  exact ⟨rfl, hd⟩

end Go.Proofs.Ytnaamckkepdkkaa.P
