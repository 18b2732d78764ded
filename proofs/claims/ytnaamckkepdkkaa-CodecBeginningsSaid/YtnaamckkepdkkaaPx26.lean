-- WRITTEN BY myprint.py (wip/tools) for this seat
import Derived.Test.YtnaamckkepdkkaaPx0
import Derived.Test.YtnaamckkepdkkaaPx3
import Derived.Test.YtnaamckkepdkkaaPx4
import Derived.Test.YtnaamckkepdkkaaHText
namespace Go.Proofs.Ytnaamckkepdkkaa.P
open Go.RowKit Go.Proofs.YtnaamckkepdkkaaW.PrintWords Go.Proofs.YtnaamckkepdkkaaW.PrintLast Go.Proofs.YtnaamckkepdkkaaW.PrintMore
attribute [local go_sem] max2_int min2_int max_two min_two max_three min_three max_four min_four   -- for this text's walks alone
set_option linter.unusedVariables false
set_option linter.unusedSimpArgs false

/-! ### stockyardlaw01_CodecBeginnings: function 12 -/
def stockyardlaw01_CodecBeginnings.j0 : Nat → ByteArray → Int → List Int → Bool → Option (Bool)
  | 0, _, _, _, _ => none
  | k + 1, x0, x1, x5, x23 => if x23 = true then ((stockyardlaw01_awake.f).bind fun t300 => (some t300)) else (if 0 ≤ x1 then (if x1 ≤ (x5.length : Int) then ((codec_Text.f (x5.take (x1 : Int).toNat) 0 (x0.size : Int)).bind fun bt305 => (if bt305.1.toList = ([] : List UInt8) then (if bt305.2.1 = 0 then (if bt305.2.2 = 11 then ((stockyardlaw01_awake.f).bind fun t308 => (some t308)) else (some false)) else (some false)) else (some false))) else (none)) else (none))
def stockyardlaw01_CodecBeginnings.f (k : Nat) (a0 : ByteArray) (a1 : Int) : Option (Bool) := (codec_PutText.f ([] : List Int) a0).bind fun t297 => (if (a0.size : Int) > 400 then (stockyardlaw01_CodecBeginnings.j0 k a0 a1 t297 true) else (if a1 < 0 then (stockyardlaw01_CodecBeginnings.j0 k a0 a1 t297 true) else (stockyardlaw01_CodecBeginnings.j0 k a0 a1 t297 (decide (a1 ≥ (t297.length : Int))))))
theorem stockyardlaw01_CodecBeginnings.mono_l : ∀ k, (∀ y0 y1 y2 y3, LeO (stockyardlaw01_CodecBeginnings.j0 k y0 y1 y2 y3) (stockyardlaw01_CodecBeginnings.j0 (k + 1) y0 y1 y2 y3))
  | 0 => fun _ _ _ _ r h => by simp [stockyardlaw01_CodecBeginnings.j0] at h
  | k + 1 => by
    have ih0 := stockyardlaw01_CodecBeginnings.mono_l k
    · intro y0 y1 y2 y3
      unfold stockyardlaw01_CodecBeginnings.j0
      repeat' first
      | (with_reducible exact ih0 _ _ _ _)
      | (with_reducible exact LeO.refl _)
      | (with_reducible exact LeO.none _)
      | (with_reducible refine LeO.ite ?_ ?_)
      | (with_reducible refine LeO.bind ?_ (fun _ => ?_))
      | exact ih0 _ _ _ _
      | exact LeO.none _
      | refine LeO.ite ?_ ?_
      | refine LeO.bind ?_ (fun _ => ?_)
theorem stockyardlaw01_CodecBeginnings.mono : ∀ a0 a1 k, LeO (stockyardlaw01_CodecBeginnings.f k a0 a1) (stockyardlaw01_CodecBeginnings.f (k + 1) a0 a1) := by
  intro a0 a1 k
  have ih0 := stockyardlaw01_CodecBeginnings.mono_l k
  unfold stockyardlaw01_CodecBeginnings.f
  repeat' first
      | (with_reducible exact ih0 _ _ _ _)
      | (with_reducible exact LeO.refl _)
      | (with_reducible exact LeO.none _)
      | (with_reducible refine LeO.ite ?_ ?_)
      | (with_reducible refine LeO.bind ?_ (fun _ => ?_))
      | exact ih0 _ _ _ _
      | exact LeO.none _
      | refine LeO.ite ?_ ?_
      | refine LeO.bind ?_ (fun _ => ?_)
set_option maxHeartbeats 8000000 in
set_option maxRecDepth 100000 in
theorem stockyardlaw01_CodecBeginnings.calls (k : Nat) (a0 : ByteArray) (a1 : Int) (r : Bool) (w : World) (h : stockyardlaw01_CodecBeginnings.f k a0 a1 = some r) :
    Calls Try.prog 12 #[.string a0, .int .i64 a1] w fun e w' => e = .returned (.bool r) ∧ Below w.heap.size w w' := by
  have HB := Aside0.mk (Below.refl w.heap.size w)
  have H : ((codec_PutText.f ([] : List Int) a0).bind fun t297 => (if (a0.size : Int) > 400 then (stockyardlaw01_CodecBeginnings.j0 k a0 a1 t297 true) else (if a1 < 0 then (stockyardlaw01_CodecBeginnings.j0 k a0 a1 t297 true) else (stockyardlaw01_CodecBeginnings.j0 k a0 a1 t297 (decide (a1 ≥ (t297.length : Int))))))) = some r := h
  clear h
  replace H := Option.bind_eq_some_iff.mp H
  obtain ⟨t297, A30, H⟩ := H
  replace H : (if (a0.size : Int) > 400 then (stockyardlaw01_CodecBeginnings.j0 k a0 a1 t297 true) else (if a1 < 0 then (stockyardlaw01_CodecBeginnings.j0 k a0 a1 t297 true) else (stockyardlaw01_CodecBeginnings.j0 k a0 a1 t297 (decide (a1 ≥ (t297.length : Int)))))) = some r := H
  have A3 := Aside0.mk A30
  clear A30
  have HC4 := Aside0.mk H
  clear H
  go_enter Try.func12, Try.ntmps12
  go_upto_region 2 with (first | ((with_reducible refine gate_callee (f := 21) rfl ?_); refine goesL_ (some 10) rfl rfl Try.func21 (by kernel_rfl) rfl #[.slice none 0 0, .string a0] rfl (by (try simp only [List.map_toArray, List.map_cons, List.map_nil]); first | done | rfl | (simp only [List.length_drop, List.length_take]; rfl)) ?_; (refine (codec_PutText.calls _ _ ([] : List Int) a0 t297 _ ?side1 ?side2 A3.out).mono ?_); (case side1 => exact Kd.C_nil _ _); (case side2 => exact Nat.le_refl _); rintro e w5 ⟨v298, rfl, ho0, hb⟩; refine ⟨_, rfl, ?_⟩; have n0_ := Aside0.mk (Kd.R_lower ho0 (below_size (by repeat (first | (with_reducible first | exact HB.out | apply below_alloc | apply pw_below_drewN | apply below_drew1) | exact HB.out)))); have n1_ := Aside0.mk (below_step (by repeat (first | (with_reducible first | exact HB.out | apply below_alloc | apply pw_below_drewN | apply below_drew1) | exact HB.out)) hb); clear HB; have HO299 := n0_; have HB := n1_; clear n0_ n1_; (try clear hb); (try clear hb2); (try clear hk); (try clear hi); (try clear ho0)))
  (try simp only [Act.put, List.setIfInBounds_toArray, List.set_cons_zero, List.set_cons_succ])
  go_cut [23] (fun v23 wc => ∃ (kq : Nat) (x23_3 : Bool), v23 = .bool x23_3 ∧ Aside0 (stockyardlaw01_CodecBeginnings.j0 kq a0 a1 t297 x23_3 = some r) ∧ Aside0 (kq ≤ k) ∧ Aside0 (Kd.R (Kd.int .u8) 5 wc w.heap.size (fun _ => True) v298 t297) ∧ Aside0 (Below w.heap.size w wc))
  case first =>
    have H := HC4.out
    clear HC4
    by_cases c6 : (a0.size : Int) > 400
    · rw [if_pos c6] at H
      have c6b0 : decide (400 < (a0.size : Int)) = true := decide_eq_true c6
      have c6b1 : decide (400 < a0.size) = true := decide_eq_true (by omega)
      clear c6
      (first | rw [c6b0] | (simp only [i64_w, i32_w]; rw [c6b0]) | skip)
      have H' := Aside0.mk H
      clear H
      go_wp2
      go_meet
      case rel => exact ⟨_, (true), (by first | rfl | (simp; done) | (simp [*]; done)), H', ⟨by first | omega | exact Nat.le_refl _⟩, ⟨by (with_reducible repeat (first | apply Kd.R_alloc | apply Kd.R_drewN | apply Kd.R_drew)); exact HO299.out⟩, ⟨by repeat (first | (with_reducible first | exact HB.out | apply below_alloc | apply pw_below_drewN | apply below_drew1) | exact HB.out)⟩⟩
    · rw [if_neg c6] at H
      have c6b0 : decide (400 < (a0.size : Int)) = false := decide_eq_false c6
      have c6b1 : decide (400 < a0.size) = false := decide_eq_false (by omega)
      clear c6
      (first | rw [c6b0] | (simp only [i64_w, i32_w]; rw [c6b0]) | skip)
      by_cases c7 : a1 < 0
      · rw [if_pos c7] at H
        have c7b0 : decide (a1 < 0) = true := decide_eq_true c7
        clear c7
        have H' := Aside0.mk H
        clear H
        go_wp2
        go_meet
        case rel => exact ⟨_, (true), (by first | rfl | (simp; done) | (simp [*]; done)), H', ⟨by first | omega | exact Nat.le_refl _⟩, ⟨by (with_reducible repeat (first | apply Kd.R_alloc | apply Kd.R_drewN | apply Kd.R_drew)); exact HO299.out⟩, ⟨by repeat (first | (with_reducible first | exact HB.out | apply below_alloc | apply pw_below_drewN | apply below_drew1) | exact HB.out)⟩⟩
      · rw [if_neg c7] at H
        have c7b0 : decide (a1 < 0) = false := decide_eq_false c7
        clear c7
        have H' := Aside0.mk H
        clear H
        obtain ⟨Ao8, co8, eo8⟩ := Kd.R_slice HO299.out
        subst eo8
        go_wp2
        go_meet
        case rel => exact ⟨_, (decide (a1 ≥ (t297.length : Int))), (by first | rfl | (simp; done) | (simp [*]; done)), H', ⟨by first | omega | exact Nat.le_refl _⟩, ⟨by (with_reducible repeat (first | apply Kd.R_alloc | apply Kd.R_drewN | apply Kd.R_drew)); exact HO299.out⟩, ⟨by repeat (first | (with_reducible first | exact HB.out | apply below_alloc | apply pw_below_drewN | apply below_drew1) | exact HB.out)⟩⟩
  case rest =>
    clear HC4
    try clear c1
    try clear c2
    try clear p2
    try clear c6
    try clear c6b0
    try clear c6b1
    try clear c7
    try clear c7b0
    obtain ⟨kq, x23_3, rfl, HA, HJ3, HO_5, HB⟩ := hcut
    cases kq with
    | zero => exact absurd HA.out (by simp [stockyardlaw01_CodecBeginnings.j0])
    | succ kj3 =>
      have H := HA.out
      clear HA
      simp only [stockyardlaw01_CodecBeginnings.j0] at H
      by_cases c9 : x23_3 = true
      · subst c9
        have H1 : ((stockyardlaw01_awake.f).bind fun t300 => (some t300)) = some r := by rw [if_pos rfl] at H; exact H
        clear H
        have H := H1
        clear H1
        replace H := Option.bind_eq_some_iff.mp H
        obtain ⟨t300, A100, H⟩ := H
        replace H : (some t300) = some r := H
        have A10 := Aside0.mk A100
        clear A100
        obtain rfl := Option.some.inj H
        go_wp2_with (first | ((with_reducible refine gate_callee (f := 14) rfl ?_); refine goesL_ (some 24) rfl rfl Try.func14 (by kernel_rfl) rfl #[] rfl (by (try simp only [List.map_toArray, List.map_cons, List.map_nil]); first | done | rfl | (simp only [List.length_drop, List.length_take]; rfl)) ?_; (with_reducible refine (stockyardlaw01_awake.calls  t300 _ A10.out).mono ?_); rintro e w11 ⟨rfl, hb⟩; refine ⟨_, rfl, ?_⟩; have n0_ := Aside0.mk (Kd.R_below (by (with_reducible repeat (first | apply Kd.R_alloc | apply Kd.R_drewN | apply Kd.R_drew)); exact HO_5.out) hb); have n1_ := Aside0.mk (below_step (by repeat (first | (with_reducible first | exact HB.out | apply below_alloc | apply pw_below_drewN | apply below_drew1) | exact HB.out)) hb); clear HO_5; clear HB; have HO_5 := n0_; have HB := n1_; clear n0_ n1_; (try clear hb); (try clear hb2); (try clear hk); (try clear hi)))
        go_ret
        exact ⟨by first | rfl | (simp [errW_none, errW_some] <;> rfl) | (simp [*, errW_none, errW_some] <;> rfl), by repeat (first | (with_reducible first | exact HB.out | apply below_alloc | apply pw_below_drewN | apply below_drew1) | exact HB.out)⟩
      · replace c9 := Bool.eq_false_iff.mpr c9
        subst c9
        have H1 : (if 0 ≤ a1 then (if a1 ≤ (t297.length : Int) then ((codec_Text.f (t297.take (a1 : Int).toNat) 0 (a0.size : Int)).bind fun bt305 => (if bt305.1.toList = ([] : List UInt8) then (if bt305.2.1 = 0 then (if bt305.2.2 = 11 then ((stockyardlaw01_awake.f).bind fun t308 => (some t308)) else (some false)) else (some false)) else (some false))) else (none)) else (none)) = some r := by rw [if_neg (show ¬ (false = true) by decide)] at H; exact H
        clear H
        have H := H1
        clear H1
        by_cases c12 : 0 ≤ a1
        · rw [if_pos c12] at H
          have c12b0 := eq_true c12
          have c12b1 : decide (0 ≤ a1) = true := decide_eq_true c12
          clear c12
          by_cases c13 : a1 ≤ (t297.length : Int)
          · rw [if_pos c13] at H
            have c13b0 := eq_true c13
            have c13b1 : decide (a1 ≤ (t297.length : Int)) = true := decide_eq_true c13
            clear c13
            obtain ⟨y301, hy301⟩ : ∃ y_ : List Int, y_ = (t297.take (a1 : Int).toNat) := ⟨_, rfl⟩
            replace H : ((codec_Text.f y301 0 (a0.size : Int)).bind fun bt305 => (if bt305.1.toList = ([] : List UInt8) then (if bt305.2.1 = 0 then (if bt305.2.2 = 11 then ((stockyardlaw01_awake.f).bind fun t308 => (some t308)) else (some false)) else (some false)) else (some false))) = some r := by first | (rw [hy301]; with_reducible exact H) | (have H2_ := (Option.bind_some _ _).symm.trans H; rw [hy301]; with_reducible exact H2_) | (have H2_ := (Option.bind_some _ _).symm.trans H; with_reducible exact H2_) | with_reducible exact H | (rw [hy301]; exact H) | exact H
            have Ny301 := Aside0.mk hy301
            clear hy301
            replace H := Option.bind_eq_some_iff.mp H
            obtain ⟨⟨t305, t306, t307⟩, A140, H⟩ := H
            replace H : (if t305.toList = ([] : List UInt8) then (if t306 = 0 then (if t307 = 11 then ((stockyardlaw01_awake.f).bind fun t308 => (some t308)) else (some false)) else (some false)) else (some false)) = some r := H
            have A14 := Aside0.mk A140
            clear A140
            by_cases c15 : t305.toList = ([] : List UInt8)
            · rw [if_pos c15] at H
              have c15b0 : (t305.toList == ([] : List UInt8)) = true := beq_iff_eq.mpr c15
              have c15b1 : (t305.toList != ([] : List UInt8)) = false := bne_eq_false_iff_eq.mpr c15
              clear c15
              by_cases c16 : t306 = 0
              · rw [if_pos c16] at H
                have c16b0 : (t306 == 0) = true := beq_iff_eq.mpr c16
                have c16b1 : (t306 != 0) = false := bne_eq_false_iff_eq.mpr c16
                clear c16
                by_cases c17 : t307 = 11
                · rw [if_pos c17] at H
                  have c17b0 : (t307 == 11) = true := beq_iff_eq.mpr c17
                  have c17b1 : (t307 != 11) = false := bne_eq_false_iff_eq.mpr c17
                  clear c17
                  replace H := Option.bind_eq_some_iff.mp H
                  obtain ⟨t308, A180, H⟩ := H
                  replace H : (some t308) = some r := H
                  have A18 := Aside0.mk A180
                  clear A180
                  obtain rfl := Option.some.inj H
                  obtain ⟨Ao20, co20, eo20⟩ := Kd.R_slice HO_5.out
                  subst eo20
                  have q19 : (a1 : Int) ≤ ((t297.length : Int) : Int) := of_decide_eq_true (by first | (with_reducible assumption) | assumption)
                  obtain ⟨i019, hi019, _, hsz19, _⟩ := info_parts info5
                  have hroom19 : t297.length ≤ co20 := (Kd.R_reads' HO_5.out).2.1
                  have hC19 : Kd.C (Kd.int .u8) _ Ao20 t297.length t297 := (Kd.R_reads' HO_5.out).2.2
                  have hcut19 := cut_to (P := Try.prog) 22 5 .i64 Try.underlying22 hi019 Ao20 t297.length co20 a1 (of_decide_eq_true (by first | (with_reducible assumption) | assumption)) q19 hroom19
                  have hr19 := Kd.C_take (m := (a1 : Int).toNat) hC19 (by omega)
                  have hy19 : y301.length = (a1 : Int).toNat := (by rw [Ny301.out, List.length_take]; omega)
                  rw [← Ny301.out] at hr19
                  rw [← hy19] at hcut19
                  have HR304 := Aside0.mk hr19
                  have HC304 := Aside0.mk (show y301.length ≤ co20 from by omega)
                  clear hr19 hC19 hroom19 hi019 hsz19
                  have KY19 := Aside0.mk hy19
                  clear hy19
                  have KL19 := Aside0.mk (show (a1 : Int).toNat ≤ t297.length from by omega)
                  replace q19 := eq_true q19
                  go_wp2_with (first | ((with_reducible refine gate_callee (f := 30) rfl ?_); refine goesL_ (some 31) rfl rfl Try.func30 (by kernel_rfl) rfl #[.slice Ao20 y301.length co20, .int .i64 0, .int .i64 (a0.size : Int)] rfl (by (try simp only [List.map_toArray, List.map_cons, List.map_nil]); first | done | rfl | (simp only [List.length_drop, List.length_take]; rfl)) ?_; (with_reducible refine (codec_Text.calls _ _ y301 0 (a0.size : Int) t305 t306 t307 _ ?side1 ?side2 A14.out).mono ?_); (case side1 => repeat (first | exact (by repeat (first | (with_reducible exact HR304.out) | (with_reducible refine Kd.C_alloc ?_ _) | (with_reducible refine Kd.C_drewN ?_ _) | (with_reducible refine Kd.C_drew ?_) | exact HR304.out)) | (with_reducible refine Kd.C_alloc ?_ _) | (with_reducible refine Kd.C_drewN ?_ _) | (with_reducible refine Kd.C_drew ?_))); (case side2 => exact HC304.out); rintro e w' ⟨rfl, ⟨nd, rfl⟩⟩; refine ⟨_, rfl, ?_⟩) | (go_at_call 14; (with_reducible refine (stockyardlaw01_awake.calls  t308 _ A18.out).mono ?_); rintro e w21 ⟨rfl, hb⟩; have n0_ := Aside0.mk (Kd.R_below (by (with_reducible repeat (first | apply Kd.R_alloc | apply Kd.R_drewN | apply Kd.R_drew)); exact HO_5.out) hb); have n1_ := Aside0.mk (Kd.C_below (by repeat (first | (with_reducible exact HR304.out) | (with_reducible refine Kd.C_alloc ?_ _) | (with_reducible refine Kd.C_drewN ?_ _) | (with_reducible refine Kd.C_drew ?_) | exact HR304.out)) hb); have n2_ := Aside0.mk (below_step (by repeat (first | (with_reducible first | exact HB.out | apply below_alloc | apply pw_below_drewN | apply below_drew1) | exact HB.out)) hb); clear HO_5; clear HR304; clear HB; have HO_5 := n0_; have HR304 := n1_; have HB := n2_; clear n0_ n1_ n2_; (try clear hb); (try clear hb2); (try clear hk); (try clear hi)))
                  go_ret
                  exact ⟨by first | rfl | (simp [errW_none, errW_some] <;> rfl) | (simp [*, errW_none, errW_some] <;> rfl), by repeat (first | (with_reducible first | exact HB.out | apply below_alloc | apply pw_below_drewN | apply below_drew1) | exact HB.out)⟩
                · rw [if_neg c17] at H
                  have c17b0 : (t307 == 11) = false := beq_eq_false_iff_ne.mpr c17
                  have c17b1 : (t307 != 11) = true := bne_iff_ne.mpr c17
                  obtain rfl := Option.some.inj H
                  obtain ⟨Ao23, co23, eo23⟩ := Kd.R_slice HO_5.out
                  subst eo23
                  have q22 : (a1 : Int) ≤ ((t297.length : Int) : Int) := of_decide_eq_true (by first | (with_reducible assumption) | assumption)
                  obtain ⟨i022, hi022, _, hsz22, _⟩ := info_parts info5
                  have hroom22 : t297.length ≤ co23 := (Kd.R_reads' HO_5.out).2.1
                  have hC22 : Kd.C (Kd.int .u8) _ Ao23 t297.length t297 := (Kd.R_reads' HO_5.out).2.2
                  have hcut22 := cut_to (P := Try.prog) 22 5 .i64 Try.underlying22 hi022 Ao23 t297.length co23 a1 (of_decide_eq_true (by first | (with_reducible assumption) | assumption)) q22 hroom22
                  have hr22 := Kd.C_take (m := (a1 : Int).toNat) hC22 (by omega)
                  have hy22 : y301.length = (a1 : Int).toNat := (by rw [Ny301.out, List.length_take]; omega)
                  rw [← Ny301.out] at hr22
                  rw [← hy22] at hcut22
                  have HR304 := Aside0.mk hr22
                  have HC304 := Aside0.mk (show y301.length ≤ co23 from by omega)
                  clear hr22 hC22 hroom22 hi022 hsz22
                  have KY22 := Aside0.mk hy22
                  clear hy22
                  have KL22 := Aside0.mk (show (a1 : Int).toNat ≤ t297.length from by omega)
                  replace q22 := eq_true q22
                  go_wp2_with (first | ((with_reducible refine gate_callee (f := 30) rfl ?_); refine goesL_ (some 31) rfl rfl Try.func30 (by kernel_rfl) rfl #[.slice Ao23 y301.length co23, .int .i64 0, .int .i64 (a0.size : Int)] rfl (by (try simp only [List.map_toArray, List.map_cons, List.map_nil]); first | done | rfl | (simp only [List.length_drop, List.length_take]; rfl)) ?_; (with_reducible refine (codec_Text.calls _ _ y301 0 (a0.size : Int) t305 t306 t307 _ ?side1 ?side2 A14.out).mono ?_); (case side1 => repeat (first | exact (by repeat (first | (with_reducible exact HR304.out) | (with_reducible refine Kd.C_alloc ?_ _) | (with_reducible refine Kd.C_drewN ?_ _) | (with_reducible refine Kd.C_drew ?_) | exact HR304.out)) | (with_reducible refine Kd.C_alloc ?_ _) | (with_reducible refine Kd.C_drewN ?_ _) | (with_reducible refine Kd.C_drew ?_))); (case side2 => exact HC304.out); rintro e w' ⟨rfl, ⟨nd, rfl⟩⟩; refine ⟨_, rfl, ?_⟩))
                  go_ret
                  exact ⟨by first | rfl | (simp [errW_none, errW_some] <;> rfl) | (simp [*, errW_none, errW_some] <;> rfl), by repeat (first | (with_reducible first | exact HB.out | apply below_alloc | apply pw_below_drewN | apply below_drew1) | exact HB.out)⟩
              · rw [if_neg c16] at H
                have c16b0 : (t306 == 0) = false := beq_eq_false_iff_ne.mpr c16
                have c16b1 : (t306 != 0) = true := bne_iff_ne.mpr c16
                obtain rfl := Option.some.inj H
                obtain ⟨Ao25, co25, eo25⟩ := Kd.R_slice HO_5.out
                subst eo25
                have q24 : (a1 : Int) ≤ ((t297.length : Int) : Int) := of_decide_eq_true (by first | (with_reducible assumption) | assumption)
                obtain ⟨i024, hi024, _, hsz24, _⟩ := info_parts info5
                have hroom24 : t297.length ≤ co25 := (Kd.R_reads' HO_5.out).2.1
                have hC24 : Kd.C (Kd.int .u8) _ Ao25 t297.length t297 := (Kd.R_reads' HO_5.out).2.2
                have hcut24 := cut_to (P := Try.prog) 22 5 .i64 Try.underlying22 hi024 Ao25 t297.length co25 a1 (of_decide_eq_true (by first | (with_reducible assumption) | assumption)) q24 hroom24
                have hr24 := Kd.C_take (m := (a1 : Int).toNat) hC24 (by omega)
                have hy24 : y301.length = (a1 : Int).toNat := (by rw [Ny301.out, List.length_take]; omega)
                rw [← Ny301.out] at hr24
                rw [← hy24] at hcut24
                have HR304 := Aside0.mk hr24
                have HC304 := Aside0.mk (show y301.length ≤ co25 from by omega)
                clear hr24 hC24 hroom24 hi024 hsz24
                have KY24 := Aside0.mk hy24
                clear hy24
                have KL24 := Aside0.mk (show (a1 : Int).toNat ≤ t297.length from by omega)
                replace q24 := eq_true q24
                go_wp2_with (first | ((with_reducible refine gate_callee (f := 30) rfl ?_); refine goesL_ (some 31) rfl rfl Try.func30 (by kernel_rfl) rfl #[.slice Ao25 y301.length co25, .int .i64 0, .int .i64 (a0.size : Int)] rfl (by (try simp only [List.map_toArray, List.map_cons, List.map_nil]); first | done | rfl | (simp only [List.length_drop, List.length_take]; rfl)) ?_; (with_reducible refine (codec_Text.calls _ _ y301 0 (a0.size : Int) t305 t306 t307 _ ?side1 ?side2 A14.out).mono ?_); (case side1 => repeat (first | exact (by repeat (first | (with_reducible exact HR304.out) | (with_reducible refine Kd.C_alloc ?_ _) | (with_reducible refine Kd.C_drewN ?_ _) | (with_reducible refine Kd.C_drew ?_) | exact HR304.out)) | (with_reducible refine Kd.C_alloc ?_ _) | (with_reducible refine Kd.C_drewN ?_ _) | (with_reducible refine Kd.C_drew ?_))); (case side2 => exact HC304.out); rintro e w' ⟨rfl, ⟨nd, rfl⟩⟩; refine ⟨_, rfl, ?_⟩))
                go_ret
                exact ⟨by first | rfl | (simp [errW_none, errW_some] <;> rfl) | (simp [*, errW_none, errW_some] <;> rfl), by repeat (first | (with_reducible first | exact HB.out | apply below_alloc | apply pw_below_drewN | apply below_drew1) | exact HB.out)⟩
            · rw [if_neg c15] at H
              have c15b0 : (t305.toList == ([] : List UInt8)) = false := beq_eq_false_iff_ne.mpr c15
              have c15b1 : (t305.toList != ([] : List UInt8)) = true := bne_iff_ne.mpr c15
              obtain rfl := Option.some.inj H
              obtain ⟨Ao27, co27, eo27⟩ := Kd.R_slice HO_5.out
              subst eo27
              have q26 : (a1 : Int) ≤ ((t297.length : Int) : Int) := of_decide_eq_true (by first | (with_reducible assumption) | assumption)
              obtain ⟨i026, hi026, _, hsz26, _⟩ := info_parts info5
              have hroom26 : t297.length ≤ co27 := (Kd.R_reads' HO_5.out).2.1
              have hC26 : Kd.C (Kd.int .u8) _ Ao27 t297.length t297 := (Kd.R_reads' HO_5.out).2.2
              have hcut26 := cut_to (P := Try.prog) 22 5 .i64 Try.underlying22 hi026 Ao27 t297.length co27 a1 (of_decide_eq_true (by first | (with_reducible assumption) | assumption)) q26 hroom26
              have hr26 := Kd.C_take (m := (a1 : Int).toNat) hC26 (by omega)
              have hy26 : y301.length = (a1 : Int).toNat := (by rw [Ny301.out, List.length_take]; omega)
              rw [← Ny301.out] at hr26
              rw [← hy26] at hcut26
              have HR304 := Aside0.mk hr26
              have HC304 := Aside0.mk (show y301.length ≤ co27 from by omega)
              clear hr26 hC26 hroom26 hi026 hsz26
              have KY26 := Aside0.mk hy26
              clear hy26
              have KL26 := Aside0.mk (show (a1 : Int).toNat ≤ t297.length from by omega)
              replace q26 := eq_true q26
              go_wp2_with (first | ((with_reducible refine gate_callee (f := 30) rfl ?_); refine goesL_ (some 31) rfl rfl Try.func30 (by kernel_rfl) rfl #[.slice Ao27 y301.length co27, .int .i64 0, .int .i64 (a0.size : Int)] rfl (by (try simp only [List.map_toArray, List.map_cons, List.map_nil]); first | done | rfl | (simp only [List.length_drop, List.length_take]; rfl)) ?_; (with_reducible refine (codec_Text.calls _ _ y301 0 (a0.size : Int) t305 t306 t307 _ ?side1 ?side2 A14.out).mono ?_); (case side1 => repeat (first | exact (by repeat (first | (with_reducible exact HR304.out) | (with_reducible refine Kd.C_alloc ?_ _) | (with_reducible refine Kd.C_drewN ?_ _) | (with_reducible refine Kd.C_drew ?_) | exact HR304.out)) | (with_reducible refine Kd.C_alloc ?_ _) | (with_reducible refine Kd.C_drewN ?_ _) | (with_reducible refine Kd.C_drew ?_))); (case side2 => exact HC304.out); rintro e w' ⟨rfl, ⟨nd, rfl⟩⟩; refine ⟨_, rfl, ?_⟩))
              go_ret
              exact ⟨by first | rfl | (simp [errW_none, errW_some] <;> rfl) | (simp [*, errW_none, errW_some] <;> rfl), by repeat (first | (with_reducible first | exact HB.out | apply below_alloc | apply pw_below_drewN | apply below_drew1) | exact HB.out)⟩
          · rw [if_neg c13] at H
            exact absurd H (by simp)
        · rw [if_neg c12] at H
          exact absurd H (by simp)

/-- THE ONE PURE STATEMENT of stockyardlaw01_CodecBeginnings: yours. -/
def stockyardlaw01_CodecBeginnings.Pure : Prop := ∀ (a0 : ByteArray) (a1 : Int), a0.size ≤ 140737488351232 → (Lit.int .i64 a1).wf = true → ∃ k, stockyardlaw01_CodecBeginnings.f k a0 a1 = some true
theorem stockyardlaw01_CodecBeginnings.walk (P : stockyardlaw01_CodecBeginnings.Pure) (a0 : ByteArray) (a1 : Int) (w : World) (w0 : a0.size ≤ 140737488351232) (w1 : (Lit.int .i64 a1).wf = true) :
    Calls Try.prog 12 #[.string a0, .int .i64 a1] w fun e w' => e = .returned (.bool true) ∧ Below w.heap.size w w' := by
  obtain ⟨k, h⟩ := P a0 a1 w0 w1
  refine (stockyardlaw01_CodecBeginnings.calls k a0 a1 true w h).mono ?_
  rintro e w' ⟨rfl, hd⟩
  exact ⟨rfl, hd⟩

end Go.Proofs.Ytnaamckkepdkkaa.P
