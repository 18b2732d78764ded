-- WRITTEN BY myprint.py (wip/tools) for this seat
import Derived.Test.YtjckjcekapkkjaaPx0
import Derived.Test.YtjckjcekapkkjaaPx5
import Derived.Test.YtjckjcekapkkjaaPx6
import Derived.Test.YtjckjcekapkkjaaPx7
namespace Go.Proofs.Ytjckjcekapkkjaa.P
open Go.RowKit Go.Proofs.YtjckjcekapkkjaaW.PrintWords Go.Proofs.YtjckjcekapkkjaaW.PrintLast Go.Proofs.YtjckjcekapkkjaaW.PrintMore
attribute [local go_sem] max2_int min2_int max_two min_two max_three min_three max_four min_four   -- for this text's walks alone
set_option linter.unusedVariables false
set_option linter.unusedSimpArgs false

/-! ### ref26_Part: function 54 -/
def ref26_Part.l0 : Nat → List (S39) → List (S39) → Int → Int → Int → Int → Option ((List (S39)))
  | 0, _, _, _, _, _, _ => none
  | k + 1, x0, x1, x2, x3, x9, x10 => if x10 < (x1.length : Int) then (if 0 ≤ x10 then (if (mx (wrap64 (x2 - x9)) 0) < (mn (wrap64 (x3 - x9)) (wrap64 (((rd_T39 x1 x10).f1) + (((rd_T39 x1 x10).f2).length : Int)))) then ((ref26_Copies.f ((rd_T39 x1 x10).f0) ((rd_T39 x1 x10).f1) ((rd_T39 x1 x10).f2)).bind fun t269 => (if t269 = true then ((ref26_Add.f k x0 (wrap64 (((rd_T39 x1 x10).f0) + (mx (wrap64 (x2 - x9)) 0))) (wrap64 ((mn (wrap64 (x3 - x9)) (wrap64 (((rd_T39 x1 x10).f1) + (((rd_T39 x1 x10).f2).length : Int)))) - (mx (wrap64 (x2 - x9)) 0))) ([] : List Int)).bind fun t270 => (ref26_Part.l0 k t270 x1 x2 x3 (wrap64 (x9 + (wrap64 (((rd_T39 x1 x10).f1) + (((rd_T39 x1 x10).f2).length : Int))))) (wrap64 (x10 + 1)))) else (if 0 ≤ (mx (wrap64 (x2 - x9)) 0) then (if (mx (wrap64 (x2 - x9)) 0) ≤ (mn (wrap64 (x3 - x9)) (wrap64 (((rd_T39 x1 x10).f1) + (((rd_T39 x1 x10).f2).length : Int)))) then (if (mn (wrap64 (x3 - x9)) (wrap64 (((rd_T39 x1 x10).f1) + (((rd_T39 x1 x10).f2).length : Int)))) ≤ (((rd_T39 x1 x10).f2).length : Int) then ((ref26_Add.f k x0 0 0 ((((rd_T39 x1 x10).f2).take ((mn (wrap64 (x3 - x9)) (wrap64 (((rd_T39 x1 x10).f1) + (((rd_T39 x1 x10).f2).length : Int)))) : Int).toNat).drop ((mx (wrap64 (x2 - x9)) 0) : Int).toNat)).bind fun t274 => (ref26_Part.l0 k t274 x1 x2 x3 (wrap64 (x9 + (wrap64 (((rd_T39 x1 x10).f1) + (((rd_T39 x1 x10).f2).length : Int))))) (wrap64 (x10 + 1)))) else (none)) else (none)) else (none)))) else (ref26_Part.l0 k x0 x1 x2 x3 (wrap64 (x9 + (wrap64 (((rd_T39 x1 x10).f1) + (((rd_T39 x1 x10).f2).length : Int))))) (wrap64 (x10 + 1)))) else (none)) else (some x0)
def ref26_Part.f (k : Nat) (l0 : List (S39)) (l1 : List (S39)) (a2 : Int) (a3 : Int) : Option ((List (S39))) := ref26_Part.l0 k l0 l1 a2 a3 0 0
set_option maxHeartbeats 8000000 in
set_option maxRecDepth 100000 in
theorem ref26_Part.calls (k : Nat) (P0_ : Nat → Prop) (A0 : Option Addr) (c0 : Nat) (l0 : List (S39)) (A1 : Option Addr) (c1 : Nat) (l1 : List (S39)) (a2 : Int) (a3 : Int) (r : List (S39)) (w : World) (hs0 : Kd.V k39 39 w w.heap.size (fun k_ => P0_ k_) (.slice A0 l0.length c0) l0) (hr1 : Kd.C k39 w A1 l1.length l1) (hc1 : l1.length ≤ c1) (h : ref26_Part.f k l0 l1 a2 a3 = some r) :
    Calls Try.prog 54 #[.slice A0 l0.length c0, .slice A1 l1.length c1, .int .i64 a2, .int .i64 a3] w fun e w' => ∃ v0_ : Value, e = .returned (v0_) ∧ Kd.V k39 39 w' w.heap.size (fun k_ => (P0_ k_ ∨ w.heap.size ≤ k_)) v0_ r ∧ Below w.heap.size w w' := by
  have hu39 := Try.underlying39
  have HO0 := Aside0.mk (show Kd.V k39 39 w w.heap.size (fun k_ => (P0_ k_ ∨ w.heap.size ≤ k_)) (.slice A0 l0.length c0) l0 from Kd.V_mono hs0 (fun k_ hk => .inl hk))
  have HR1 := Aside0.mk hr1
  have HC1 := Aside0.mk hc1
  clear hr1 hc1
  have HB := Aside0.mk (Below.refl w.heap.size w)
  have H : (ref26_Part.l0 k l0 l1 a2 a3 0 0) = some r := h
  clear h
  have H' := Aside0.mk H
  clear H
  go_enter Try.func54, Try.ntmps54
  go_wp2
  go_loopg [0, 9, 10] k (fun kq v0 v9 v10 w' => ∃ (x0_1 : List (S39)) (x9_1 : Int) (x10_1 : Int), v9 = .int .i64 x9_1 ∧ v10 = .int .i64 x10_1 ∧ Aside0 (ref26_Part.l0 kq x0_1 l1 a2 a3 x9_1 x10_1 = some r) ∧ Aside0 (kq ≤ k) ∧ Aside0 (Kd.V k39 39 w' w.heap.size (fun k_ => (P0_ k_ ∨ w.heap.size ≤ k_)) v0 x0_1) ∧ Aside0 (Below w.heap.size w w'))
  case atStart => exact ⟨(l0), (0), (0), (by first | rfl | (simp; done) | (simp [*]; done)), (by first | rfl | (simp; done) | (simp [*]; done)), H', ⟨Nat.le_refl _⟩, ⟨by (with_reducible repeat (first | apply Kd.V_alloc | apply Kd.V_drewN | apply Kd.V_drew)); exact HO0.out⟩, ⟨by repeat (first | (with_reducible first | exact HB.out | apply below_alloc | apply pw_below_drewN | apply below_drew1) | exact HB.out)⟩⟩
  case round =>
    clear H'
    try clear c1
    try clear p2
    obtain ⟨x0_1, x9_1, x10_1, rfl, rfl, HA, HK1, HO_0, HB⟩ := hrel
    cases gk with
    | zero => exact absurd HA.out (by simp [ref26_Part.l0])
    | succ k1 =>
      have H := HA.out
      clear HA
      simp only [ref26_Part.l0] at H
      by_cases c5 : x10_1 < (l1.length : Int)
      · rw [if_pos c5] at H
        have c5b0 : decide (x10_1 < (l1.length : Int)) = true := decide_eq_true c5
        clear c5
        by_cases c6 : 0 ≤ x10_1
        · rw [if_pos c6] at H
          have c6b0 : decide (0 ≤ x10_1) = true := decide_eq_true c6
          clear c6
          obtain ⟨ji7, hji7⟩ : ∃ j_ : Int, (mx (wrap64 (a2 - x9_1)) 0) = j_ := ⟨_, rfl⟩
          replace H : (if (ji7) < (mn (wrap64 (a3 - x9_1)) (wrap64 (((rd_T39 l1 x10_1).f1) + (((rd_T39 l1 x10_1).f2).length : Int)))) then ((ref26_Copies.f ((rd_T39 l1 x10_1).f0) ((rd_T39 l1 x10_1).f1) ((rd_T39 l1 x10_1).f2)).bind fun t269 => (if t269 = true then ((ref26_Add.f k1 x0_1 (wrap64 (((rd_T39 l1 x10_1).f0) + (ji7))) (wrap64 ((mn (wrap64 (a3 - x9_1)) (wrap64 (((rd_T39 l1 x10_1).f1) + (((rd_T39 l1 x10_1).f2).length : Int)))) - (ji7))) ([] : List Int)).bind fun t270 => (ref26_Part.l0 k1 t270 l1 a2 a3 (wrap64 (x9_1 + (wrap64 (((rd_T39 l1 x10_1).f1) + (((rd_T39 l1 x10_1).f2).length : Int))))) (wrap64 (x10_1 + 1)))) else (if 0 ≤ (ji7) then (if (ji7) ≤ (mn (wrap64 (a3 - x9_1)) (wrap64 (((rd_T39 l1 x10_1).f1) + (((rd_T39 l1 x10_1).f2).length : Int)))) then (if (mn (wrap64 (a3 - x9_1)) (wrap64 (((rd_T39 l1 x10_1).f1) + (((rd_T39 l1 x10_1).f2).length : Int)))) ≤ (((rd_T39 l1 x10_1).f2).length : Int) then ((ref26_Add.f k1 x0_1 0 0 ((((rd_T39 l1 x10_1).f2).take ((mn (wrap64 (a3 - x9_1)) (wrap64 (((rd_T39 l1 x10_1).f1) + (((rd_T39 l1 x10_1).f2).length : Int)))) : Int).toNat).drop ((ji7) : Int).toNat)).bind fun t274 => (ref26_Part.l0 k1 t274 l1 a2 a3 (wrap64 (x9_1 + (wrap64 (((rd_T39 l1 x10_1).f1) + (((rd_T39 l1 x10_1).f2).length : Int))))) (wrap64 (x10_1 + 1)))) else (none)) else (none)) else (none)))) else (ref26_Part.l0 k1 x0_1 l1 a2 a3 (wrap64 (x9_1 + (wrap64 (((rd_T39 l1 x10_1).f1) + (((rd_T39 l1 x10_1).f2).length : Int))))) (wrap64 (x10_1 + 1)))) = some r := by first | (rw [hji7] at H; exact H) | (simp only [hji7] at H ⊢; exact H)
          have hji7_ : (if (wrap64 (a2 - x9_1)) < 0 then 0 else (wrap64 (a2 - x9_1))) = ji7 := hji7
          obtain ⟨ji8, hji8⟩ : ∃ j_ : Int, (mn (wrap64 (a3 - x9_1)) (wrap64 (((rd_T39 l1 x10_1).f1) + (((rd_T39 l1 x10_1).f2).length : Int)))) = j_ := ⟨_, rfl⟩
          replace H : (if (ji7) < (ji8) then ((ref26_Copies.f ((rd_T39 l1 x10_1).f0) ((rd_T39 l1 x10_1).f1) ((rd_T39 l1 x10_1).f2)).bind fun t269 => (if t269 = true then ((ref26_Add.f k1 x0_1 (wrap64 (((rd_T39 l1 x10_1).f0) + (ji7))) (wrap64 ((ji8) - (ji7))) ([] : List Int)).bind fun t270 => (ref26_Part.l0 k1 t270 l1 a2 a3 (wrap64 (x9_1 + (wrap64 (((rd_T39 l1 x10_1).f1) + (((rd_T39 l1 x10_1).f2).length : Int))))) (wrap64 (x10_1 + 1)))) else (if 0 ≤ (ji7) then (if (ji7) ≤ (ji8) then (if (ji8) ≤ (((rd_T39 l1 x10_1).f2).length : Int) then ((ref26_Add.f k1 x0_1 0 0 ((((rd_T39 l1 x10_1).f2).take ((ji8) : Int).toNat).drop ((ji7) : Int).toNat)).bind fun t274 => (ref26_Part.l0 k1 t274 l1 a2 a3 (wrap64 (x9_1 + (wrap64 (((rd_T39 l1 x10_1).f1) + (((rd_T39 l1 x10_1).f2).length : Int))))) (wrap64 (x10_1 + 1)))) else (none)) else (none)) else (none)))) else (ref26_Part.l0 k1 x0_1 l1 a2 a3 (wrap64 (x9_1 + (wrap64 (((rd_T39 l1 x10_1).f1) + (((rd_T39 l1 x10_1).f2).length : Int))))) (wrap64 (x10_1 + 1)))) = some r := by first | (rw [hji8] at H; exact H) | (simp only [hji8] at H ⊢; exact H)
          have hji8_ : (if (wrap64 (((rd_T39 l1 x10_1).f1) + (((rd_T39 l1 x10_1).f2).length : Int))) < (wrap64 (a3 - x9_1)) then (wrap64 (((rd_T39 l1 x10_1).f1) + (((rd_T39 l1 x10_1).f2).length : Int))) else (wrap64 (a3 - x9_1))) = ji8 := hji8
          by_cases c9 : (ji7) < (ji8)
          · rw [if_pos c9] at H
            have c9b0 : decide ((ji7) < (ji8)) = true := decide_eq_true c9
            clear c9
            replace H := Option.bind_eq_some_iff.mp H
            obtain ⟨t269, A100, H⟩ := H
            replace H : (if t269 = true then ((ref26_Add.f k1 x0_1 (wrap64 (((rd_T39 l1 x10_1).f0) + (ji7))) (wrap64 ((ji8) - (ji7))) ([] : List Int)).bind fun t270 => (ref26_Part.l0 k1 t270 l1 a2 a3 (wrap64 (x9_1 + (wrap64 (((rd_T39 l1 x10_1).f1) + (((rd_T39 l1 x10_1).f2).length : Int))))) (wrap64 (x10_1 + 1)))) else (if 0 ≤ (ji7) then (if (ji7) ≤ (ji8) then (if (ji8) ≤ (((rd_T39 l1 x10_1).f2).length : Int) then ((ref26_Add.f k1 x0_1 0 0 ((((rd_T39 l1 x10_1).f2).take ((ji8) : Int).toNat).drop ((ji7) : Int).toNat)).bind fun t274 => (ref26_Part.l0 k1 t274 l1 a2 a3 (wrap64 (x9_1 + (wrap64 (((rd_T39 l1 x10_1).f1) + (((rd_T39 l1 x10_1).f2).length : Int))))) (wrap64 (x10_1 + 1)))) else (none)) else (none)) else (none))) = some r := H
            have A10 := Aside0.mk A100
            clear A100
            by_cases c11 : t269 = true
            · subst c11
              have H1 : ((ref26_Add.f k1 x0_1 (wrap64 (((rd_T39 l1 x10_1).f0) + (ji7))) (wrap64 ((ji8) - (ji7))) ([] : List Int)).bind fun t270 => (ref26_Part.l0 k1 t270 l1 a2 a3 (wrap64 (x9_1 + (wrap64 (((rd_T39 l1 x10_1).f1) + (((rd_T39 l1 x10_1).f2).length : Int))))) (wrap64 (x10_1 + 1)))) = some r := by rw [if_pos rfl] at H; exact H
              clear H
              have H := H1
              clear H1
              replace H := Option.bind_eq_some_iff.mp H
              obtain ⟨t270, A120, H⟩ := H
              replace H : (ref26_Part.l0 k1 t270 l1 a2 a3 (wrap64 (x9_1 + (wrap64 (((rd_T39 l1 x10_1).f1) + (((rd_T39 l1 x10_1).f2).length : Int))))) (wrap64 (x10_1 + 1))) = some r := H
              have A12 := Aside0.mk A120
              clear A120
              have H' := Aside0.mk H
              clear H
              have p267 : 0 ≤ (x10_1 : Int) := of_decide_eq_true (by first | (with_reducible assumption) | assumption)
              have q267 : x10_1 < (l1.length : Int) := of_decide_eq_true (by first | (with_reducible assumption) | assumption)
              obtain ⟨ad267, A267_2, c267_2, e267, hx267_0, hx267_1, hx267_2, hl267_2, hi267_2⟩ := at_T39 HR1.out x10_1 p267 q267
              cases e267
              have hu267_2 := Aside0.mk hx267_2
              replace hx267_0 := (HB.out.cell (World.block_lt_of_cell? w _ hx267_0)).trans hx267_0
              replace hx267_1 := (HB.out.cell (World.block_lt_of_cell? w _ hx267_1)).trans hx267_1
              replace hx267_2 := (HB.out.cell (World.block_lt_of_cell? w _ hx267_2)).trans hx267_2
              have HR267_2 := Aside0.mk hi267_2
              have HC267_2 := Aside0.mk hl267_2
              clear hi267_2 hl267_2
              replace p267 := eq_true p267
              replace q267 := eq_true q267
              go_wp2_with (first | ((with_reducible refine gate_dst (N := 11) rfl ?_); refine box_event ?hg (N := 11) ?hd (cs := #[.int .i64 0, .int .i64 0, .slice none 0 0]) (t := 39) ?hr ?_; (case hd => rfl); (case hg => rfl); (case hr => first | (go_simp; done) | (go_simp; rfl)); intro gb268 hg w13 hbox hb; have n0_ := Aside0.mk (Kd.V_below (Kd.V_elderB (by (with_reducible repeat (first | apply Kd.V_alloc | apply Kd.V_drewN | apply Kd.V_drew)); exact HO_0.out) gb268 (Nat.le_of_eq hg.symm)) hb); have n1_ := Aside0.mk (below_step (by repeat (first | (with_reducible first | exact HB.out | apply below_alloc | apply pw_below_drewN | apply below_drew1) | exact HB.out)) hb); have n2_ := Aside0.mk (hbox); have n3_ := Aside0.mk ((by rw [hg]; exact (below_size (by repeat (first | (with_reducible first | exact HB.out | apply below_alloc | apply pw_below_drewN | apply below_drew1) | exact HB.out))) : w.heap.size ≤ gb268)); have n4_ := Aside0.mk ((by rw [hg]; exact (below_size (by repeat (first | (with_reducible first | exact HB.out | apply below_alloc | apply pw_below_drewN | apply below_drew1) | exact HB.out))) : w.heap.size ≤ gb268)); clear HO_0; clear HB; have HO_0 := n0_; have HB := n1_; have BK268 := n2_; have GW268 := n3_; have GE268 := n4_; clear n0_ n1_ n2_ n3_ n4_; clear hb hbox hg; have hcz14_0 : w13.cell? ⟨gb268, 0, none⟩ = some (.int .i64 0) := (blk_cell BK268.out 0).trans rfl; have hcz14_1 : w13.cell? ⟨gb268, 1, none⟩ = some (.int .i64 0) := (blk_cell BK268.out 1).trans rfl; have hcz14_2 : w13.cell? ⟨gb268, 2, none⟩ = some (.slice none 0 0) := (blk_cell BK268.out 2).trans rfl; have hfz14_0 := blk_frozen BK268.out 0; have hfz14_1 := blk_frozen BK268.out 1; have hfz14_2 := blk_frozen BK268.out 2) | ((with_reducible refine gate_callee (f := 48) rfl ?_); refine goesL_ (some 44) rfl rfl Try.func48 (by kernel_rfl) rfl #[.agg #[.int .i64 ((rd_T39 l1 x10_1).f0), .int .i64 ((rd_T39 l1 x10_1).f1), .slice A267_2 ((rd_T39 l1 x10_1).f2).length c267_2]] rfl (by (try simp only [List.map_toArray, List.map_cons, List.map_nil]); first | done | rfl | (simp only [List.length_drop, List.length_take]; rfl)) ?_; (with_reducible refine (ref26_Copies.calls ((rd_T39 l1 x10_1).f0) ((rd_T39 l1 x10_1).f1) _ _ ((rd_T39 l1 x10_1).f2) true _ ?side1 ?side2 A10.out).mono ?_); (case side1 => exact Kd.C_below HR267_2.out (by repeat (first | (with_reducible first | exact HB.out | apply below_alloc | apply pw_below_drewN | apply below_drew1 | refine below_set ?_ GE268.out) | exact HB.out))); (case side2 => exact HC267_2.out); rintro e w15 ⟨rfl, hb⟩; refine ⟨_, rfl, ?_⟩; have n0_ := Aside0.mk (Kd.V_below (by (with_reducible repeat (first | apply Kd.V_alloc | apply Kd.V_drewN | apply Kd.V_drew)); exact (Kd.V_mono (Kd.V_far (p := ⟨gb268, 2, none⟩) (Kd.V_far (p := ⟨gb268, 1, none⟩) (Kd.V_far (p := ⟨gb268, 0, none⟩) (Kd.V_mono HO_0.out (fun k_ hk => (⟨hk, hk.2⟩ : _ ∧ k_ ≠ gb268))) (fun _ hk => hk.2) (.int .i64 ((rd_T39 l1 x10_1).f0))) (fun _ hk => hk.2) (.int .i64 ((rd_T39 l1 x10_1).f1))) (fun _ hk => hk.2) (.slice A267_2 ((rd_T39 l1 x10_1).f2).length c267_2)) (fun _ h_ => h_.1))) hb); have n1_ := Aside0.mk (blk_below (g := gb268) (o := .cells #[.int .i64 ((rd_T39 l1 x10_1).f0), .int .i64 ((rd_T39 l1 x10_1).f1), .slice A267_2 ((rd_T39 l1 x10_1).f2).length c267_2] 39 (0, 0)) (by (with_reducible repeat (first | refine blk_drewN ?_ _ | refine blk_drew ?_ | refine blk_alloc ?_ _)); refine blk_put (cs := #[.int .i64 ((rd_T39 l1 x10_1).f0), .int .i64 ((rd_T39 l1 x10_1).f1), .slice none 0 0]) ?_ 2 _ rfl; (with_reducible repeat (first | refine blk_drewN ?_ _ | refine blk_drew ?_ | refine blk_alloc ?_ _)); refine blk_put (cs := #[.int .i64 ((rd_T39 l1 x10_1).f0), .int .i64 0, .slice none 0 0]) ?_ 1 _ rfl; (with_reducible repeat (first | refine blk_drewN ?_ _ | refine blk_drew ?_ | refine blk_alloc ?_ _)); refine blk_put (cs := #[.int .i64 0, .int .i64 0, .slice none 0 0]) ?_ 0 _ rfl; (with_reducible repeat (first | refine blk_drewN ?_ _ | refine blk_drew ?_ | refine blk_alloc ?_ _)); exact BK268.out) hb); have n2_ := Aside0.mk (below_step (by repeat (first | (with_reducible first | exact HB.out | apply below_alloc | apply pw_below_drewN | apply below_drew1 | refine below_set ?_ GE268.out) | exact HB.out)) hb); clear HO_0; clear BK268; clear HB; have HO_0 := n0_; have BK268 := n1_; have HB := n2_; clear n0_ n1_ n2_; (try clear hb); (try clear hb2); (try clear hk); (try clear hi); have hcz16_0 : w15.cell? ⟨gb268, 0, none⟩ = some (.int .i64 ((rd_T39 l1 x10_1).f0)) := (blk_cell BK268.out 0).trans rfl; have hcz16_1 : w15.cell? ⟨gb268, 1, none⟩ = some (.int .i64 ((rd_T39 l1 x10_1).f1)) := (blk_cell BK268.out 1).trans rfl; have hcz16_2 : w15.cell? ⟨gb268, 2, none⟩ = some (.slice A267_2 ((rd_T39 l1 x10_1).f2).length c267_2) := (blk_cell BK268.out 2).trans rfl; have hfz16_0 := blk_frozen BK268.out 0; have hfz16_1 := blk_frozen BK268.out 1; have hfz16_2 := blk_frozen BK268.out 2; obtain ⟨Ao17, co17, eo17⟩ := Kd.V_slice HO_0.out; subst eo17) | ((with_reducible refine gate_callee (f := 46) rfl ?_); refine goesL_ (some 54) rfl rfl Try.func46 (by kernel_rfl) rfl #[.slice Ao17 x0_1.length co17, .agg #[.int .i64 (wrap64 (((rd_T39 l1 x10_1).f0) + (ji7))), .int .i64 (wrap64 ((ji8) - (ji7))), .slice none 0 0]] rfl (by (try simp only [List.map_toArray, List.map_cons, List.map_nil]); first | done | (simp only [hji7, hji8]; rfl) | rfl | (simp only [List.length_drop, List.length_take]; rfl)) ?_; (refine (ref26_Add.calls k1 (fun k_ => ((P0_ k_ ∨ w.heap.size ≤ k_) ∧ k_ ≠ gb268)) _ _ x0_1 (wrap64 (((rd_T39 l1 x10_1).f0) + (ji7))) (wrap64 ((ji8) - (ji7))) _ _ ([] : List Int) t270 _ ?side1 ?side2 ?side3 A12.out).mono ?_); (case side1 => exact HO_0.out); (case side2 => exact Kd.C_nil _ _); (case side3 => exact Nat.le_refl _); rintro e w18 ⟨v271, rfl, ho0, hb⟩; refine ⟨_, rfl, ?_⟩; have n0_ := Aside0.mk (Kd.V_elder' (by (with_reducible repeat (first | apply Kd.V_alloc | apply Kd.V_drewN | apply Kd.V_drew)); exact HO_0.out) (Kd.N_base ho0) hb); have n1_ := Aside0.mk (Kd.N_lower (Kd.N_mono (ok' := fun k_ => (P0_ k_ ∨ w.heap.size ≤ k_) ∧ k_ ≠ gb268) ho0 (fun k_ hk_ => ⟨Or.elim hk_ (fun hs_ => hs_.1) (fun hn_ => (.inr (Nat.le_trans (below_size (by repeat (first | (with_reducible first | exact HB.out | apply below_alloc | apply pw_below_drewN | apply below_drew1 | refine below_set ?_ GE268.out) | exact HB.out))) hn_))), Or.elim hk_ (fun hs_ => hs_.2) (fun hn_ => (Kd.freshB (g := gb268) (o := .cells #[.int .i64 ((rd_T39 l1 x10_1).f0), .int .i64 ((rd_T39 l1 x10_1).f1), .slice A267_2 ((rd_T39 l1 x10_1).f2).length c267_2] 39 (0, 0)) (by (with_reducible repeat (first | refine blk_drewN ?_ _ | refine blk_drew ?_ | refine blk_alloc ?_ _)); exact BK268.out) k_ hn_))⟩)) (below_size (by repeat (first | (with_reducible first | exact HB.out | apply below_alloc | apply pw_below_drewN | apply below_drew1 | refine below_set ?_ GE268.out) | exact HB.out)))); have n2_ := Aside0.mk (blk_below (g := gb268) (o := .cells #[.int .i64 ((rd_T39 l1 x10_1).f0), .int .i64 ((rd_T39 l1 x10_1).f1), .slice A267_2 ((rd_T39 l1 x10_1).f2).length c267_2] 39 (0, 0)) (by (with_reducible repeat (first | refine blk_drewN ?_ _ | refine blk_drew ?_ | refine blk_alloc ?_ _)); exact BK268.out) hb); have n3_ := Aside0.mk (below_step (by repeat (first | (with_reducible first | exact HB.out | apply below_alloc | apply pw_below_drewN | apply below_drew1 | refine below_set ?_ GE268.out) | exact HB.out)) hb); clear HO_0; clear BK268; clear HB; have HO_0 := n0_; have HO272 := n1_; have BK268 := n2_; have HB := n3_; clear n0_ n1_ n2_ n3_; (try clear hb); (try clear hb2); (try clear hk); (try clear hi); (try clear ho0)))
              go_roundg k1
              case measure => have := HK1.out; omega
              case rel => exact ⟨(t270), (wrap64 (x9_1 + (wrap64 (((rd_T39 l1 x10_1).f1) + (((rd_T39 l1 x10_1).f2).length : Int))))), (wrap64 (x10_1 + 1)), (by first | rfl | (simp; done) | (simp [*]; done)), (by first | rfl | (simp; done) | (simp [*]; done)), H', ⟨by have := HK1.out; omega⟩, ⟨Kd.N_V (by (with_reducible repeat (first | apply Kd.N_alloc | apply Kd.N_drewN | apply Kd.N_drew)); exact Kd.N_mono HO272.out (fun _ hk => hk.1))⟩, ⟨by repeat (first | (with_reducible first | exact HB.out | apply below_alloc | apply pw_below_drewN | apply below_drew1 | refine below_set ?_ GE268.out) | exact HB.out)⟩⟩
            · replace c11 := Bool.eq_false_iff.mpr c11
              subst c11
              have H1 : (if 0 ≤ (ji7) then (if (ji7) ≤ (ji8) then (if (ji8) ≤ (((rd_T39 l1 x10_1).f2).length : Int) then ((ref26_Add.f k1 x0_1 0 0 ((((rd_T39 l1 x10_1).f2).take ((ji8) : Int).toNat).drop ((ji7) : Int).toNat)).bind fun t274 => (ref26_Part.l0 k1 t274 l1 a2 a3 (wrap64 (x9_1 + (wrap64 (((rd_T39 l1 x10_1).f1) + (((rd_T39 l1 x10_1).f2).length : Int))))) (wrap64 (x10_1 + 1)))) else (none)) else (none)) else (none)) = some r := by rw [if_neg (show ¬ (false = true) by decide)] at H; exact H
              clear H
              have H := H1
              clear H1
              by_cases c19 : 0 ≤ (ji7)
              · rw [if_pos c19] at H
                have c19b0 := eq_true c19
                have c19b1 : decide (0 ≤ (ji7)) = true := decide_eq_true c19
                clear c19
                by_cases c20 : (ji7) ≤ (ji8)
                · rw [if_pos c20] at H
                  have c20b0 := eq_true c20
                  have c20b1 : decide ((ji7) ≤ (ji8)) = true := decide_eq_true c20
                  clear c20
                  by_cases c21 : (ji8) ≤ (((rd_T39 l1 x10_1).f2).length : Int)
                  · rw [if_pos c21] at H
                    have c21b0 := eq_true c21
                    have c21b1 : decide ((ji8) ≤ (((rd_T39 l1 x10_1).f2).length : Int)) = true := decide_eq_true c21
                    clear c21
                    replace H := Option.bind_eq_some_iff.mp H
                    obtain ⟨t274, A220, H⟩ := H
                    replace H : (ref26_Part.l0 k1 t274 l1 a2 a3 (wrap64 (x9_1 + (wrap64 (((rd_T39 l1 x10_1).f1) + (((rd_T39 l1 x10_1).f2).length : Int))))) (wrap64 (x10_1 + 1))) = some r := H
                    have A22 := Aside0.mk A220
                    clear A220
                    have H' := Aside0.mk H
                    clear H
                    have p267 : 0 ≤ (x10_1 : Int) := of_decide_eq_true (by first | (with_reducible assumption) | assumption)
                    have q267 : x10_1 < (l1.length : Int) := of_decide_eq_true (by first | (with_reducible assumption) | assumption)
                    obtain ⟨ad267, A267_2, c267_2, e267, hx267_0, hx267_1, hx267_2, hl267_2, hi267_2⟩ := at_T39 HR1.out x10_1 p267 q267
                    cases e267
                    have hu267_2 := Aside0.mk hx267_2
                    replace hx267_0 := (HB.out.cell (World.block_lt_of_cell? w _ hx267_0)).trans hx267_0
                    replace hx267_1 := (HB.out.cell (World.block_lt_of_cell? w _ hx267_1)).trans hx267_1
                    replace hx267_2 := (HB.out.cell (World.block_lt_of_cell? w _ hx267_2)).trans hx267_2
                    have HR267_2 := Aside0.mk hi267_2
                    have HC267_2 := Aside0.mk hl267_2
                    clear hi267_2 hl267_2
                    replace p267 := eq_true p267
                    replace q267 := eq_true q267
                    go_wp2_with (first | ((with_reducible refine gate_dst (N := 11) rfl ?_); refine box_event ?hg (N := 11) ?hd (cs := #[.int .i64 0, .int .i64 0, .slice none 0 0]) (t := 39) ?hr ?_; (case hd => rfl); (case hg => rfl); (case hr => first | (go_simp; done) | (go_simp; rfl)); intro gb268 hg w23 hbox hb; have n0_ := Aside0.mk (Kd.V_below (Kd.V_elderB (by (with_reducible repeat (first | apply Kd.V_alloc | apply Kd.V_drewN | apply Kd.V_drew)); exact HO_0.out) gb268 (Nat.le_of_eq hg.symm)) hb); have n1_ := Aside0.mk (below_step (by repeat (first | (with_reducible first | exact HB.out | apply below_alloc | apply pw_below_drewN | apply below_drew1) | exact HB.out)) hb); have n2_ := Aside0.mk (hbox); have n3_ := Aside0.mk ((by rw [hg]; exact (below_size (by repeat (first | (with_reducible first | exact HB.out | apply below_alloc | apply pw_below_drewN | apply below_drew1) | exact HB.out))) : w.heap.size ≤ gb268)); have n4_ := Aside0.mk ((by rw [hg]; exact (below_size (by repeat (first | (with_reducible first | exact HB.out | apply below_alloc | apply pw_below_drewN | apply below_drew1) | exact HB.out))) : w.heap.size ≤ gb268)); clear HO_0; clear HB; have HO_0 := n0_; have HB := n1_; have BK268 := n2_; have GW268 := n3_; have GE268 := n4_; clear n0_ n1_ n2_ n3_ n4_; clear hb hbox hg; have hcz24_0 : w23.cell? ⟨gb268, 0, none⟩ = some (.int .i64 0) := (blk_cell BK268.out 0).trans rfl; have hcz24_1 : w23.cell? ⟨gb268, 1, none⟩ = some (.int .i64 0) := (blk_cell BK268.out 1).trans rfl; have hcz24_2 : w23.cell? ⟨gb268, 2, none⟩ = some (.slice none 0 0) := (blk_cell BK268.out 2).trans rfl; have hfz24_0 := blk_frozen BK268.out 0; have hfz24_1 := blk_frozen BK268.out 1; have hfz24_2 := blk_frozen BK268.out 2) | ((with_reducible refine gate_callee (f := 48) rfl ?_); refine goesL_ (some 44) rfl rfl Try.func48 (by kernel_rfl) rfl #[.agg #[.int .i64 ((rd_T39 l1 x10_1).f0), .int .i64 ((rd_T39 l1 x10_1).f1), .slice A267_2 ((rd_T39 l1 x10_1).f2).length c267_2]] rfl (by (try simp only [List.map_toArray, List.map_cons, List.map_nil]); first | done | rfl | (simp only [List.length_drop, List.length_take]; rfl)) ?_; (with_reducible refine (ref26_Copies.calls ((rd_T39 l1 x10_1).f0) ((rd_T39 l1 x10_1).f1) _ _ ((rd_T39 l1 x10_1).f2) false _ ?side1 ?side2 A10.out).mono ?_); (case side1 => exact Kd.C_below HR267_2.out (by repeat (first | (with_reducible first | exact HB.out | apply below_alloc | apply pw_below_drewN | apply below_drew1 | refine below_set ?_ GE268.out) | exact HB.out))); (case side2 => exact HC267_2.out); rintro e w25 ⟨rfl, hb⟩; refine ⟨_, rfl, ?_⟩; have n0_ := Aside0.mk (Kd.V_below (by (with_reducible repeat (first | apply Kd.V_alloc | apply Kd.V_drewN | apply Kd.V_drew)); exact (Kd.V_mono (Kd.V_far (p := ⟨gb268, 2, none⟩) (Kd.V_far (p := ⟨gb268, 1, none⟩) (Kd.V_far (p := ⟨gb268, 0, none⟩) (Kd.V_mono HO_0.out (fun k_ hk => (⟨hk, hk.2⟩ : _ ∧ k_ ≠ gb268))) (fun _ hk => hk.2) (.int .i64 ((rd_T39 l1 x10_1).f0))) (fun _ hk => hk.2) (.int .i64 ((rd_T39 l1 x10_1).f1))) (fun _ hk => hk.2) (.slice A267_2 ((rd_T39 l1 x10_1).f2).length c267_2)) (fun _ h_ => h_.1))) hb); have n1_ := Aside0.mk (blk_below (g := gb268) (o := .cells #[.int .i64 ((rd_T39 l1 x10_1).f0), .int .i64 ((rd_T39 l1 x10_1).f1), .slice A267_2 ((rd_T39 l1 x10_1).f2).length c267_2] 39 (0, 0)) (by (with_reducible repeat (first | refine blk_drewN ?_ _ | refine blk_drew ?_ | refine blk_alloc ?_ _)); refine blk_put (cs := #[.int .i64 ((rd_T39 l1 x10_1).f0), .int .i64 ((rd_T39 l1 x10_1).f1), .slice none 0 0]) ?_ 2 _ rfl; (with_reducible repeat (first | refine blk_drewN ?_ _ | refine blk_drew ?_ | refine blk_alloc ?_ _)); refine blk_put (cs := #[.int .i64 ((rd_T39 l1 x10_1).f0), .int .i64 0, .slice none 0 0]) ?_ 1 _ rfl; (with_reducible repeat (first | refine blk_drewN ?_ _ | refine blk_drew ?_ | refine blk_alloc ?_ _)); refine blk_put (cs := #[.int .i64 0, .int .i64 0, .slice none 0 0]) ?_ 0 _ rfl; (with_reducible repeat (first | refine blk_drewN ?_ _ | refine blk_drew ?_ | refine blk_alloc ?_ _)); exact BK268.out) hb); have n2_ := Aside0.mk (below_step (by repeat (first | (with_reducible first | exact HB.out | apply below_alloc | apply pw_below_drewN | apply below_drew1 | refine below_set ?_ GE268.out) | exact HB.out)) hb); clear HO_0; clear BK268; clear HB; have HO_0 := n0_; have BK268 := n1_; have HB := n2_; clear n0_ n1_ n2_; (try clear hb); (try clear hb2); (try clear hk); (try clear hi); have hcz26_0 : w25.cell? ⟨gb268, 0, none⟩ = some (.int .i64 ((rd_T39 l1 x10_1).f0)) := (blk_cell BK268.out 0).trans rfl; have hcz26_1 : w25.cell? ⟨gb268, 1, none⟩ = some (.int .i64 ((rd_T39 l1 x10_1).f1)) := (blk_cell BK268.out 1).trans rfl; have hcz26_2 : w25.cell? ⟨gb268, 2, none⟩ = some (.slice A267_2 ((rd_T39 l1 x10_1).f2).length c267_2) := (blk_cell BK268.out 2).trans rfl; have hfz26_0 := blk_frozen BK268.out 0; have hfz26_1 := blk_frozen BK268.out 1; have hfz26_2 := blk_frozen BK268.out 2; obtain ⟨i027, hi027, _, hsz27, _⟩ := info_parts info5; obtain ⟨A27, hcut27, hA27, hC27⟩ := print_mid_of (P := Try.prog) (Value.int .u8) 0 26 5 .i64 .i64 Try.underlying26 hi027 hsz27 A267_2 c267_2 ((rd_T39 l1 x10_1).f2) (ji7) (ji8) (of_decide_eq_true (by first | (with_reducible assumption) | assumption)) (by first | omega | exact of_decide_eq_true (by first | (with_reducible assumption) | assumption)) (of_decide_eq_true (by first | (with_reducible assumption) | assumption)) HC267_2.out; have HR273 := Aside0.mk (Kd.C_of_reads (h1 := fun _ => rfl) (hA27 _ (Kd.reads_of_C HR267_2.out))); have HC273 := Aside0.mk hC27; clear hA27 hC27 hi027 hsz27; obtain ⟨Ao28, co28, eo28⟩ := Kd.V_slice HO_0.out; subst eo28) | ((with_reducible refine gate_callee (f := 46) rfl ?_); refine goesL_ (some 62) rfl rfl Try.func46 (by kernel_rfl) rfl #[.slice Ao28 x0_1.length co28, .agg #[.int .i64 0, .int .i64 0, .slice A27 ((((rd_T39 l1 x10_1).f2).take ((ji8) : Int).toNat).drop ((ji7) : Int).toNat).length (c267_2 - (ji7).toNat)]] rfl (by (try simp only [List.map_toArray, List.map_cons, List.map_nil]); first | done | (rw [show ((((rd_T39 l1 x10_1).f2).take ((ji8) : Int).toNat).drop ((ji7) : Int).toNat).length = ((ji8).toNat - (ji7).toNat) from (by rw [List.length_drop, List.length_take]; have h_ : ((ji8) : Int) ≤ (((rd_T39 l1 x10_1).f2).length : Int) := of_decide_eq_true (by first | (with_reducible assumption) | assumption); omega)] <;> rfl) | (simp only [hji7, hji8]; rfl) | rfl | (simp only [List.length_drop, List.length_take]; rfl)) ?_; (with_reducible refine (ref26_Add.calls k1 (fun k_ => ((P0_ k_ ∨ w.heap.size ≤ k_) ∧ k_ ≠ gb268)) _ _ x0_1 0 0 _ _ ((((rd_T39 l1 x10_1).f2).take ((ji8) : Int).toNat).drop ((ji7) : Int).toNat) t274 _ ?side1 ?side2 ?side3 A22.out).mono ?_); (case side1 => exact HO_0.out); (case side2 => repeat (first | exact (Kd.C_below HR273.out HB.out) | (with_reducible refine Kd.C_alloc ?_ _) | (with_reducible refine Kd.C_drewN ?_ _) | (with_reducible refine Kd.C_drew ?_))); (case side3 => exact HC273.out); rintro e w29 ⟨v275, rfl, ho0, hb⟩; refine ⟨_, rfl, ?_⟩; have n0_ := Aside0.mk (Kd.V_elder' (by (with_reducible repeat (first | apply Kd.V_alloc | apply Kd.V_drewN | apply Kd.V_drew)); exact HO_0.out) (Kd.N_base ho0) hb); have n1_ := Aside0.mk (Kd.N_lower (Kd.N_mono (ok' := fun k_ => (P0_ k_ ∨ w.heap.size ≤ k_) ∧ k_ ≠ gb268) ho0 (fun k_ hk_ => ⟨Or.elim hk_ (fun hs_ => hs_.1) (fun hn_ => (.inr (Nat.le_trans (below_size (by repeat (first | (with_reducible first | exact HB.out | apply below_alloc | apply pw_below_drewN | apply below_drew1 | refine below_set ?_ GE268.out) | exact HB.out))) hn_))), Or.elim hk_ (fun hs_ => hs_.2) (fun hn_ => (Kd.freshB (g := gb268) (o := .cells #[.int .i64 ((rd_T39 l1 x10_1).f0), .int .i64 ((rd_T39 l1 x10_1).f1), .slice A267_2 ((rd_T39 l1 x10_1).f2).length c267_2] 39 (0, 0)) (by (with_reducible repeat (first | refine blk_drewN ?_ _ | refine blk_drew ?_ | refine blk_alloc ?_ _)); exact BK268.out) k_ hn_))⟩)) (below_size (by repeat (first | (with_reducible first | exact HB.out | apply below_alloc | apply pw_below_drewN | apply below_drew1 | refine below_set ?_ GE268.out) | exact HB.out)))); have n2_ := Aside0.mk (blk_below (g := gb268) (o := .cells #[.int .i64 ((rd_T39 l1 x10_1).f0), .int .i64 ((rd_T39 l1 x10_1).f1), .slice A267_2 ((rd_T39 l1 x10_1).f2).length c267_2] 39 (0, 0)) (by (with_reducible repeat (first | refine blk_drewN ?_ _ | refine blk_drew ?_ | refine blk_alloc ?_ _)); exact BK268.out) hb); have n3_ := Aside0.mk (below_step (by repeat (first | (with_reducible first | exact HB.out | apply below_alloc | apply pw_below_drewN | apply below_drew1 | refine below_set ?_ GE268.out) | exact HB.out)) hb); clear HO_0; clear BK268; clear HB; have HO_0 := n0_; have HO276 := n1_; have BK268 := n2_; have HB := n3_; clear n0_ n1_ n2_ n3_; (try clear hb); (try clear hb2); (try clear hk); (try clear hi); (try clear ho0)))
                    go_roundg k1
                    case measure => have := HK1.out; omega
                    case rel => exact ⟨(t274), (wrap64 (x9_1 + (wrap64 (((rd_T39 l1 x10_1).f1) + (((rd_T39 l1 x10_1).f2).length : Int))))), (wrap64 (x10_1 + 1)), (by first | rfl | (simp; done) | (simp [*]; done)), (by first | rfl | (simp; done) | (simp [*]; done)), H', ⟨by have := HK1.out; omega⟩, ⟨Kd.N_V (by (with_reducible repeat (first | apply Kd.N_alloc | apply Kd.N_drewN | apply Kd.N_drew)); exact Kd.N_mono HO276.out (fun _ hk => hk.1))⟩, ⟨by repeat (first | (with_reducible first | exact HB.out | apply below_alloc | apply pw_below_drewN | apply below_drew1 | refine below_set ?_ GE268.out) | exact HB.out)⟩⟩
                  · rw [if_neg c21] at H
                    exact absurd H (by simp)
                · rw [if_neg c20] at H
                  exact absurd H (by simp)
              · rw [if_neg c19] at H
                exact absurd H (by simp)
          · rw [if_neg c9] at H
            have c9b0 : decide ((ji7) < (ji8)) = false := decide_eq_false c9
            clear c9
            have H' := Aside0.mk H
            clear H
            have p267 : 0 ≤ (x10_1 : Int) := of_decide_eq_true (by first | (with_reducible assumption) | assumption)
            have q267 : x10_1 < (l1.length : Int) := of_decide_eq_true (by first | (with_reducible assumption) | assumption)
            obtain ⟨ad267, A267_2, c267_2, e267, hx267_0, hx267_1, hx267_2, hl267_2, hi267_2⟩ := at_T39 HR1.out x10_1 p267 q267
            cases e267
            have hu267_2 := Aside0.mk hx267_2
            replace hx267_0 := (HB.out.cell (World.block_lt_of_cell? w _ hx267_0)).trans hx267_0
            replace hx267_1 := (HB.out.cell (World.block_lt_of_cell? w _ hx267_1)).trans hx267_1
            replace hx267_2 := (HB.out.cell (World.block_lt_of_cell? w _ hx267_2)).trans hx267_2
            have HR267_2 := Aside0.mk hi267_2
            have HC267_2 := Aside0.mk hl267_2
            clear hi267_2 hl267_2
            replace p267 := eq_true p267
            replace q267 := eq_true q267
            go_wp2_with (first | ((with_reducible refine gate_dst (N := 11) rfl ?_); refine box_event ?hg (N := 11) ?hd (cs := #[.int .i64 0, .int .i64 0, .slice none 0 0]) (t := 39) ?hr ?_; (case hd => rfl); (case hg => rfl); (case hr => first | (go_simp; done) | (go_simp; rfl)); intro gb268 hg w30 hbox hb; have n0_ := Aside0.mk (Kd.V_below (Kd.V_elderB (by (with_reducible repeat (first | apply Kd.V_alloc | apply Kd.V_drewN | apply Kd.V_drew)); exact HO_0.out) gb268 (Nat.le_of_eq hg.symm)) hb); have n1_ := Aside0.mk (below_step (by repeat (first | (with_reducible first | exact HB.out | apply below_alloc | apply pw_below_drewN | apply below_drew1) | exact HB.out)) hb); have n2_ := Aside0.mk (hbox); have n3_ := Aside0.mk ((by rw [hg]; exact (below_size (by repeat (first | (with_reducible first | exact HB.out | apply below_alloc | apply pw_below_drewN | apply below_drew1) | exact HB.out))) : w.heap.size ≤ gb268)); have n4_ := Aside0.mk ((by rw [hg]; exact (below_size (by repeat (first | (with_reducible first | exact HB.out | apply below_alloc | apply pw_below_drewN | apply below_drew1) | exact HB.out))) : w.heap.size ≤ gb268)); clear HO_0; clear HB; have HO_0 := n0_; have HB := n1_; have BK268 := n2_; have GW268 := n3_; have GE268 := n4_; clear n0_ n1_ n2_ n3_ n4_; clear hb hbox hg; have hcz31_0 : w30.cell? ⟨gb268, 0, none⟩ = some (.int .i64 0) := (blk_cell BK268.out 0).trans rfl; have hcz31_1 : w30.cell? ⟨gb268, 1, none⟩ = some (.int .i64 0) := (blk_cell BK268.out 1).trans rfl; have hcz31_2 : w30.cell? ⟨gb268, 2, none⟩ = some (.slice none 0 0) := (blk_cell BK268.out 2).trans rfl; have hfz31_0 := blk_frozen BK268.out 0; have hfz31_1 := blk_frozen BK268.out 1; have hfz31_2 := blk_frozen BK268.out 2))
            go_roundg k1
            case measure => have := HK1.out; omega
            case rel => exact ⟨(x0_1), (wrap64 (x9_1 + (wrap64 (((rd_T39 l1 x10_1).f1) + (((rd_T39 l1 x10_1).f2).length : Int))))), (wrap64 (x10_1 + 1)), (by first | rfl | (simp; done) | (simp [*]; done)), (by first | rfl | (simp; done) | (simp [*]; done)), H', ⟨by have := HK1.out; omega⟩, ⟨by (with_reducible repeat (first | apply Kd.V_alloc | apply Kd.V_drewN | apply Kd.V_drew)); exact Kd.V_mono (Kd.V_far (p := ⟨gb268, 2, none⟩) (Kd.V_far (p := ⟨gb268, 1, none⟩) (Kd.V_far (p := ⟨gb268, 0, none⟩) (Kd.V_mono HO_0.out (fun k_ hk => (⟨hk, hk.2⟩ : _ ∧ k_ ≠ gb268))) (fun _ hk => hk.2) (.int .i64 ((rd_T39 l1 x10_1).f0))) (fun _ hk => hk.2) (.int .i64 ((rd_T39 l1 x10_1).f1))) (fun _ hk => hk.2) (.slice A267_2 ((rd_T39 l1 x10_1).f2).length c267_2)) (fun _ hk => hk.1.1)⟩, ⟨by repeat (first | (with_reducible first | exact HB.out | apply below_alloc | apply pw_below_drewN | apply below_drew1 | refine below_set ?_ GE268.out) | exact HB.out)⟩⟩
        · rw [if_neg c6] at H
          exact absurd H (by simp)
      · rw [if_neg c5] at H
        have c5b0 : decide (x10_1 < (l1.length : Int)) = false := decide_eq_false c5
        clear c5
        obtain rfl := Option.some.inj H
        go_wp2
        go_ret
        exact ⟨_, by first | rfl | (simp [errW_none, errW_some] <;> rfl) | (simp [*, errW_none, errW_some] <;> rfl), by (with_reducible repeat (first | apply Kd.V_alloc | apply Kd.V_drewN | apply Kd.V_drew)); exact HO_0.out, by repeat (first | (with_reducible first | exact HB.out | apply below_alloc | apply pw_below_drewN | apply below_drew1) | exact HB.out)⟩

/-! ### ref26_Compose: function 35 -/
def ref26_Compose.l0 : Nat → List (S39) → List (S39) → List (S39) → Int → Option ((List (S39)) × Int)
  | 0, _, _, _, _ => none
  | k + 1, x1, x2, x10, x11 => if x11 < (x2.length : Int) then (if 0 ≤ x11 then ((ref26_Copies.f ((rd_T39 x2 x11).f0) ((rd_T39 x2 x11).f1) ((rd_T39 x2 x11).f2)).bind fun t283 => (if t283 = true then ((ref26_Part.f k x10 x1 ((rd_T39 x2 x11).f0) (wrap64 (((rd_T39 x2 x11).f0) + ((rd_T39 x2 x11).f1)))).bind fun t284 => (ref26_Compose.l0 k x1 x2 t284 (wrap64 (x11 + 1)))) else ((ref26_Add.f k x10 ((rd_T39 x2 x11).f0) ((rd_T39 x2 x11).f1) ((rd_T39 x2 x11).f2)).bind fun t287 => (ref26_Compose.l0 k x1 x2 t287 (wrap64 (x11 + 1)))))) else (none)) else (if (x10.length : Int) > 4096 then (some (([] : List (S39)), 263)) else (some (x10, 0)))
def ref26_Compose.f (k : Nat) (a0 : Int) (l1 : List (S39)) (l2 : List (S39)) : Option ((List (S39)) × Int) := (ref26_Check.f k a0 l1).bind fun bt277 => (if bt277.2 = 0 then ((ref26_Check.f k bt277.1 l2).bind fun bt279 => (if bt279.2 = 0 then (ref26_Compose.l0 k l1 l2 ([] : List (S39)) 0) else (some (([] : List (S39)), bt279.2)))) else (some (([] : List (S39)), bt277.2)))
set_option maxHeartbeats 8000000 in
set_option maxRecDepth 100000 in
theorem ref26_Compose.calls (k : Nat) (a0 : Int) (A1 : Option Addr) (c1 : Nat) (l1 : List (S39)) (A2 : Option Addr) (c2 : Nat) (l2 : List (S39)) (r1 : List (S39)) (r2 : Int) (w : World) (hr1 : Kd.C k39 w A1 l1.length l1) (hc1 : l1.length ≤ c1) (hr2 : Kd.C k39 w A2 l2.length l2) (hc2 : l2.length ≤ c2) (h : ref26_Compose.f k a0 l1 l2 = some (r1, r2)) :
    Calls Try.prog 35 #[.int .i64 a0, .slice A1 l1.length c1, .slice A2 l2.length c2] w fun e w' => ∃ v0_ : Value, e = .returned (.tuple #[v0_, .int .i64 r2]) ∧ Kd.V k39 39 w' w.heap.size (fun k_ => (w.heap.size ≤ k_)) v0_ r1 ∧ Below w.heap.size w w' := by
  have hu39 := Try.underlying39
  have HR1 := Aside0.mk hr1
  have HC1 := Aside0.mk hc1
  clear hr1 hc1
  have HR2 := Aside0.mk hr2
  have HC2 := Aside0.mk hc2
  clear hr2 hc2
  have HB := Aside0.mk (Below.refl w.heap.size w)
  have H : ((ref26_Check.f k a0 l1).bind fun bt277 => (if bt277.2 = 0 then ((ref26_Check.f k bt277.1 l2).bind fun bt279 => (if bt279.2 = 0 then (ref26_Compose.l0 k l1 l2 ([] : List (S39)) 0) else (some (([] : List (S39)), bt279.2)))) else (some (([] : List (S39)), bt277.2)))) = some (r1, r2) := h
  clear h
  replace H := Option.bind_eq_some_iff.mp H
  obtain ⟨⟨t277, t278⟩, A40, H⟩ := H
  replace H : (if t278 = 0 then ((ref26_Check.f k t277 l2).bind fun bt279 => (if bt279.2 = 0 then (ref26_Compose.l0 k l1 l2 ([] : List (S39)) 0) else (some (([] : List (S39)), bt279.2)))) else (some (([] : List (S39)), t278))) = some (r1, r2) := H
  have A4 := Aside0.mk A40
  clear A40
  by_cases c5 : t278 = 0
  · rw [if_pos c5] at H
    have c5b0 : (t278 == 0) = true := beq_iff_eq.mpr c5
    have c5b1 : (t278 != 0) = false := bne_eq_false_iff_eq.mpr c5
    clear c5
    replace H := Option.bind_eq_some_iff.mp H
    obtain ⟨⟨t279, t280⟩, A60, H⟩ := H
    replace H : (if t280 = 0 then (ref26_Compose.l0 k l1 l2 ([] : List (S39)) 0) else (some (([] : List (S39)), t280))) = some (r1, r2) := H
    have A6 := Aside0.mk A60
    clear A60
    by_cases c7 : t280 = 0
    · rw [if_pos c7] at H
      have c7b0 : (t280 == 0) = true := beq_iff_eq.mpr c7
      have c7b1 : (t280 != 0) = false := bne_eq_false_iff_eq.mpr c7
      clear c7
      have H' := Aside0.mk H
      clear H
      go_enter Try.func35, Try.ntmps35
      go_wp2_with (first | ((with_reducible refine gate_callee (f := 24) rfl ?_); refine goesL_ (some 16) rfl rfl Try.func24 (by kernel_rfl) rfl #[.int .i64 a0, .slice A1 l1.length c1] rfl (by (try simp only [List.map_toArray, List.map_cons, List.map_nil]); first | done | rfl | (simp only [List.length_drop, List.length_take]; rfl)) ?_; (with_reducible refine (ref26_Check.calls k a0 _ _ l1 t277 t278 _ ?side1 ?side2 A4.out).mono ?_); (case side1 => repeat (first | exact HR1.out | (with_reducible refine Kd.C_alloc ?_ _) | (with_reducible refine Kd.C_drewN ?_ _) | (with_reducible refine Kd.C_drew ?_))); (case side2 => exact HC1.out); rintro e w8 ⟨rfl, hb⟩; refine ⟨_, rfl, ?_⟩; have n0_ := Aside0.mk (below_step (by repeat (first | (with_reducible first | exact HB.out | apply below_alloc | apply pw_below_drewN | apply below_drew1) | exact HB.out)) hb); clear HB; have HB := n0_; clear n0_; (try clear hb); (try clear hb2); (try clear hk); (try clear hi)) | ((with_reducible refine gate_callee (f := 24) rfl ?_); refine goesL_ (some 25) rfl rfl Try.func24 (by kernel_rfl) rfl #[.int .i64 t277, .slice A2 l2.length c2] rfl (by (try simp only [List.map_toArray, List.map_cons, List.map_nil]); first | done | rfl | (simp only [List.length_drop, List.length_take]; rfl)) ?_; (with_reducible refine (ref26_Check.calls k t277 _ _ l2 t279 t280 _ ?side1 ?side2 A6.out).mono ?_); (case side1 => repeat (first | exact (Kd.C_below HR2.out HB.out) | (with_reducible refine Kd.C_alloc ?_ _) | (with_reducible refine Kd.C_drewN ?_ _) | (with_reducible refine Kd.C_drew ?_))); (case side2 => exact HC2.out); rintro e w9 ⟨rfl, hb⟩; refine ⟨_, rfl, ?_⟩; have n0_ := Aside0.mk (below_step (by repeat (first | (with_reducible first | exact HB.out | apply below_alloc | apply pw_below_drewN | apply below_drew1) | exact HB.out)) hb); clear HB; have HB := n0_; clear n0_; (try clear hb); (try clear hb2); (try clear hk); (try clear hi)))
      go_loopg [10, 11] k (fun kq v10 v11 w' => ∃ (x10_1 : List (S39)) (x11_1 : Int), v11 = .int .i64 x11_1 ∧ Aside0 (ref26_Compose.l0 kq l1 l2 x10_1 x11_1 = some (r1, r2)) ∧ Aside0 (kq ≤ k) ∧ Aside0 (Kd.V k39 39 w' w.heap.size (fun k_ => (w.heap.size ≤ k_)) v10 x10_1) ∧ Aside0 (Below w.heap.size w w'))
      case atStart => exact ⟨(([] : List (S39))), (0), (by first | rfl | (simp; done) | (simp [*]; done)), H', ⟨Nat.le_refl _⟩, ⟨(Kd.V_nil _ _ _ _ _)⟩, ⟨by repeat (first | (with_reducible first | exact HB.out | apply below_alloc | apply pw_below_drewN | apply below_drew1) | exact HB.out)⟩⟩
      case round =>
        clear H'
        try clear c1
        try clear c2
        try clear p2
        try clear c3
        try clear c5
        try clear c5b0
        try clear c5b1
        try clear c7
        try clear c7b0
        try clear c7b1
        obtain ⟨x10_1, x11_1, rfl, HA, HK1, HO_10, HB⟩ := hrel
        cases gk with
        | zero => exact absurd HA.out (by simp [ref26_Compose.l0])
        | succ k1 =>
          have H := HA.out
          clear HA
          simp only [ref26_Compose.l0] at H
          by_cases c10 : x11_1 < (l2.length : Int)
          · rw [if_pos c10] at H
            have c10b0 : decide (x11_1 < (l2.length : Int)) = true := decide_eq_true c10
            clear c10
            by_cases c11 : 0 ≤ x11_1
            · rw [if_pos c11] at H
              have c11b0 : decide (0 ≤ x11_1) = true := decide_eq_true c11
              clear c11
              replace H := Option.bind_eq_some_iff.mp H
              obtain ⟨t283, A120, H⟩ := H
              replace H : (if t283 = true then ((ref26_Part.f k1 x10_1 l1 ((rd_T39 l2 x11_1).f0) (wrap64 (((rd_T39 l2 x11_1).f0) + ((rd_T39 l2 x11_1).f1)))).bind fun t284 => (ref26_Compose.l0 k1 l1 l2 t284 (wrap64 (x11_1 + 1)))) else ((ref26_Add.f k1 x10_1 ((rd_T39 l2 x11_1).f0) ((rd_T39 l2 x11_1).f1) ((rd_T39 l2 x11_1).f2)).bind fun t287 => (ref26_Compose.l0 k1 l1 l2 t287 (wrap64 (x11_1 + 1))))) = some (r1, r2) := H
              have A12 := Aside0.mk A120
              clear A120
              by_cases c13 : t283 = true
              · subst c13
                have H1 : ((ref26_Part.f k1 x10_1 l1 ((rd_T39 l2 x11_1).f0) (wrap64 (((rd_T39 l2 x11_1).f0) + ((rd_T39 l2 x11_1).f1)))).bind fun t284 => (ref26_Compose.l0 k1 l1 l2 t284 (wrap64 (x11_1 + 1)))) = some (r1, r2) := by rw [if_pos rfl] at H; exact H
                clear H
                have H := H1
                clear H1
                replace H := Option.bind_eq_some_iff.mp H
                obtain ⟨t284, A140, H⟩ := H
                replace H : (ref26_Compose.l0 k1 l1 l2 t284 (wrap64 (x11_1 + 1))) = some (r1, r2) := H
                have A14 := Aside0.mk A140
                clear A140
                have H' := Aside0.mk H
                clear H
                have p281 : 0 ≤ (x11_1 : Int) := of_decide_eq_true (by first | (with_reducible assumption) | assumption)
                have q281 : x11_1 < (l2.length : Int) := of_decide_eq_true (by first | (with_reducible assumption) | assumption)
                obtain ⟨ad281, A281_2, c281_2, e281, hx281_0, hx281_1, hx281_2, hl281_2, hi281_2⟩ := at_T39 HR2.out x11_1 p281 q281
                cases e281
                have hu281_2 := Aside0.mk hx281_2
                replace hx281_0 := (HB.out.cell (World.block_lt_of_cell? w _ hx281_0)).trans hx281_0
                replace hx281_1 := (HB.out.cell (World.block_lt_of_cell? w _ hx281_1)).trans hx281_1
                replace hx281_2 := (HB.out.cell (World.block_lt_of_cell? w _ hx281_2)).trans hx281_2
                have HR281_2 := Aside0.mk hi281_2
                have HC281_2 := Aside0.mk hl281_2
                clear hi281_2 hl281_2
                replace p281 := eq_true p281
                replace q281 := eq_true q281
                go_wp2_with (first | ((with_reducible refine gate_dst (N := 12) rfl ?_); refine box_event ?hg (N := 12) ?hd (cs := #[.int .i64 0, .int .i64 0, .slice none 0 0]) (t := 39) ?hr ?_; (case hd => rfl); (case hg => rfl); (case hr => first | (go_simp; done) | (go_simp; rfl)); intro gb282 hg w15 hbox hb; have n0_ := Aside0.mk (Kd.V_below (Kd.V_elderB (by (with_reducible repeat (first | apply Kd.V_alloc | apply Kd.V_drewN | apply Kd.V_drew)); exact HO_10.out) gb282 (Nat.le_of_eq hg.symm)) hb); have n1_ := Aside0.mk (below_step (by repeat (first | (with_reducible first | exact HB.out | apply below_alloc | apply pw_below_drewN | apply below_drew1) | exact HB.out)) hb); have n2_ := Aside0.mk (hbox); have n3_ := Aside0.mk ((by rw [hg]; exact (below_size (by repeat (first | (with_reducible first | exact HB.out | apply below_alloc | apply pw_below_drewN | apply below_drew1) | exact HB.out))) : w.heap.size ≤ gb282)); have n4_ := Aside0.mk ((by rw [hg]; exact (below_size (by repeat (first | (with_reducible first | exact HB.out | apply below_alloc | apply pw_below_drewN | apply below_drew1) | exact HB.out))) : w.heap.size ≤ gb282)); clear HO_10; clear HB; have HO_10 := n0_; have HB := n1_; have BK282 := n2_; have GW282 := n3_; have GE282 := n4_; clear n0_ n1_ n2_ n3_ n4_; clear hb hbox hg; have hcz16_0 : w15.cell? ⟨gb282, 0, none⟩ = some (.int .i64 0) := (blk_cell BK282.out 0).trans rfl; have hcz16_1 : w15.cell? ⟨gb282, 1, none⟩ = some (.int .i64 0) := (blk_cell BK282.out 1).trans rfl; have hcz16_2 : w15.cell? ⟨gb282, 2, none⟩ = some (.slice none 0 0) := (blk_cell BK282.out 2).trans rfl; have hfz16_0 := blk_frozen BK282.out 0; have hfz16_1 := blk_frozen BK282.out 1; have hfz16_2 := blk_frozen BK282.out 2) | ((with_reducible refine gate_callee (f := 48) rfl ?_); refine goesL_ (some 42) rfl rfl Try.func48 (by kernel_rfl) rfl #[.agg #[.int .i64 ((rd_T39 l2 x11_1).f0), .int .i64 ((rd_T39 l2 x11_1).f1), .slice A281_2 ((rd_T39 l2 x11_1).f2).length c281_2]] rfl (by (try simp only [List.map_toArray, List.map_cons, List.map_nil]); first | done | rfl | (simp only [List.length_drop, List.length_take]; rfl)) ?_; (with_reducible refine (ref26_Copies.calls ((rd_T39 l2 x11_1).f0) ((rd_T39 l2 x11_1).f1) _ _ ((rd_T39 l2 x11_1).f2) true _ ?side1 ?side2 A12.out).mono ?_); (case side1 => exact Kd.C_below HR281_2.out (by repeat (first | (with_reducible first | exact HB.out | apply below_alloc | apply pw_below_drewN | apply below_drew1 | refine below_set ?_ GE282.out) | exact HB.out))); (case side2 => exact HC281_2.out); rintro e w17 ⟨rfl, hb⟩; refine ⟨_, rfl, ?_⟩; have n0_ := Aside0.mk (Kd.V_below (by (with_reducible repeat (first | apply Kd.V_alloc | apply Kd.V_drewN | apply Kd.V_drew)); exact (Kd.V_mono (Kd.V_far (p := ⟨gb282, 2, none⟩) (Kd.V_far (p := ⟨gb282, 1, none⟩) (Kd.V_far (p := ⟨gb282, 0, none⟩) (Kd.V_mono HO_10.out (fun k_ hk => (⟨hk, hk.2⟩ : _ ∧ k_ ≠ gb282))) (fun _ hk => hk.2) (.int .i64 ((rd_T39 l2 x11_1).f0))) (fun _ hk => hk.2) (.int .i64 ((rd_T39 l2 x11_1).f1))) (fun _ hk => hk.2) (.slice A281_2 ((rd_T39 l2 x11_1).f2).length c281_2)) (fun _ h_ => h_.1))) hb); have n1_ := Aside0.mk (blk_below (g := gb282) (o := .cells #[.int .i64 ((rd_T39 l2 x11_1).f0), .int .i64 ((rd_T39 l2 x11_1).f1), .slice A281_2 ((rd_T39 l2 x11_1).f2).length c281_2] 39 (0, 0)) (by (with_reducible repeat (first | refine blk_drewN ?_ _ | refine blk_drew ?_ | refine blk_alloc ?_ _)); refine blk_put (cs := #[.int .i64 ((rd_T39 l2 x11_1).f0), .int .i64 ((rd_T39 l2 x11_1).f1), .slice none 0 0]) ?_ 2 _ rfl; (with_reducible repeat (first | refine blk_drewN ?_ _ | refine blk_drew ?_ | refine blk_alloc ?_ _)); refine blk_put (cs := #[.int .i64 ((rd_T39 l2 x11_1).f0), .int .i64 0, .slice none 0 0]) ?_ 1 _ rfl; (with_reducible repeat (first | refine blk_drewN ?_ _ | refine blk_drew ?_ | refine blk_alloc ?_ _)); refine blk_put (cs := #[.int .i64 0, .int .i64 0, .slice none 0 0]) ?_ 0 _ rfl; (with_reducible repeat (first | refine blk_drewN ?_ _ | refine blk_drew ?_ | refine blk_alloc ?_ _)); exact BK282.out) hb); have n2_ := Aside0.mk (below_step (by repeat (first | (with_reducible first | exact HB.out | apply below_alloc | apply pw_below_drewN | apply below_drew1 | refine below_set ?_ GE282.out) | exact HB.out)) hb); clear HO_10; clear BK282; clear HB; have HO_10 := n0_; have BK282 := n1_; have HB := n2_; clear n0_ n1_ n2_; (try clear hb); (try clear hb2); (try clear hk); (try clear hi); have hcz18_0 : w17.cell? ⟨gb282, 0, none⟩ = some (.int .i64 ((rd_T39 l2 x11_1).f0)) := (blk_cell BK282.out 0).trans rfl; have hcz18_1 : w17.cell? ⟨gb282, 1, none⟩ = some (.int .i64 ((rd_T39 l2 x11_1).f1)) := (blk_cell BK282.out 1).trans rfl; have hcz18_2 : w17.cell? ⟨gb282, 2, none⟩ = some (.slice A281_2 ((rd_T39 l2 x11_1).f2).length c281_2) := (blk_cell BK282.out 2).trans rfl; have hfz18_0 := blk_frozen BK282.out 0; have hfz18_1 := blk_frozen BK282.out 1; have hfz18_2 := blk_frozen BK282.out 2; obtain ⟨Ao19, co19, eo19⟩ := Kd.V_slice HO_10.out; subst eo19) | ((with_reducible refine gate_callee (f := 54) rfl ?_); refine goesL_ (some 52) rfl rfl Try.func54 (by kernel_rfl) rfl #[.slice Ao19 x10_1.length co19, .slice A1 l1.length c1, .int .i64 ((rd_T39 l2 x11_1).f0), .int .i64 (wrap64 (((rd_T39 l2 x11_1).f0) + ((rd_T39 l2 x11_1).f1)))] rfl (by (try simp only [List.map_toArray, List.map_cons, List.map_nil]); first | done | rfl | (simp only [List.length_drop, List.length_take]; rfl)) ?_; (with_reducible refine (ref26_Part.calls k1 (fun k_ => ((w.heap.size ≤ k_) ∧ k_ ≠ gb282)) _ _ x10_1 _ _ l1 ((rd_T39 l2 x11_1).f0) (wrap64 (((rd_T39 l2 x11_1).f0) + ((rd_T39 l2 x11_1).f1))) t284 _ ?side1 ?side2 ?side3 A14.out).mono ?_); (case side1 => exact HO_10.out); (case side2 => repeat (first | exact (Kd.C_below HR1.out HB.out) | (with_reducible refine Kd.C_alloc ?_ _) | (with_reducible refine Kd.C_drewN ?_ _) | (with_reducible refine Kd.C_drew ?_))); (case side3 => exact HC1.out); rintro e w20 ⟨v285, rfl, ho0, hb⟩; refine ⟨_, rfl, ?_⟩; have n0_ := Aside0.mk (Kd.V_below (by (with_reducible repeat (first | apply Kd.V_alloc | apply Kd.V_drewN | apply Kd.V_drew)); exact HO_10.out) hb); have n1_ := Aside0.mk (Kd.V_lower (Kd.V_mono (ok' := fun k_ => (w.heap.size ≤ k_) ∧ k_ ≠ gb282) ho0 (fun k_ hk_ => ⟨Or.elim hk_ (fun hs_ => hs_.1) (fun hn_ => (Nat.le_trans (below_size (by repeat (first | (with_reducible first | exact HB.out | apply below_alloc | apply pw_below_drewN | apply below_drew1 | refine below_set ?_ GE282.out) | exact HB.out))) hn_)), Or.elim hk_ (fun hs_ => hs_.2) (fun hn_ => (Kd.freshB (g := gb282) (o := .cells #[.int .i64 ((rd_T39 l2 x11_1).f0), .int .i64 ((rd_T39 l2 x11_1).f1), .slice A281_2 ((rd_T39 l2 x11_1).f2).length c281_2] 39 (0, 0)) (by (with_reducible repeat (first | refine blk_drewN ?_ _ | refine blk_drew ?_ | refine blk_alloc ?_ _)); exact BK282.out) k_ hn_))⟩)) (below_size (by repeat (first | (with_reducible first | exact HB.out | apply below_alloc | apply pw_below_drewN | apply below_drew1 | refine below_set ?_ GE282.out) | exact HB.out)))); have n2_ := Aside0.mk (blk_below (g := gb282) (o := .cells #[.int .i64 ((rd_T39 l2 x11_1).f0), .int .i64 ((rd_T39 l2 x11_1).f1), .slice A281_2 ((rd_T39 l2 x11_1).f2).length c281_2] 39 (0, 0)) (by (with_reducible repeat (first | refine blk_drewN ?_ _ | refine blk_drew ?_ | refine blk_alloc ?_ _)); exact BK282.out) hb); have n3_ := Aside0.mk (below_step (by repeat (first | (with_reducible first | exact HB.out | apply below_alloc | apply pw_below_drewN | apply below_drew1 | refine below_set ?_ GE282.out) | exact HB.out)) hb); clear HO_10; clear BK282; clear HB; have HO_10 := n0_; have HO286 := n1_; have BK282 := n2_; have HB := n3_; clear n0_ n1_ n2_ n3_; (try clear hb); (try clear hb2); (try clear hk); (try clear hi); (try clear ho0)))
                go_roundg k1
                case measure => have := HK1.out; omega
                case rel => exact ⟨(t284), (wrap64 (x11_1 + 1)), (by first | rfl | (simp; done) | (simp [*]; done)), H', ⟨by have := HK1.out; omega⟩, ⟨by (with_reducible repeat (first | apply Kd.V_alloc | apply Kd.V_drewN | apply Kd.V_drew)); exact Kd.V_mono HO286.out (fun _ hk => hk.1)⟩, ⟨by repeat (first | (with_reducible first | exact HB.out | apply below_alloc | apply pw_below_drewN | apply below_drew1 | refine below_set ?_ GE282.out) | exact HB.out)⟩⟩
              · replace c13 := Bool.eq_false_iff.mpr c13
                subst c13
                have H1 : ((ref26_Add.f k1 x10_1 ((rd_T39 l2 x11_1).f0) ((rd_T39 l2 x11_1).f1) ((rd_T39 l2 x11_1).f2)).bind fun t287 => (ref26_Compose.l0 k1 l1 l2 t287 (wrap64 (x11_1 + 1)))) = some (r1, r2) := by rw [if_neg (show ¬ (false = true) by decide)] at H; exact H
                clear H
                have H := H1
                clear H1
                replace H := Option.bind_eq_some_iff.mp H
                obtain ⟨t287, A210, H⟩ := H
                replace H : (ref26_Compose.l0 k1 l1 l2 t287 (wrap64 (x11_1 + 1))) = some (r1, r2) := H
                have A21 := Aside0.mk A210
                clear A210
                have H' := Aside0.mk H
                clear H
                have p281 : 0 ≤ (x11_1 : Int) := of_decide_eq_true (by first | (with_reducible assumption) | assumption)
                have q281 : x11_1 < (l2.length : Int) := of_decide_eq_true (by first | (with_reducible assumption) | assumption)
                obtain ⟨ad281, A281_2, c281_2, e281, hx281_0, hx281_1, hx281_2, hl281_2, hi281_2⟩ := at_T39 HR2.out x11_1 p281 q281
                cases e281
                have hu281_2 := Aside0.mk hx281_2
                replace hx281_0 := (HB.out.cell (World.block_lt_of_cell? w _ hx281_0)).trans hx281_0
                replace hx281_1 := (HB.out.cell (World.block_lt_of_cell? w _ hx281_1)).trans hx281_1
                replace hx281_2 := (HB.out.cell (World.block_lt_of_cell? w _ hx281_2)).trans hx281_2
                have HR281_2 := Aside0.mk hi281_2
                have HC281_2 := Aside0.mk hl281_2
                clear hi281_2 hl281_2
                replace p281 := eq_true p281
                replace q281 := eq_true q281
                go_wp2_with (first | ((with_reducible refine gate_dst (N := 12) rfl ?_); refine box_event ?hg (N := 12) ?hd (cs := #[.int .i64 0, .int .i64 0, .slice none 0 0]) (t := 39) ?hr ?_; (case hd => rfl); (case hg => rfl); (case hr => first | (go_simp; done) | (go_simp; rfl)); intro gb282 hg w22 hbox hb; have n0_ := Aside0.mk (Kd.V_below (Kd.V_elderB (by (with_reducible repeat (first | apply Kd.V_alloc | apply Kd.V_drewN | apply Kd.V_drew)); exact HO_10.out) gb282 (Nat.le_of_eq hg.symm)) hb); have n1_ := Aside0.mk (below_step (by repeat (first | (with_reducible first | exact HB.out | apply below_alloc | apply pw_below_drewN | apply below_drew1) | exact HB.out)) hb); have n2_ := Aside0.mk (hbox); have n3_ := Aside0.mk ((by rw [hg]; exact (below_size (by repeat (first | (with_reducible first | exact HB.out | apply below_alloc | apply pw_below_drewN | apply below_drew1) | exact HB.out))) : w.heap.size ≤ gb282)); have n4_ := Aside0.mk ((by rw [hg]; exact (below_size (by repeat (first | (with_reducible first | exact HB.out | apply below_alloc | apply pw_below_drewN | apply below_drew1) | exact HB.out))) : w.heap.size ≤ gb282)); clear HO_10; clear HB; have HO_10 := n0_; have HB := n1_; have BK282 := n2_; have GW282 := n3_; have GE282 := n4_; clear n0_ n1_ n2_ n3_ n4_; clear hb hbox hg; have hcz23_0 : w22.cell? ⟨gb282, 0, none⟩ = some (.int .i64 0) := (blk_cell BK282.out 0).trans rfl; have hcz23_1 : w22.cell? ⟨gb282, 1, none⟩ = some (.int .i64 0) := (blk_cell BK282.out 1).trans rfl; have hcz23_2 : w22.cell? ⟨gb282, 2, none⟩ = some (.slice none 0 0) := (blk_cell BK282.out 2).trans rfl; have hfz23_0 := blk_frozen BK282.out 0; have hfz23_1 := blk_frozen BK282.out 1; have hfz23_2 := blk_frozen BK282.out 2) | ((with_reducible refine gate_callee (f := 48) rfl ?_); refine goesL_ (some 42) rfl rfl Try.func48 (by kernel_rfl) rfl #[.agg #[.int .i64 ((rd_T39 l2 x11_1).f0), .int .i64 ((rd_T39 l2 x11_1).f1), .slice A281_2 ((rd_T39 l2 x11_1).f2).length c281_2]] rfl (by (try simp only [List.map_toArray, List.map_cons, List.map_nil]); first | done | rfl | (simp only [List.length_drop, List.length_take]; rfl)) ?_; (with_reducible refine (ref26_Copies.calls ((rd_T39 l2 x11_1).f0) ((rd_T39 l2 x11_1).f1) _ _ ((rd_T39 l2 x11_1).f2) false _ ?side1 ?side2 A12.out).mono ?_); (case side1 => exact Kd.C_below HR281_2.out (by repeat (first | (with_reducible first | exact HB.out | apply below_alloc | apply pw_below_drewN | apply below_drew1 | refine below_set ?_ GE282.out) | exact HB.out))); (case side2 => exact HC281_2.out); rintro e w24 ⟨rfl, hb⟩; refine ⟨_, rfl, ?_⟩; have n0_ := Aside0.mk (Kd.V_below (by (with_reducible repeat (first | apply Kd.V_alloc | apply Kd.V_drewN | apply Kd.V_drew)); exact (Kd.V_mono (Kd.V_far (p := ⟨gb282, 2, none⟩) (Kd.V_far (p := ⟨gb282, 1, none⟩) (Kd.V_far (p := ⟨gb282, 0, none⟩) (Kd.V_mono HO_10.out (fun k_ hk => (⟨hk, hk.2⟩ : _ ∧ k_ ≠ gb282))) (fun _ hk => hk.2) (.int .i64 ((rd_T39 l2 x11_1).f0))) (fun _ hk => hk.2) (.int .i64 ((rd_T39 l2 x11_1).f1))) (fun _ hk => hk.2) (.slice A281_2 ((rd_T39 l2 x11_1).f2).length c281_2)) (fun _ h_ => h_.1))) hb); have n1_ := Aside0.mk (blk_below (g := gb282) (o := .cells #[.int .i64 ((rd_T39 l2 x11_1).f0), .int .i64 ((rd_T39 l2 x11_1).f1), .slice A281_2 ((rd_T39 l2 x11_1).f2).length c281_2] 39 (0, 0)) (by (with_reducible repeat (first | refine blk_drewN ?_ _ | refine blk_drew ?_ | refine blk_alloc ?_ _)); refine blk_put (cs := #[.int .i64 ((rd_T39 l2 x11_1).f0), .int .i64 ((rd_T39 l2 x11_1).f1), .slice none 0 0]) ?_ 2 _ rfl; (with_reducible repeat (first | refine blk_drewN ?_ _ | refine blk_drew ?_ | refine blk_alloc ?_ _)); refine blk_put (cs := #[.int .i64 ((rd_T39 l2 x11_1).f0), .int .i64 0, .slice none 0 0]) ?_ 1 _ rfl; (with_reducible repeat (first | refine blk_drewN ?_ _ | refine blk_drew ?_ | refine blk_alloc ?_ _)); refine blk_put (cs := #[.int .i64 0, .int .i64 0, .slice none 0 0]) ?_ 0 _ rfl; (with_reducible repeat (first | refine blk_drewN ?_ _ | refine blk_drew ?_ | refine blk_alloc ?_ _)); exact BK282.out) hb); have n2_ := Aside0.mk (below_step (by repeat (first | (with_reducible first | exact HB.out | apply below_alloc | apply pw_below_drewN | apply below_drew1 | refine below_set ?_ GE282.out) | exact HB.out)) hb); clear HO_10; clear BK282; clear HB; have HO_10 := n0_; have BK282 := n1_; have HB := n2_; clear n0_ n1_ n2_; (try clear hb); (try clear hb2); (try clear hk); (try clear hi); have hcz25_0 : w24.cell? ⟨gb282, 0, none⟩ = some (.int .i64 ((rd_T39 l2 x11_1).f0)) := (blk_cell BK282.out 0).trans rfl; have hcz25_1 : w24.cell? ⟨gb282, 1, none⟩ = some (.int .i64 ((rd_T39 l2 x11_1).f1)) := (blk_cell BK282.out 1).trans rfl; have hcz25_2 : w24.cell? ⟨gb282, 2, none⟩ = some (.slice A281_2 ((rd_T39 l2 x11_1).f2).length c281_2) := (blk_cell BK282.out 2).trans rfl; have hfz25_0 := blk_frozen BK282.out 0; have hfz25_1 := blk_frozen BK282.out 1; have hfz25_2 := blk_frozen BK282.out 2; obtain ⟨Ao26, co26, eo26⟩ := Kd.V_slice HO_10.out; subst eo26) | ((with_reducible refine gate_callee (f := 46) rfl ?_); refine goesL_ (some 55) rfl rfl Try.func46 (by kernel_rfl) rfl #[.slice Ao26 x10_1.length co26, .agg #[.int .i64 ((rd_T39 l2 x11_1).f0), .int .i64 ((rd_T39 l2 x11_1).f1), .slice A281_2 ((rd_T39 l2 x11_1).f2).length c281_2]] rfl (by (try simp only [List.map_toArray, List.map_cons, List.map_nil]); first | done | rfl | (simp only [List.length_drop, List.length_take]; rfl)) ?_; (with_reducible refine (ref26_Add.calls k1 (fun k_ => ((w.heap.size ≤ k_) ∧ k_ ≠ gb282)) _ _ x10_1 ((rd_T39 l2 x11_1).f0) ((rd_T39 l2 x11_1).f1) _ _ ((rd_T39 l2 x11_1).f2) t287 _ ?side1 ?side2 ?side3 A21.out).mono ?_); (case side1 => exact HO_10.out); (case side2 => repeat (first | exact (Kd.C_below HR281_2.out HB.out) | (with_reducible refine Kd.C_alloc ?_ _) | (with_reducible refine Kd.C_drewN ?_ _) | (with_reducible refine Kd.C_drew ?_))); (case side3 => exact HC281_2.out); rintro e w27 ⟨v288, rfl, ho0, hb⟩; refine ⟨_, rfl, ?_⟩; have n0_ := Aside0.mk (Kd.V_elder' (by (with_reducible repeat (first | apply Kd.V_alloc | apply Kd.V_drewN | apply Kd.V_drew)); exact HO_10.out) (Kd.N_base ho0) hb); have n1_ := Aside0.mk (Kd.N_lower (Kd.N_mono (ok' := fun k_ => (w.heap.size ≤ k_) ∧ k_ ≠ gb282) ho0 (fun k_ hk_ => ⟨Or.elim hk_ (fun hs_ => hs_.1) (fun hn_ => (Nat.le_trans (below_size (by repeat (first | (with_reducible first | exact HB.out | apply below_alloc | apply pw_below_drewN | apply below_drew1 | refine below_set ?_ GE282.out) | exact HB.out))) hn_)), Or.elim hk_ (fun hs_ => hs_.2) (fun hn_ => (Kd.freshB (g := gb282) (o := .cells #[.int .i64 ((rd_T39 l2 x11_1).f0), .int .i64 ((rd_T39 l2 x11_1).f1), .slice A281_2 ((rd_T39 l2 x11_1).f2).length c281_2] 39 (0, 0)) (by (with_reducible repeat (first | refine blk_drewN ?_ _ | refine blk_drew ?_ | refine blk_alloc ?_ _)); exact BK282.out) k_ hn_))⟩)) (below_size (by repeat (first | (with_reducible first | exact HB.out | apply below_alloc | apply pw_below_drewN | apply below_drew1 | refine below_set ?_ GE282.out) | exact HB.out)))); have n2_ := Aside0.mk (blk_below (g := gb282) (o := .cells #[.int .i64 ((rd_T39 l2 x11_1).f0), .int .i64 ((rd_T39 l2 x11_1).f1), .slice A281_2 ((rd_T39 l2 x11_1).f2).length c281_2] 39 (0, 0)) (by (with_reducible repeat (first | refine blk_drewN ?_ _ | refine blk_drew ?_ | refine blk_alloc ?_ _)); exact BK282.out) hb); have n3_ := Aside0.mk (below_step (by repeat (first | (with_reducible first | exact HB.out | apply below_alloc | apply pw_below_drewN | apply below_drew1 | refine below_set ?_ GE282.out) | exact HB.out)) hb); clear HO_10; clear BK282; clear HB; have HO_10 := n0_; have HO289 := n1_; have BK282 := n2_; have HB := n3_; clear n0_ n1_ n2_ n3_; (try clear hb); (try clear hb2); (try clear hk); (try clear hi); (try clear ho0)))
                go_roundg k1
                case measure => have := HK1.out; omega
                case rel => exact ⟨(t287), (wrap64 (x11_1 + 1)), (by first | rfl | (simp; done) | (simp [*]; done)), H', ⟨by have := HK1.out; omega⟩, ⟨Kd.N_V (by (with_reducible repeat (first | apply Kd.N_alloc | apply Kd.N_drewN | apply Kd.N_drew)); exact Kd.N_mono HO289.out (fun _ hk => hk.1))⟩, ⟨by repeat (first | (with_reducible first | exact HB.out | apply below_alloc | apply pw_below_drewN | apply below_drew1 | refine below_set ?_ GE282.out) | exact HB.out)⟩⟩
            · rw [if_neg c11] at H
              exact absurd H (by simp)
          · rw [if_neg c10] at H
            have c10b0 : decide (x11_1 < (l2.length : Int)) = false := decide_eq_false c10
            clear c10
            by_cases c28 : (x10_1.length : Int) > 4096
            · rw [if_pos c28] at H
              have c28b0 : decide (4096 < (x10_1.length : Int)) = true := decide_eq_true c28
              have c28b1 : decide (4096 < x10_1.length) = true := decide_eq_true (by omega)
              clear c28
              simp only [Option.some.injEq, Prod.mk.injEq] at H
              obtain ⟨rfl, rfl⟩ := H
              obtain ⟨Ao29, co29, eo29⟩ := Kd.V_slice HO_10.out
              subst eo29
              go_wp2
              go_ret2
              exact ⟨_, by first | rfl | (simp [errW_none, errW_some] <;> rfl) | (simp [*, errW_none, errW_some] <;> rfl), (Kd.V_nil _ _ _ _ _), by repeat (first | (with_reducible first | exact HB.out | apply below_alloc | apply pw_below_drewN | apply below_drew1) | exact HB.out)⟩
            · rw [if_neg c28] at H
              have c28b0 : decide (4096 < (x10_1.length : Int)) = false := decide_eq_false c28
              have c28b1 : decide (4096 < x10_1.length) = false := decide_eq_false (by omega)
              clear c28
              simp only [Option.some.injEq, Prod.mk.injEq] at H
              obtain ⟨rfl, rfl⟩ := H
              obtain ⟨Ao30, co30, eo30⟩ := Kd.V_slice HO_10.out
              subst eo30
              go_wp2
              go_ret2
              exact ⟨_, by first | rfl | (simp [errW_none, errW_some] <;> rfl) | (simp [*, errW_none, errW_some] <;> rfl), by (with_reducible repeat (first | apply Kd.V_alloc | apply Kd.V_drewN | apply Kd.V_drew)); exact HO_10.out, by repeat (first | (with_reducible first | exact HB.out | apply below_alloc | apply pw_below_drewN | apply below_drew1) | exact HB.out)⟩
    · rw [if_neg c7] at H
      have c7b0 : (t280 == 0) = false := beq_eq_false_iff_ne.mpr c7
      have c7b1 : (t280 != 0) = true := bne_iff_ne.mpr c7
      simp only [Option.some.injEq, Prod.mk.injEq] at H
      obtain ⟨rfl, rfl⟩ := H
      go_enter Try.func35, Try.ntmps35
      go_wp2_with (first | ((with_reducible refine gate_callee (f := 24) rfl ?_); refine goesL_ (some 16) rfl rfl Try.func24 (by kernel_rfl) rfl #[.int .i64 a0, .slice A1 l1.length c1] rfl (by (try simp only [List.map_toArray, List.map_cons, List.map_nil]); first | done | rfl | (simp only [List.length_drop, List.length_take]; rfl)) ?_; (with_reducible refine (ref26_Check.calls k a0 _ _ l1 t277 t278 _ ?side1 ?side2 A4.out).mono ?_); (case side1 => repeat (first | exact HR1.out | (with_reducible refine Kd.C_alloc ?_ _) | (with_reducible refine Kd.C_drewN ?_ _) | (with_reducible refine Kd.C_drew ?_))); (case side2 => exact HC1.out); rintro e w31 ⟨rfl, hb⟩; refine ⟨_, rfl, ?_⟩; have n0_ := Aside0.mk (below_step (by repeat (first | (with_reducible first | exact HB.out | apply below_alloc | apply pw_below_drewN | apply below_drew1) | exact HB.out)) hb); clear HB; have HB := n0_; clear n0_; (try clear hb); (try clear hb2); (try clear hk); (try clear hi)) | ((with_reducible refine gate_callee (f := 24) rfl ?_); refine goesL_ (some 25) rfl rfl Try.func24 (by kernel_rfl) rfl #[.int .i64 t277, .slice A2 l2.length c2] rfl (by (try simp only [List.map_toArray, List.map_cons, List.map_nil]); first | done | rfl | (simp only [List.length_drop, List.length_take]; rfl)) ?_; (with_reducible refine (ref26_Check.calls k t277 _ _ l2 t279 t280 _ ?side1 ?side2 A6.out).mono ?_); (case side1 => repeat (first | exact (Kd.C_below HR2.out HB.out) | (with_reducible refine Kd.C_alloc ?_ _) | (with_reducible refine Kd.C_drewN ?_ _) | (with_reducible refine Kd.C_drew ?_))); (case side2 => exact HC2.out); rintro e w32 ⟨rfl, hb⟩; refine ⟨_, rfl, ?_⟩; have n0_ := Aside0.mk (below_step (by repeat (first | (with_reducible first | exact HB.out | apply below_alloc | apply pw_below_drewN | apply below_drew1) | exact HB.out)) hb); clear HB; have HB := n0_; clear n0_; (try clear hb); (try clear hb2); (try clear hk); (try clear hi)))
      go_ret2
      exact ⟨_, by first | rfl | (simp [errW_none, errW_some] <;> rfl) | (simp [*, errW_none, errW_some] <;> rfl), (Kd.V_nil _ _ _ _ _), by repeat (first | (with_reducible first | exact HB.out | apply below_alloc | apply pw_below_drewN | apply below_drew1) | exact HB.out)⟩
  · rw [if_neg c5] at H
    have c5b0 : (t278 == 0) = false := beq_eq_false_iff_ne.mpr c5
    have c5b1 : (t278 != 0) = true := bne_iff_ne.mpr c5
    simp only [Option.some.injEq, Prod.mk.injEq] at H
    obtain ⟨rfl, rfl⟩ := H
    go_enter Try.func35, Try.ntmps35
    go_wp2_with (first | ((with_reducible refine gate_callee (f := 24) rfl ?_); refine goesL_ (some 16) rfl rfl Try.func24 (by kernel_rfl) rfl #[.int .i64 a0, .slice A1 l1.length c1] rfl (by (try simp only [List.map_toArray, List.map_cons, List.map_nil]); first | done | rfl | (simp only [List.length_drop, List.length_take]; rfl)) ?_; (with_reducible refine (ref26_Check.calls k a0 _ _ l1 t277 t278 _ ?side1 ?side2 A4.out).mono ?_); (case side1 => repeat (first | exact HR1.out | (with_reducible refine Kd.C_alloc ?_ _) | (with_reducible refine Kd.C_drewN ?_ _) | (with_reducible refine Kd.C_drew ?_))); (case side2 => exact HC1.out); rintro e w33 ⟨rfl, hb⟩; refine ⟨_, rfl, ?_⟩; have n0_ := Aside0.mk (below_step (by repeat (first | (with_reducible first | exact HB.out | apply below_alloc | apply pw_below_drewN | apply below_drew1) | exact HB.out)) hb); clear HB; have HB := n0_; clear n0_; (try clear hb); (try clear hb2); (try clear hk); (try clear hi)))
    go_ret2
    exact ⟨_, by first | rfl | (simp [errW_none, errW_some] <;> rfl) | (simp [*, errW_none, errW_some] <;> rfl), (Kd.V_nil _ _ _ _ _), by repeat (first | (with_reducible first | exact HB.out | apply below_alloc | apply pw_below_drewN | apply below_drew1) | exact HB.out)⟩

end Go.Proofs.Ytjckjcekapkkjaa.P
