-- WRITTEN BY myprint.py (wip/tools) for this seat
import Derived.Test.YtjckjcekapkkjaaPx0
import Derived.Test.YtjckjcekapkkjaaPx5
namespace Go.Proofs.Ytjckjcekapkkjaa.P
open Go.RowKit Go.Proofs.YtjckjcekapkkjaaW.PrintWords Go.Proofs.YtjckjcekapkkjaaW.PrintLast Go.Proofs.YtjckjcekapkkjaaW.PrintMore
attribute [local go_sem] max2_int min2_int max_two min_two max_three min_three max_four min_four   -- for this text's walks alone
set_option linter.unusedVariables false
set_option linter.unusedSimpArgs false

/-! ### ref26_Add: function 46 -/
mutual
def ref26_Add.j0 : Nat → List (S39) → Int → Bool → Int → Int → List Int → Int → Int → List Int → Option ((List (S39)))
  | 0, _, _, _, _, _, _, _, _, _ => none
  | k + 1, x0, x5, x25, x206000, x206001, x206002, x211000, x211001, x211002 => if x25 = true then (if 0 ≤ x5 then (if x5 ≤ (x0.length : Int) then ((some (x0.take (x5 : Int).toNat : List (S39))).bind fun y213 => (if ([] : List (S39)).length + y213.length < 3518437208883 then ((some (([] : List (S39)) ++ y213 : List (S39))).bind fun y218 => (if ([] : List Int).length + x211002.length < 140737488355328 then ((some (([] : List Int) ++ x211002 : List Int)).bind fun y221 => (if y221.length + x206002.length < 140737488355328 then ((some (([(⟨0, 0, (y221 ++ x206002)⟩ : S39)] : List (S39)) : List (S39))).bind fun y227 => (if y218.length + y227.length < 3518437208883 then (some (y218 ++ y227)) else (none))) else (none))) else (none))) else (none))) else (none)) else (none)) else ((ref26_Copies.f x211000 x211001 x211002).bind fun t233 => (if t233 = true then ((ref26_Copies.f x206000 x206001 x206002).bind fun t234 => (if t234 = true then (ref26_Add.j1 k x0 x5 ((wrap64 (x211000 + x211001)) == x206000) x206000 x206001 x206002 x211000 x211001 x211002) else (ref26_Add.j1 k x0 x5 false x206000 x206001 x206002 x211000 x211001 x211002))) else (ref26_Add.j1 k x0 x5 false x206000 x206001 x206002 x211000 x211001 x211002)))
def ref26_Add.j1 : Nat → List (S39) → Int → Bool → Int → Int → List Int → Int → Int → List Int → Option ((List (S39)))
  | 0, _, _, _, _, _, _, _, _, _ => none
  | k + 1, x0, x5, x54, x206000, x206001, x206002, x211000, x211001, x211002 => if x54 = true then (if 0 ≤ x5 then (if x5 ≤ (x0.length : Int) then ((some (x0.take (x5 : Int).toNat : List (S39))).bind fun y235 => (if ([] : List (S39)).length + y235.length < 3518437208883 then ((some (([] : List (S39)) ++ y235 : List (S39))).bind fun y240 => ((some (([(⟨x211000, wrap64 (x211001 + x206001), ([] : List Int)⟩ : S39)] : List (S39)) : List (S39))).bind fun y243 => (if y240.length + y243.length < 3518437208883 then (some (y240 ++ y243)) else (none)))) else (none))) else (none)) else (none)) else (if ([] : List (S39)).length + x0.length < 3518437208883 then ((some (([] : List (S39)) ++ x0 : List (S39))).bind fun y249 => ((some (([(⟨x206000, x206001, x206002⟩ : S39)] : List (S39)) : List (S39))).bind fun y252 => (if y249.length + y252.length < 3518437208883 then (some (y249 ++ y252)) else (none)))) else (none))
end
def ref26_Add.f (k : Nat) (l0 : List (S39)) (a1_0 : Int) (a1_1 : Int) (l1_2 : List Int) : Option ((List (S39))) := if ([] : List Int).length + l1_2.length < 140737488355328 then ((some (([] : List Int) ++ l1_2 : List Int)).bind fun y206 => (if (wrap64 ((l0.length : Int) - 1)) ≥ 0 then (if 0 ≤ (wrap64 ((l0.length : Int) - 1)) then (if (wrap64 ((l0.length : Int) - 1)) < (l0.length : Int) then ((ref26_Literal.f ((rd_T39 l0 (wrap64 ((l0.length : Int) - 1))).f0) ((rd_T39 l0 (wrap64 ((l0.length : Int) - 1))).f1) ((rd_T39 l0 (wrap64 ((l0.length : Int) - 1))).f2)).bind fun t211 => (if t211 = true then ((ref26_Literal.f a1_0 a1_1 y206).bind fun t212 => (ref26_Add.j0 k l0 (wrap64 ((l0.length : Int) - 1)) t212 a1_0 a1_1 y206 ((rd_T39 l0 (wrap64 ((l0.length : Int) - 1))).f0) ((rd_T39 l0 (wrap64 ((l0.length : Int) - 1))).f1) ((rd_T39 l0 (wrap64 ((l0.length : Int) - 1))).f2))) else (ref26_Add.j0 k l0 (wrap64 ((l0.length : Int) - 1)) false a1_0 a1_1 y206 ((rd_T39 l0 (wrap64 ((l0.length : Int) - 1))).f0) ((rd_T39 l0 (wrap64 ((l0.length : Int) - 1))).f1) ((rd_T39 l0 (wrap64 ((l0.length : Int) - 1))).f2)))) else (none)) else (none)) else (if ([] : List (S39)).length + l0.length < 3518437208883 then ((some (([] : List (S39)) ++ l0 : List (S39))).bind fun y258 => ((some (([(⟨a1_0, a1_1, y206⟩ : S39)] : List (S39)) : List (S39))).bind fun y261 => (if y258.length + y261.length < 3518437208883 then (some (y258 ++ y261)) else (none)))) else (none)))) else (none)
def ref26_Add.T6 : Bool × List (List Nat × List Nat) := (true, [([], []), ([], []), ([0, 1], [0, 1]), ([2], [2]), ([], []), ([4], [4]), ([5, 3], [5]), ([], []), ([7], [7]), ([6, 8, 6], [6, 8]), ([9], [9]), ([10], [10]), ([3, 11, 9], [3, 11]), ([12, 12, 0, 1, 2, 3, 4, 5, 6, 7, 8, 9, 10, 11, 12], [12])])
def ref26_Add.B6 : List Nat := [0, 0, 3, 7, 0, 16, 63, 0, 128, 511, 1023, 2047, 4095, 8191]
theorem ref26_Add.tab6 : rtab .any (opsOf Try.f46 6) = ref26_Add.T6 := by kernel_rfl
theorem ref26_Add.bits6 : waitsOk ref26_Add.T6.2 ref26_Add.B6 = true := by kernel_rfl
def ref26_Add.T8 : Bool × List (List Nat × List Nat) := (true, [([], []), ([], []), ([0, 1], [0, 1]), ([2], [2]), ([], []), ([4], [4]), ([], []), ([6], [6]), ([], []), ([8], [8]), ([7, 9], [7, 9]), ([5, 10], [5, 10]), ([11], [11]), ([3, 12, 3], [3, 12]), ([13, 13, 0, 1, 2, 3, 4, 5, 6, 7, 8, 9, 10, 11, 12, 13], [13])])
def ref26_Add.B8 : List Nat := [0, 0, 3, 7, 0, 16, 0, 64, 0, 256, 960, 2032, 4080, 8191, 16383]
theorem ref26_Add.tab8 : rtab .any (opsOf Try.f46 8) = ref26_Add.T8 := by kernel_rfl
theorem ref26_Add.bits8 : waitsOk ref26_Add.T8.2 ref26_Add.B8 = true := by kernel_rfl
set_option maxHeartbeats 8000000 in
set_option maxRecDepth 100000 in
theorem ref26_Add.calls (k : Nat) (P0_ : Nat → Prop) (A0 : Option Addr) (c0 : Nat) (l0 : List (S39)) (a1_0 : Int) (a1_1 : Int) (A1_2 : Option Addr) (c1_2 : Nat) (l1_2 : List Int) (r : List (S39)) (w : World) (hs0 : Kd.V k39 39 w w.heap.size (fun k_ => P0_ k_) (.slice A0 l0.length c0) l0) (hr1_2 : Kd.C (Kd.int .u8) w A1_2 l1_2.length l1_2) (hc1_2 : l1_2.length ≤ c1_2) (h : ref26_Add.f k l0 a1_0 a1_1 l1_2 = some r) :
    Calls Try.prog 46 #[.slice A0 l0.length c0, .agg #[.int .i64 a1_0, .int .i64 a1_1, .slice A1_2 l1_2.length c1_2]] w fun e w' => ∃ v0_ : Value, e = .returned (v0_) ∧ Kd.N k39 39 w' w.heap.size (fun k_ => (P0_ k_ ∨ w.heap.size ≤ k_)) v0_ r ∧ Below w.heap.size w w' := by
  have hu39 := Try.underlying39
  have HO0 := Aside0.mk (show Kd.V k39 39 w w.heap.size (fun k_ => (P0_ k_ ∨ w.heap.size ≤ k_)) (.slice A0 l0.length c0) l0 from Kd.V_mono hs0 (fun k_ hk => .inl hk))
  have HR1_2 := Aside0.mk hr1_2
  have HC1_2 := Aside0.mk hc1_2
  clear hr1_2 hc1_2
  have HB := Aside0.mk (Below.refl w.heap.size w)
  have H : (if ([] : List Int).length + l1_2.length < 140737488355328 then ((some (([] : List Int) ++ l1_2 : List Int)).bind fun y206 => (if (wrap64 ((l0.length : Int) - 1)) ≥ 0 then (if 0 ≤ (wrap64 ((l0.length : Int) - 1)) then (if (wrap64 ((l0.length : Int) - 1)) < (l0.length : Int) then ((ref26_Literal.f ((rd_T39 l0 (wrap64 ((l0.length : Int) - 1))).f0) ((rd_T39 l0 (wrap64 ((l0.length : Int) - 1))).f1) ((rd_T39 l0 (wrap64 ((l0.length : Int) - 1))).f2)).bind fun t211 => (if t211 = true then ((ref26_Literal.f a1_0 a1_1 y206).bind fun t212 => (ref26_Add.j0 k l0 (wrap64 ((l0.length : Int) - 1)) t212 a1_0 a1_1 y206 ((rd_T39 l0 (wrap64 ((l0.length : Int) - 1))).f0) ((rd_T39 l0 (wrap64 ((l0.length : Int) - 1))).f1) ((rd_T39 l0 (wrap64 ((l0.length : Int) - 1))).f2))) else (ref26_Add.j0 k l0 (wrap64 ((l0.length : Int) - 1)) false a1_0 a1_1 y206 ((rd_T39 l0 (wrap64 ((l0.length : Int) - 1))).f0) ((rd_T39 l0 (wrap64 ((l0.length : Int) - 1))).f1) ((rd_T39 l0 (wrap64 ((l0.length : Int) - 1))).f2)))) else (none)) else (none)) else (if ([] : List (S39)).length + l0.length < 3518437208883 then ((some (([] : List (S39)) ++ l0 : List (S39))).bind fun y258 => ((some (([(⟨a1_0, a1_1, y206⟩ : S39)] : List (S39)) : List (S39))).bind fun y261 => (if y258.length + y261.length < 3518437208883 then (some (y258 ++ y261)) else (none)))) else (none)))) else (none)) = some r := h
  clear h
  by_cases c3 : ([] : List Int).length + l1_2.length < 140737488355328
  · rw [if_pos c3] at H
    have LMc3 := Aside0.mk c3
    clear c3
    obtain ⟨y206, hy206⟩ : ∃ y_ : List Int, y_ = (([] : List Int) ++ l1_2) := ⟨_, rfl⟩
    replace H : (if (wrap64 ((l0.length : Int) - 1)) ≥ 0 then (if 0 ≤ (wrap64 ((l0.length : Int) - 1)) then (if (wrap64 ((l0.length : Int) - 1)) < (l0.length : Int) then ((ref26_Literal.f ((rd_T39 l0 (wrap64 ((l0.length : Int) - 1))).f0) ((rd_T39 l0 (wrap64 ((l0.length : Int) - 1))).f1) ((rd_T39 l0 (wrap64 ((l0.length : Int) - 1))).f2)).bind fun t211 => (if t211 = true then ((ref26_Literal.f a1_0 a1_1 y206).bind fun t212 => (ref26_Add.j0 k l0 (wrap64 ((l0.length : Int) - 1)) t212 a1_0 a1_1 y206 ((rd_T39 l0 (wrap64 ((l0.length : Int) - 1))).f0) ((rd_T39 l0 (wrap64 ((l0.length : Int) - 1))).f1) ((rd_T39 l0 (wrap64 ((l0.length : Int) - 1))).f2))) else (ref26_Add.j0 k l0 (wrap64 ((l0.length : Int) - 1)) false a1_0 a1_1 y206 ((rd_T39 l0 (wrap64 ((l0.length : Int) - 1))).f0) ((rd_T39 l0 (wrap64 ((l0.length : Int) - 1))).f1) ((rd_T39 l0 (wrap64 ((l0.length : Int) - 1))).f2)))) else (none)) else (none)) else (if ([] : List (S39)).length + l0.length < 3518437208883 then ((some (([] : List (S39)) ++ l0 : List (S39))).bind fun y258 => ((some (([(⟨a1_0, a1_1, y206⟩ : S39)] : List (S39)) : List (S39))).bind fun y261 => (if y258.length + y261.length < 3518437208883 then (some (y258 ++ y261)) else (none)))) else (none))) = some r := by first | (rw [hy206]; with_reducible exact H) | (have H2_ := (Option.bind_some _ _).symm.trans H; rw [hy206]; with_reducible exact H2_) | (have H2_ := (Option.bind_some _ _).symm.trans H; with_reducible exact H2_) | with_reducible exact H | (rw [hy206]; exact H) | exact H
    have Ny206 := Aside0.mk hy206
    clear hy206
    by_cases c4 : (wrap64 ((l0.length : Int) - 1)) ≥ 0
    · rw [if_pos c4] at H
      have c4b0 : decide (0 ≤ (wrap64 ((l0.length : Int) - 1))) = true := decide_eq_true c4
      clear c4
      obtain ⟨ji5, hji5⟩ : ∃ j_ : Int, (wrap64 ((l0.length : Int) - 1)) = j_ := ⟨_, rfl⟩
      replace H : (if 0 ≤ (ji5) then (if (ji5) < (l0.length : Int) then ((ref26_Literal.f ((rd_T39 l0 (ji5)).f0) ((rd_T39 l0 (ji5)).f1) ((rd_T39 l0 (ji5)).f2)).bind fun t211 => (if t211 = true then ((ref26_Literal.f a1_0 a1_1 y206).bind fun t212 => (ref26_Add.j0 k l0 ji5 t212 a1_0 a1_1 y206 ((rd_T39 l0 (ji5)).f0) ((rd_T39 l0 (ji5)).f1) ((rd_T39 l0 (ji5)).f2))) else (ref26_Add.j0 k l0 ji5 false a1_0 a1_1 y206 ((rd_T39 l0 (ji5)).f0) ((rd_T39 l0 (ji5)).f1) ((rd_T39 l0 (ji5)).f2)))) else (none)) else (none)) = some r := by first | (rw [hji5] at H; exact H) | (simp only [hji5] at H ⊢; exact H)
      (try rw [hji5] at c4b0)
      have hji5w : (IntKind.i64.wrap ((l0.length : Int) - 1)) = ji5 := (i64_w _).trans hji5
      by_cases c6 : 0 ≤ (ji5)
      · rw [if_pos c6] at H
        have c6b0 : decide (0 ≤ (ji5)) = true := decide_eq_true c6
        clear c6
        by_cases c7 : (ji5) < (l0.length : Int)
        · rw [if_pos c7] at H
          have c7b0 : decide ((ji5) < (l0.length : Int)) = true := decide_eq_true c7
          clear c7
          have HC8 := Aside0.mk H
          clear H
          go_enter Try.func46, Try.ntmps46
          go_upto_region 5 with (first | ((with_reducible refine gate_dst (N := 3) rfl ?_); refine box_event ?hg (N := 3) ?hd (cs := #[.int .i64 a1_0, .int .i64 a1_1, .slice A1_2 l1_2.length c1_2]) (t := 39) ?hr ?_; (case hd => rfl); (case hg => rfl); (case hr => first | (go_simp; done) | (go_simp; rfl)); intro gb205 hg w9 hbox hb; have n0_ := Aside0.mk (Kd.V_below (Kd.V_elderB (by (with_reducible repeat (first | apply Kd.V_alloc | apply Kd.V_drewN | apply Kd.V_drew)); exact HO0.out) gb205 (Nat.le_of_eq hg.symm)) hb); have n1_ := Aside0.mk (below_step (by repeat (first | (with_reducible first | exact HB.out | apply below_alloc | apply pw_below_drewN | apply below_drew1) | exact HB.out)) hb); have n2_ := Aside0.mk (hbox); have n3_ := Aside0.mk ((by rw [hg]; exact (below_size (by repeat (first | (with_reducible first | exact HB.out | apply below_alloc | apply pw_below_drewN | apply below_drew1) | exact HB.out))) : w.heap.size ≤ gb205)); have n4_ := Aside0.mk ((by rw [hg]; exact (below_size (by repeat (first | (with_reducible first | exact HB.out | apply below_alloc | apply pw_below_drewN | apply below_drew1) | exact HB.out))) : w.heap.size ≤ gb205)); clear HO0; clear HB; have HO0 := n0_; have HB := n1_; have BK205 := n2_; have GW205 := n3_; have GE205 := n4_; clear n0_ n1_ n2_ n3_ n4_; clear hb hbox hg; have hcz10_0 : w9.cell? ⟨gb205, 0, none⟩ = some (.int .i64 a1_0) := (blk_cell BK205.out 0).trans rfl; have hcz10_1 : w9.cell? ⟨gb205, 1, none⟩ = some (.int .i64 a1_1) := (blk_cell BK205.out 1).trans rfl; have hcz10_2 : w9.cell? ⟨gb205, 2, none⟩ = some (.slice A1_2 l1_2.length c1_2) := (blk_cell BK205.out 2).trans rfl; have hfz10_0 := blk_frozen BK205.out 0; have hfz10_1 := blk_frozen BK205.out 1; have hfz10_2 := blk_frozen BK205.out 2) | ((with_reducible refine gate_builtin (b := .append) (xs := #[.const (.slice none 0 0), .tmp 8]) rfl ?_); at_builtin; refine Kd.R_append_rows (Kd.int .u8) (w0 := w) w.heap.size rfl (.const (.slice none 0 0)) (.tmp 8) 26 5 (.int .u8 0) 1 rfl Try.underlying26 info5 rfl (by decide) (by omega) (.slice none 0 0) ([] : List Int) l1_2 _ _ _ (fun k_ => (w.heap.size ≤ k_)) (fun _ => False) rfl rfl ?aO ?aR (fun _ _ h => h) (fun _ h => h.elim) ?aF ?aB ?aS ?aL ?_; (case aR => repeat (first | exact (Kd.C_below HR1_2.out HB.out) | (with_reducible refine Kd.C_alloc ?_ _) | (with_reducible refine Kd.C_drewN ?_ _) | (with_reducible refine Kd.C_drew ?_))); (case aB => exact (by repeat (first | (with_reducible first | exact HB.out | apply below_alloc | apply pw_below_drewN | apply below_drew1 | refine below_set ?_ GE205.out) | exact HB.out))); (case aF => exact (fun k_ hk => (Nat.le_trans (below_size (by repeat (first | (with_reducible first | exact HB.out | apply below_alloc | apply pw_below_drewN | apply below_drew1 | refine below_set ?_ GE205.out) | exact HB.out))) hk))); (case aO => exact ((Kd.R_nil _ _ _ _ (fun k_ => (w.heap.size ≤ k_))))); (case aS => exact (below_size (by repeat (first | (with_reducible first | exact HB.out | apply below_alloc | apply pw_below_drewN | apply below_drew1 | refine below_set ?_ GE205.out) | exact HB.out)))); (case aL => have := LMc3.out; omega); intro v207 w11 ho hb hg hat; rw [← Ny206.out] at ho; have n0_ := Aside0.mk (Kd.V_afterv (Kd.V_apart_nil (by (with_reducible repeat (first | apply Kd.V_alloc | apply Kd.V_drewN | apply Kd.V_drew)); exact HO0.out)) hg hat); have n1_ := Aside0.mk (blk_grown (g := gb205) (o := .cells #[.int .i64 a1_0, .int .i64 a1_1, .slice A1_2 l1_2.length c1_2] 39 (0, 0)) (by (with_reducible repeat (first | refine blk_drewN ?_ _ | refine blk_drew ?_ | refine blk_alloc ?_ _)); exact BK205.out) hg (by simp [Value.ownBlock])); have n2_ := Aside0.mk (hb); have n3_ := Aside0.mk (ho); clear HO0; clear BK205; clear HB; have HO0 := n0_; have BK205 := n1_; have HB := n2_; have HO208 := n3_; clear n0_ n1_ n2_ n3_; clear ho hb hg hat; obtain ⟨Ao12, co12, eo12⟩ := Kd.R_slice HO208.out; subst eo12; have hcz13_0 : w11.cell? ⟨gb205, 0, none⟩ = some (.int .i64 a1_0) := (blk_cell BK205.out 0).trans rfl; have hcz13_1 : w11.cell? ⟨gb205, 1, none⟩ = some (.int .i64 a1_1) := (blk_cell BK205.out 1).trans rfl; have hcz13_2 : w11.cell? ⟨gb205, 2, none⟩ = some (.slice A1_2 l1_2.length c1_2) := (blk_cell BK205.out 2).trans rfl; have hfz13_0 := blk_frozen BK205.out 0; have hfz13_1 := blk_frozen BK205.out 1; have hfz13_2 := blk_frozen BK205.out 2) | ((with_reducible refine gate_store (t := 26) (p := 10) rfl ?_); refine store_event (t := 26) (p := 10) (v := ?vo_w14) (w1 := (w11.setCell ⟨gb205, 2, none⟩ (.slice Ao12 y206.length co12))) ?hg ?ho ?hn ?hr ?_; (case ho => rfl); (case hg => rfl); (case hn => rfl); (case hr => first | (go_simp; done) | (go_simp; rfl)); intro w14 hw; have n0_ : Aside0 (Kd.V k39 39 w14 w.heap.size (fun k_ => (P0_ k_ ∨ w.heap.size ≤ k_) ∧ some k_ ≠ (.slice Ao12 y206.length co12 : Value).ownBlock ∧ k_ ≠ gb205) (.slice A0 l0.length c0) l0) := ⟨(by rw [hw]; exact (by (with_reducible repeat (first | apply Kd.V_alloc | apply Kd.V_drewN | apply Kd.V_drew)); exact Kd.V_mono (Kd.V_far (p := ⟨gb205, 2, none⟩) (Kd.V_mono HO0.out (fun k_ hk => (⟨hk, hk.1.2⟩ : _ ∧ k_ ≠ gb205))) (fun _ hk => hk.2) (.slice Ao12 y206.length co12)) (fun _ hk => ⟨hk.1.1.1, ⟨hk.1.2, hk.1.1.2⟩⟩)))⟩; have n1_ : Aside0 (Kd.R (Kd.int .u8) 5 w14 w.heap.size (fun k_ => (w.heap.size ≤ k_)) (.slice Ao12 y206.length co12) y206) := ⟨(by rw [hw]; exact (by (with_reducible repeat (first | apply Kd.R_alloc | apply Kd.R_drewN | apply Kd.R_drew)); exact Kd.R_mono (Kd.R_far (p := ⟨gb205, 2, none⟩) (Kd.R_types HO208.out BK205.out (by decide)) (fun _ hk => hk.2) (.slice Ao12 y206.length co12)) (fun _ hk => hk.1)))⟩; have n2_ : Aside0 (w14.heap[gb205]? = some (.cells #[.int .i64 a1_0, .int .i64 a1_1, .slice Ao12 y206.length co12] 39 (0, 0))) := ⟨(by rw [hw]; exact (by (with_reducible repeat (first | refine blk_drewN ?_ _ | refine blk_drew ?_ | refine blk_alloc ?_ _)); refine blk_put (cs := #[.int .i64 a1_0, .int .i64 a1_1, .slice A1_2 l1_2.length c1_2]) ?_ 2 _ rfl; (with_reducible repeat (first | refine blk_drewN ?_ _ | refine blk_drew ?_ | refine blk_alloc ?_ _)); exact BK205.out))⟩; have n3_ : Aside0 (Below w.heap.size w w14) := ⟨(by rw [hw]; exact (by repeat (first | (with_reducible first | exact HB.out | apply below_alloc | apply pw_below_drewN | apply below_drew1 | refine below_set ?_ GE205.out) | exact HB.out)))⟩; clear hw; clear HO0; clear HO208; clear BK205; clear HB; have HO0 := n0_; have HO208 := n1_; have BK205 := n2_; have HB := n3_; clear n0_ n1_ n2_ n3_; have p209 : 0 ≤ ((ji5) : Int) := of_decide_eq_true (by first | (with_reducible assumption) | assumption); have q209 : (ji5) < (l0.length : Int) := of_decide_eq_true (by first | (with_reducible assumption) | assumption); obtain ⟨ad209, A209_2, c209_2, e209, hx209_0, hx209_1, hx209_2, hl209_2, hi209_2⟩ := at_T39 (Kd.V_reads' HO0.out).2.2 (ji5) p209 q209; cases e209; obtain ⟨ce209, hce209, hMe209, hcc209⟩ := Kd.V_get HO0.out z39 (ji5) p209 (by first | exact q209 | exact of_decide_eq_true (by first | (with_reducible assumption) | assumption) | (have e_ := (Kd.V_reads' HO0.out).1; omega)); obtain ⟨ua209_2, uc209_2, rfl, ul209_2, ge209_2⟩ := k39_openF hMe209; have hv209_2 := hcc209 2 _ rfl; rw [add_field _ _ 2 (by omega)] at hv209_2; replace hv209_2 := Option.some.inj (hv209_2.symm.trans hx209_2); injection hv209_2 with hva_ hvn_ hvc_; rw [hva_] at ge209_2; rw [hvc_] at ul209_2; have HL209_2 := Aside0.mk (show Kd.V (Kd.int .u8) 5 _ w.heap.size _ _ ((rd_T39 l0 (ji5)).f2) from Kd.V_mk ul209_2 ge209_2); clear hva_ hvn_ hvc_ ge209_2 ul209_2; clear hcc209 hce209; have HR209_2 := Aside0.mk hi209_2; have HC209_2 := Aside0.mk hl209_2; clear hi209_2 hl209_2; replace p209 := eq_true p209; replace q209 := eq_true q209) | ((with_reducible refine gate_dst (N := 6) rfl ?_); refine box_event ?hg (N := 6) ?hd (cs := #[.int .i64 0, .int .i64 0, .slice none 0 0]) (t := 39) ?hr ?_; (case hd => rfl); (case hg => rfl); (case hr => first | (go_simp; done) | (go_simp; rfl)); intro gb210 hg w15 hbox hb; have n0_ := Aside0.mk (Kd.V_below (Kd.V_elderB (by (with_reducible repeat (first | apply Kd.V_alloc | apply Kd.V_drewN | apply Kd.V_drew)); exact HO0.out) gb210 (Nat.le_of_eq hg.symm)) hb); have n1_ := Aside0.mk (Kd.R_below (by (with_reducible repeat (first | apply Kd.R_alloc | apply Kd.R_drewN | apply Kd.R_drew)); exact HO208.out) hb); have n2_ := Aside0.mk (Kd.V_below (Kd.V_elderB (by (with_reducible repeat (first | apply Kd.V_alloc | apply Kd.V_drewN | apply Kd.V_drew)); exact HL209_2.out) gb210 (Nat.le_of_eq hg.symm)) hb); have n3_ := Aside0.mk (blk_below (g := gb205) (o := .cells #[.int .i64 a1_0, .int .i64 a1_1, .slice Ao12 y206.length co12] 39 (0, 0)) (by (with_reducible repeat (first | refine blk_drewN ?_ _ | refine blk_drew ?_ | refine blk_alloc ?_ _)); exact BK205.out) hb); have n4_ := Aside0.mk (Kd.C_below (by repeat (first | (with_reducible exact HR209_2.out) | (with_reducible refine Kd.C_alloc ?_ _) | (with_reducible refine Kd.C_drewN ?_ _) | (with_reducible refine Kd.C_drew ?_) | exact HR209_2.out)) hb); have n5_ := Aside0.mk (below_step (by repeat (first | (with_reducible first | exact HB.out | apply below_alloc | apply pw_below_drewN | apply below_drew1 | refine below_set ?_ GE205.out) | exact HB.out)) hb); have n6_ := Aside0.mk (hbox); have n7_ := Aside0.mk ((by rw [hg]; exact (below_size (by repeat (first | (with_reducible first | exact HB.out | apply below_alloc | apply pw_below_drewN | apply below_drew1 | refine below_set ?_ GE205.out) | exact HB.out))) : w.heap.size ≤ gb210)); have n8_ := Aside0.mk ((by rw [hg]; exact (below_size (by repeat (first | (with_reducible first | exact HB.out | apply below_alloc | apply pw_below_drewN | apply below_drew1 | refine below_set ?_ GE205.out) | exact HB.out))) : w.heap.size ≤ gb210)); have n9_ := Aside0.mk ((by rw [hg]; exact Nat.ne_of_lt (blk_lt (g := gb205) (o := .cells #[.int .i64 a1_0, .int .i64 a1_1, .slice Ao12 y206.length co12] 39 (0, 0)) (by (with_reducible repeat (first | refine blk_drewN ?_ _ | refine blk_drew ?_ | refine blk_alloc ?_ _)); exact BK205.out)) : gb205 ≠ gb210)); have n10_ := Aside0.mk ((by rw [hg]; exact Nat.ne_of_gt (blk_lt (g := gb205) (o := .cells #[.int .i64 a1_0, .int .i64 a1_1, .slice Ao12 y206.length co12] 39 (0, 0)) (by (with_reducible repeat (first | refine blk_drewN ?_ _ | refine blk_drew ?_ | refine blk_alloc ?_ _)); exact BK205.out)) : gb210 ≠ gb205)); clear HO0; clear HO208; clear HL209_2; clear BK205; clear HR209_2; clear HB; have HO0 := n0_; have HO208 := n1_; have HL209_2 := n2_; have BK205 := n3_; have HR209_2 := n4_; have HB := n5_; have BK210 := n6_; have GW210 := n7_; have GE210 := n8_; have NB205_210 := n9_; have NB210_205 := n10_; clear n0_ n1_ n2_ n3_ n4_ n5_ n6_ n7_ n8_ n9_ n10_; clear hb hbox hg; have hnb16 := NB210_205.out; have hnc16 := NB205_210.out; have hcz17_0 : w15.cell? ⟨gb210, 0, none⟩ = some (.int .i64 0) := (blk_cell BK210.out 0).trans rfl; have hcz17_1 : w15.cell? ⟨gb210, 1, none⟩ = some (.int .i64 0) := (blk_cell BK210.out 1).trans rfl; have hcz17_2 : w15.cell? ⟨gb210, 2, none⟩ = some (.slice none 0 0) := (blk_cell BK210.out 2).trans rfl; have hfz17_0 := blk_frozen BK210.out 0; have hfz17_1 := blk_frozen BK210.out 1; have hfz17_2 := blk_frozen BK210.out 2))
          (try simp only [Act.put, List.setIfInBounds_toArray, List.set_cons_zero, List.set_cons_succ])
          go_cut [25] (fun v25 wc => ∃ (kq : Nat) (x25_7 : Bool), v25 = .bool x25_7 ∧ Aside0 (ref26_Add.j0 kq l0 ji5 x25_7 a1_0 a1_1 y206 ((rd_T39 l0 (ji5)).f0) ((rd_T39 l0 (ji5)).f1) ((rd_T39 l0 (ji5)).f2) = some r) ∧ Aside0 (kq ≤ k) ∧ Aside0 (Kd.V k39 39 wc w.heap.size (fun k_ => (P0_ k_ ∨ w.heap.size ≤ k_) ∧ some k_ ≠ ((.slice Ao12 y206.length co12) : Value).ownBlock ∧ k_ ≠ gb205 ∧ k_ ≠ gb210) (.slice (some ad209) l0.length c0) l0) ∧ Aside0 (Kd.R (Kd.int .u8) 5 wc w.heap.size (fun k_ => (w.heap.size ≤ k_)) (.slice Ao12 y206.length co12) y206) ∧ Aside0 (Kd.V (Kd.int .u8) 5 wc w.heap.size (fun k_ => (P0_ k_ ∨ w.heap.size ≤ k_) ∧ some k_ ≠ ((.slice Ao12 y206.length co12) : Value).ownBlock ∧ k_ ≠ gb205 ∧ k_ ≠ gb210) (.slice A209_2 ((rd_T39 l0 (ji5)).f2).length c209_2) ((rd_T39 l0 (ji5)).f2)) ∧ Aside0 (wc.heap[gb205]? = some (.cells #[.int .i64 a1_0, .int .i64 a1_1, (.slice Ao12 y206.length co12)] 39 (0, 0))) ∧ Aside0 (wc.heap[gb210]? = some (.cells #[.int .i64 ((rd_T39 l0 (ji5)).f0), .int .i64 ((rd_T39 l0 (ji5)).f1), (.slice A209_2 ((rd_T39 l0 (ji5)).f2).length c209_2)] 39 (0, 0))) ∧ Aside0 (Kd.C (Kd.int .u8) wc A209_2 ((rd_T39 l0 (ji5)).f2).length ((rd_T39 l0 (ji5)).f2)) ∧ Aside0 (Below w.heap.size w wc))
          case first =>
            have H := HC8.out
            clear HC8
            replace H := Option.bind_eq_some_iff.mp H
            obtain ⟨t211, A180, H⟩ := H
            replace H : (if t211 = true then ((ref26_Literal.f a1_0 a1_1 y206).bind fun t212 => (ref26_Add.j0 k l0 ji5 t212 a1_0 a1_1 y206 ((rd_T39 l0 (ji5)).f0) ((rd_T39 l0 (ji5)).f1) ((rd_T39 l0 (ji5)).f2))) else (ref26_Add.j0 k l0 ji5 false a1_0 a1_1 y206 ((rd_T39 l0 (ji5)).f0) ((rd_T39 l0 (ji5)).f1) ((rd_T39 l0 (ji5)).f2))) = some r := H
            have A18 := Aside0.mk A180
            clear A180
            by_cases c19 : t211 = true
            · subst c19
              have H1 : ((ref26_Literal.f a1_0 a1_1 y206).bind fun t212 => (ref26_Add.j0 k l0 ji5 t212 a1_0 a1_1 y206 ((rd_T39 l0 (ji5)).f0) ((rd_T39 l0 (ji5)).f1) ((rd_T39 l0 (ji5)).f2))) = some r := by rw [if_pos rfl] at H; exact H
              clear H
              have H := H1
              clear H1
              replace H := Option.bind_eq_some_iff.mp H
              obtain ⟨t212, A200, H⟩ := H
              replace H : (ref26_Add.j0 k l0 ji5 t212 a1_0 a1_1 y206 ((rd_T39 l0 (ji5)).f0) ((rd_T39 l0 (ji5)).f1) ((rd_T39 l0 (ji5)).f2)) = some r := H
              have A20 := Aside0.mk A200
              clear A200
              have H' := Aside0.mk H
              clear H
              have hnb21 := NB210_205.out
              have hnc21 := NB205_210.out
              have hcz22_0 : w15.cell? ⟨gb210, 0, none⟩ = some (.int .i64 0) := (blk_cell BK210.out 0).trans rfl
              have hcz22_1 : w15.cell? ⟨gb210, 1, none⟩ = some (.int .i64 0) := (blk_cell BK210.out 1).trans rfl
              have hcz22_2 : w15.cell? ⟨gb210, 2, none⟩ = some (.slice none 0 0) := (blk_cell BK210.out 2).trans rfl
              have hfz22_0 := blk_frozen BK210.out 0
              have hfz22_1 := blk_frozen BK210.out 1
              have hfz22_2 := blk_frozen BK210.out 2
              go_wp2_with (first | ((with_reducible refine gate_callee (f := 49) rfl ?_); refine goesL_ (some 21) rfl rfl Try.func49 (by kernel_rfl) rfl #[.agg #[.int .i64 ((rd_T39 l0 (ji5)).f0), .int .i64 ((rd_T39 l0 (ji5)).f1), .slice A209_2 ((rd_T39 l0 (ji5)).f2).length c209_2]] rfl (by (try simp only [List.map_toArray, List.map_cons, List.map_nil]); first | done | (simp only [hji5]; rfl) | rfl | (simp only [List.length_drop, List.length_take]; rfl)) ?_; (with_reducible refine (ref26_Literal.calls ((rd_T39 l0 (ji5)).f0) ((rd_T39 l0 (ji5)).f1) _ _ ((rd_T39 l0 (ji5)).f2) true _ ?side1 ?side2 A18.out).mono ?_); (case side1 => repeat (first | exact ((Kd.V_reads' (by (with_reducible repeat (first | apply Kd.V_alloc | apply Kd.V_drewN | apply Kd.V_drew)); exact (Kd.V_mono (Kd.V_far (p := ⟨gb210, 2, none⟩) (Kd.V_far (p := ⟨gb210, 1, none⟩) (Kd.V_far (p := ⟨gb210, 0, none⟩) (Kd.V_mono HL209_2.out (fun k_ hk => (⟨hk, hk.2⟩ : _ ∧ k_ ≠ gb210))) (fun _ hk => hk.2) (.int .i64 ((rd_T39 l0 (ji5)).f0))) (fun _ hk => hk.2) (.int .i64 ((rd_T39 l0 (ji5)).f1))) (fun _ hk => hk.2) (.slice A209_2 ((rd_T39 l0 (ji5)).f2).length c209_2)) (fun _ h_ => h_.1)))).2.2) | (with_reducible refine Kd.C_alloc ?_ _) | (with_reducible refine Kd.C_drewN ?_ _) | (with_reducible refine Kd.C_drew ?_))); (case side2 => exact HC209_2.out); rintro e w23 ⟨rfl, hb⟩; refine ⟨_, rfl, ?_⟩; have n0_ := Aside0.mk (Kd.V_below (by (with_reducible repeat (first | apply Kd.V_alloc | apply Kd.V_drewN | apply Kd.V_drew)); exact (Kd.V_mono (Kd.V_far (p := ⟨gb210, 2, none⟩) (Kd.V_far (p := ⟨gb210, 1, none⟩) (Kd.V_far (p := ⟨gb210, 0, none⟩) (Kd.V_mono HO0.out (fun k_ hk => (⟨hk, hk.2⟩ : _ ∧ k_ ≠ gb210))) (fun _ hk => hk.2) (.int .i64 ((rd_T39 l0 (ji5)).f0))) (fun _ hk => hk.2) (.int .i64 ((rd_T39 l0 (ji5)).f1))) (fun _ hk => hk.2) (.slice A209_2 ((rd_T39 l0 (ji5)).f2).length c209_2)) (fun _ h_ => h_.1))) hb); have n1_ := Aside0.mk (Kd.R_below (by (with_reducible repeat (first | apply Kd.R_alloc | apply Kd.R_drewN | apply Kd.R_drew)); exact (Kd.R_mono (Kd.R_far (p := ⟨gb210, 2, none⟩) (Kd.R_far (p := ⟨gb210, 1, none⟩) (Kd.R_far (p := ⟨gb210, 0, none⟩) (Kd.R_types HO208.out BK210.out (by decide)) (fun _ hk => hk.2) (.int .i64 ((rd_T39 l0 (ji5)).f0))) (fun _ hk => hk.2) (.int .i64 ((rd_T39 l0 (ji5)).f1))) (fun _ hk => hk.2) (.slice A209_2 ((rd_T39 l0 (ji5)).f2).length c209_2)) (fun _ h_ => h_.1))) hb); have n2_ := Aside0.mk (Kd.V_below (by (with_reducible repeat (first | apply Kd.V_alloc | apply Kd.V_drewN | apply Kd.V_drew)); exact (Kd.V_mono (Kd.V_far (p := ⟨gb210, 2, none⟩) (Kd.V_far (p := ⟨gb210, 1, none⟩) (Kd.V_far (p := ⟨gb210, 0, none⟩) (Kd.V_mono HL209_2.out (fun k_ hk => (⟨hk, hk.2⟩ : _ ∧ k_ ≠ gb210))) (fun _ hk => hk.2) (.int .i64 ((rd_T39 l0 (ji5)).f0))) (fun _ hk => hk.2) (.int .i64 ((rd_T39 l0 (ji5)).f1))) (fun _ hk => hk.2) (.slice A209_2 ((rd_T39 l0 (ji5)).f2).length c209_2)) (fun _ h_ => h_.1))) hb); have n3_ := Aside0.mk (blk_below (g := gb205) (o := .cells #[.int .i64 a1_0, .int .i64 a1_1, .slice Ao12 y206.length co12] 39 (0, 0)) (by (with_reducible repeat (first | refine blk_drewN ?_ _ | refine blk_drew ?_ | refine blk_alloc ?_ _)); refine blk_far ?_ NB205_210.out _; (with_reducible repeat (first | refine blk_drewN ?_ _ | refine blk_drew ?_ | refine blk_alloc ?_ _)); refine blk_far ?_ NB205_210.out _; (with_reducible repeat (first | refine blk_drewN ?_ _ | refine blk_drew ?_ | refine blk_alloc ?_ _)); refine blk_far ?_ NB205_210.out _; (with_reducible repeat (first | refine blk_drewN ?_ _ | refine blk_drew ?_ | refine blk_alloc ?_ _)); exact BK205.out) hb); have n4_ := Aside0.mk (Kd.C_below ((Kd.V_reads' (by (with_reducible repeat (first | apply Kd.V_alloc | apply Kd.V_drewN | apply Kd.V_drew)); exact (Kd.V_mono (Kd.V_far (p := ⟨gb210, 2, none⟩) (Kd.V_far (p := ⟨gb210, 1, none⟩) (Kd.V_far (p := ⟨gb210, 0, none⟩) (Kd.V_mono HL209_2.out (fun k_ hk => (⟨hk, hk.2⟩ : _ ∧ k_ ≠ gb210))) (fun _ hk => hk.2) (.int .i64 ((rd_T39 l0 (ji5)).f0))) (fun _ hk => hk.2) (.int .i64 ((rd_T39 l0 (ji5)).f1))) (fun _ hk => hk.2) (.slice A209_2 ((rd_T39 l0 (ji5)).f2).length c209_2)) (fun _ h_ => h_.1)))).2.2) hb); have n5_ := Aside0.mk (blk_below (g := gb210) (o := .cells #[.int .i64 ((rd_T39 l0 (ji5)).f0), .int .i64 ((rd_T39 l0 (ji5)).f1), .slice A209_2 ((rd_T39 l0 (ji5)).f2).length c209_2] 39 (0, 0)) (by (with_reducible repeat (first | refine blk_drewN ?_ _ | refine blk_drew ?_ | refine blk_alloc ?_ _)); refine blk_put (cs := #[.int .i64 ((rd_T39 l0 (ji5)).f0), .int .i64 ((rd_T39 l0 (ji5)).f1), .slice none 0 0]) ?_ 2 _ rfl; (with_reducible repeat (first | refine blk_drewN ?_ _ | refine blk_drew ?_ | refine blk_alloc ?_ _)); refine blk_put (cs := #[.int .i64 ((rd_T39 l0 (ji5)).f0), .int .i64 0, .slice none 0 0]) ?_ 1 _ rfl; (with_reducible repeat (first | refine blk_drewN ?_ _ | refine blk_drew ?_ | refine blk_alloc ?_ _)); refine blk_put (cs := #[.int .i64 0, .int .i64 0, .slice none 0 0]) ?_ 0 _ rfl; (with_reducible repeat (first | refine blk_drewN ?_ _ | refine blk_drew ?_ | refine blk_alloc ?_ _)); exact BK210.out) hb); have n6_ := Aside0.mk (below_step (by repeat (first | (with_reducible first | exact HB.out | apply below_alloc | apply pw_below_drewN | apply below_drew1 | refine below_set ?_ GE205.out | refine below_set ?_ GE210.out) | exact HB.out)) hb); clear HO0; clear HO208; clear HL209_2; clear BK205; clear HR209_2; clear BK210; clear HB; have HO0 := n0_; have HO208 := n1_; have HL209_2 := n2_; have BK205 := n3_; have HR209_2 := n4_; have BK210 := n5_; have HB := n6_; clear n0_ n1_ n2_ n3_ n4_ n5_ n6_; (try clear hb); (try clear hb2); (try clear hk); (try clear hi); have hcz24_0 : w23.cell? ⟨gb205, 0, none⟩ = some (.int .i64 a1_0) := (blk_cell BK205.out 0).trans rfl; have hcz24_1 : w23.cell? ⟨gb205, 1, none⟩ = some (.int .i64 a1_1) := (blk_cell BK205.out 1).trans rfl; have hcz24_2 : w23.cell? ⟨gb205, 2, none⟩ = some (.slice Ao12 y206.length co12) := (blk_cell BK205.out 2).trans rfl; have hfz24_0 := blk_frozen BK205.out 0; have hfz24_1 := blk_frozen BK205.out 1; have hfz24_2 := blk_frozen BK205.out 2) | (go_at_call 49; (with_reducible refine (ref26_Literal.calls a1_0 a1_1 _ _ y206 t212 _ ?side1 ?side2 A20.out).mono ?_); (case side1 => repeat (first | exact (Kd.R_reads' HO208.out).2.2 | (with_reducible refine Kd.C_alloc ?_ _) | (with_reducible refine Kd.C_drewN ?_ _) | (with_reducible refine Kd.C_drew ?_))); (case side2 => exact (Kd.R_reads' HO208.out).2.1); rintro e w25 ⟨rfl, hb⟩; have n0_ := Aside0.mk (Kd.V_below (by (with_reducible repeat (first | apply Kd.V_alloc | apply Kd.V_drewN | apply Kd.V_drew)); exact HO0.out) hb); have n1_ := Aside0.mk (Kd.R_below (by (with_reducible repeat (first | apply Kd.R_alloc | apply Kd.R_drewN | apply Kd.R_drew)); exact HO208.out) hb); have n2_ := Aside0.mk (Kd.V_below (by (with_reducible repeat (first | apply Kd.V_alloc | apply Kd.V_drewN | apply Kd.V_drew)); exact HL209_2.out) hb); have n3_ := Aside0.mk (blk_below (g := gb205) (o := .cells #[.int .i64 a1_0, .int .i64 a1_1, .slice Ao12 y206.length co12] 39 (0, 0)) (by (with_reducible repeat (first | refine blk_drewN ?_ _ | refine blk_drew ?_ | refine blk_alloc ?_ _)); exact BK205.out) hb); have n4_ := Aside0.mk (Kd.C_below (by repeat (first | (with_reducible exact HR209_2.out) | (with_reducible refine Kd.C_alloc ?_ _) | (with_reducible refine Kd.C_drewN ?_ _) | (with_reducible refine Kd.C_drew ?_) | exact HR209_2.out)) hb); have n5_ := Aside0.mk (blk_below (g := gb210) (o := .cells #[.int .i64 ((rd_T39 l0 (ji5)).f0), .int .i64 ((rd_T39 l0 (ji5)).f1), .slice A209_2 ((rd_T39 l0 (ji5)).f2).length c209_2] 39 (0, 0)) (by (with_reducible repeat (first | refine blk_drewN ?_ _ | refine blk_drew ?_ | refine blk_alloc ?_ _)); exact BK210.out) hb); have n6_ := Aside0.mk (below_step (by repeat (first | (with_reducible first | exact HB.out | apply below_alloc | apply pw_below_drewN | apply below_drew1 | refine below_set ?_ GE205.out | refine below_set ?_ GE210.out) | exact HB.out)) hb); clear HO0; clear HO208; clear HL209_2; clear BK205; clear HR209_2; clear BK210; clear HB; have HO0 := n0_; have HO208 := n1_; have HL209_2 := n2_; have BK205 := n3_; have HR209_2 := n4_; have BK210 := n5_; have HB := n6_; clear n0_ n1_ n2_ n3_ n4_ n5_ n6_; (try clear hb); (try clear hb2); (try clear hk); (try clear hi)))
              go_meet
              case rel => exact ⟨_, (t212), (by first | rfl | (simp; done) | (simp [*]; done)), H', ⟨by first | omega | exact Nat.le_refl _⟩, ⟨by (with_reducible repeat (first | apply Kd.V_alloc | apply Kd.V_drewN | apply Kd.V_drew)); exact Kd.V_mono HO0.out (fun _ hk => ⟨hk.1.1, ⟨hk.1.2.1, ⟨hk.1.2.2, hk.2⟩⟩⟩)⟩, ⟨by (with_reducible repeat (first | apply Kd.R_alloc | apply Kd.R_drewN | apply Kd.R_drew)); exact HO208.out⟩, ⟨by (with_reducible repeat (first | apply Kd.V_alloc | apply Kd.V_drewN | apply Kd.V_drew)); exact Kd.V_mono HL209_2.out (fun _ hk => ⟨hk.1.1, ⟨hk.1.2.1, ⟨hk.1.2.2, hk.2⟩⟩⟩)⟩, ⟨by (with_reducible repeat (first | refine blk_drewN ?_ _ | refine blk_drew ?_ | refine blk_alloc ?_ _)); exact BK205.out⟩, ⟨by (with_reducible repeat (first | refine blk_drewN ?_ _ | refine blk_drew ?_ | refine blk_alloc ?_ _)); exact BK210.out⟩, ⟨by repeat (first | (with_reducible exact HR209_2.out) | (with_reducible refine Kd.C_alloc ?_ _) | (with_reducible refine Kd.C_drewN ?_ _) | (with_reducible refine Kd.C_drew ?_) | exact HR209_2.out)⟩, ⟨by repeat (first | (with_reducible first | exact HB.out | apply below_alloc | apply pw_below_drewN | apply below_drew1 | refine below_set ?_ GE205.out | refine below_set ?_ GE210.out) | exact HB.out)⟩⟩
            · replace c19 := Bool.eq_false_iff.mpr c19
              subst c19
              have H1 : (ref26_Add.j0 k l0 ji5 false a1_0 a1_1 y206 ((rd_T39 l0 (ji5)).f0) ((rd_T39 l0 (ji5)).f1) ((rd_T39 l0 (ji5)).f2)) = some r := by rw [if_neg (show ¬ (false = true) by decide)] at H; exact H
              clear H
              have H := H1
              clear H1
              have H' := Aside0.mk H
              clear H
              have hnb26 := NB210_205.out
              have hnc26 := NB205_210.out
              have hcz27_0 : w15.cell? ⟨gb210, 0, none⟩ = some (.int .i64 0) := (blk_cell BK210.out 0).trans rfl
              have hcz27_1 : w15.cell? ⟨gb210, 1, none⟩ = some (.int .i64 0) := (blk_cell BK210.out 1).trans rfl
              have hcz27_2 : w15.cell? ⟨gb210, 2, none⟩ = some (.slice none 0 0) := (blk_cell BK210.out 2).trans rfl
              have hfz27_0 := blk_frozen BK210.out 0
              have hfz27_1 := blk_frozen BK210.out 1
              have hfz27_2 := blk_frozen BK210.out 2
              go_wp2_with (first | ((with_reducible refine gate_callee (f := 49) rfl ?_); refine goesL_ (some 21) rfl rfl Try.func49 (by kernel_rfl) rfl #[.agg #[.int .i64 ((rd_T39 l0 (ji5)).f0), .int .i64 ((rd_T39 l0 (ji5)).f1), .slice A209_2 ((rd_T39 l0 (ji5)).f2).length c209_2]] rfl (by (try simp only [List.map_toArray, List.map_cons, List.map_nil]); first | done | (simp only [hji5]; rfl) | rfl | (simp only [List.length_drop, List.length_take]; rfl)) ?_; (with_reducible refine (ref26_Literal.calls ((rd_T39 l0 (ji5)).f0) ((rd_T39 l0 (ji5)).f1) _ _ ((rd_T39 l0 (ji5)).f2) false _ ?side1 ?side2 A18.out).mono ?_); (case side1 => repeat (first | exact ((Kd.V_reads' (by (with_reducible repeat (first | apply Kd.V_alloc | apply Kd.V_drewN | apply Kd.V_drew)); exact (Kd.V_mono (Kd.V_far (p := ⟨gb210, 2, none⟩) (Kd.V_far (p := ⟨gb210, 1, none⟩) (Kd.V_far (p := ⟨gb210, 0, none⟩) (Kd.V_mono HL209_2.out (fun k_ hk => (⟨hk, hk.2⟩ : _ ∧ k_ ≠ gb210))) (fun _ hk => hk.2) (.int .i64 ((rd_T39 l0 (ji5)).f0))) (fun _ hk => hk.2) (.int .i64 ((rd_T39 l0 (ji5)).f1))) (fun _ hk => hk.2) (.slice A209_2 ((rd_T39 l0 (ji5)).f2).length c209_2)) (fun _ h_ => h_.1)))).2.2) | (with_reducible refine Kd.C_alloc ?_ _) | (with_reducible refine Kd.C_drewN ?_ _) | (with_reducible refine Kd.C_drew ?_))); (case side2 => exact HC209_2.out); rintro e w28 ⟨rfl, hb⟩; refine ⟨_, rfl, ?_⟩; have n0_ := Aside0.mk (Kd.V_below (by (with_reducible repeat (first | apply Kd.V_alloc | apply Kd.V_drewN | apply Kd.V_drew)); exact (Kd.V_mono (Kd.V_far (p := ⟨gb210, 2, none⟩) (Kd.V_far (p := ⟨gb210, 1, none⟩) (Kd.V_far (p := ⟨gb210, 0, none⟩) (Kd.V_mono HO0.out (fun k_ hk => (⟨hk, hk.2⟩ : _ ∧ k_ ≠ gb210))) (fun _ hk => hk.2) (.int .i64 ((rd_T39 l0 (ji5)).f0))) (fun _ hk => hk.2) (.int .i64 ((rd_T39 l0 (ji5)).f1))) (fun _ hk => hk.2) (.slice A209_2 ((rd_T39 l0 (ji5)).f2).length c209_2)) (fun _ h_ => h_.1))) hb); have n1_ := Aside0.mk (Kd.R_below (by (with_reducible repeat (first | apply Kd.R_alloc | apply Kd.R_drewN | apply Kd.R_drew)); exact (Kd.R_mono (Kd.R_far (p := ⟨gb210, 2, none⟩) (Kd.R_far (p := ⟨gb210, 1, none⟩) (Kd.R_far (p := ⟨gb210, 0, none⟩) (Kd.R_types HO208.out BK210.out (by decide)) (fun _ hk => hk.2) (.int .i64 ((rd_T39 l0 (ji5)).f0))) (fun _ hk => hk.2) (.int .i64 ((rd_T39 l0 (ji5)).f1))) (fun _ hk => hk.2) (.slice A209_2 ((rd_T39 l0 (ji5)).f2).length c209_2)) (fun _ h_ => h_.1))) hb); have n2_ := Aside0.mk (Kd.V_below (by (with_reducible repeat (first | apply Kd.V_alloc | apply Kd.V_drewN | apply Kd.V_drew)); exact (Kd.V_mono (Kd.V_far (p := ⟨gb210, 2, none⟩) (Kd.V_far (p := ⟨gb210, 1, none⟩) (Kd.V_far (p := ⟨gb210, 0, none⟩) (Kd.V_mono HL209_2.out (fun k_ hk => (⟨hk, hk.2⟩ : _ ∧ k_ ≠ gb210))) (fun _ hk => hk.2) (.int .i64 ((rd_T39 l0 (ji5)).f0))) (fun _ hk => hk.2) (.int .i64 ((rd_T39 l0 (ji5)).f1))) (fun _ hk => hk.2) (.slice A209_2 ((rd_T39 l0 (ji5)).f2).length c209_2)) (fun _ h_ => h_.1))) hb); have n3_ := Aside0.mk (blk_below (g := gb205) (o := .cells #[.int .i64 a1_0, .int .i64 a1_1, .slice Ao12 y206.length co12] 39 (0, 0)) (by (with_reducible repeat (first | refine blk_drewN ?_ _ | refine blk_drew ?_ | refine blk_alloc ?_ _)); refine blk_far ?_ NB205_210.out _; (with_reducible repeat (first | refine blk_drewN ?_ _ | refine blk_drew ?_ | refine blk_alloc ?_ _)); refine blk_far ?_ NB205_210.out _; (with_reducible repeat (first | refine blk_drewN ?_ _ | refine blk_drew ?_ | refine blk_alloc ?_ _)); refine blk_far ?_ NB205_210.out _; (with_reducible repeat (first | refine blk_drewN ?_ _ | refine blk_drew ?_ | refine blk_alloc ?_ _)); exact BK205.out) hb); have n4_ := Aside0.mk (Kd.C_below ((Kd.V_reads' (by (with_reducible repeat (first | apply Kd.V_alloc | apply Kd.V_drewN | apply Kd.V_drew)); exact (Kd.V_mono (Kd.V_far (p := ⟨gb210, 2, none⟩) (Kd.V_far (p := ⟨gb210, 1, none⟩) (Kd.V_far (p := ⟨gb210, 0, none⟩) (Kd.V_mono HL209_2.out (fun k_ hk => (⟨hk, hk.2⟩ : _ ∧ k_ ≠ gb210))) (fun _ hk => hk.2) (.int .i64 ((rd_T39 l0 (ji5)).f0))) (fun _ hk => hk.2) (.int .i64 ((rd_T39 l0 (ji5)).f1))) (fun _ hk => hk.2) (.slice A209_2 ((rd_T39 l0 (ji5)).f2).length c209_2)) (fun _ h_ => h_.1)))).2.2) hb); have n5_ := Aside0.mk (blk_below (g := gb210) (o := .cells #[.int .i64 ((rd_T39 l0 (ji5)).f0), .int .i64 ((rd_T39 l0 (ji5)).f1), .slice A209_2 ((rd_T39 l0 (ji5)).f2).length c209_2] 39 (0, 0)) (by (with_reducible repeat (first | refine blk_drewN ?_ _ | refine blk_drew ?_ | refine blk_alloc ?_ _)); refine blk_put (cs := #[.int .i64 ((rd_T39 l0 (ji5)).f0), .int .i64 ((rd_T39 l0 (ji5)).f1), .slice none 0 0]) ?_ 2 _ rfl; (with_reducible repeat (first | refine blk_drewN ?_ _ | refine blk_drew ?_ | refine blk_alloc ?_ _)); refine blk_put (cs := #[.int .i64 ((rd_T39 l0 (ji5)).f0), .int .i64 0, .slice none 0 0]) ?_ 1 _ rfl; (with_reducible repeat (first | refine blk_drewN ?_ _ | refine blk_drew ?_ | refine blk_alloc ?_ _)); refine blk_put (cs := #[.int .i64 0, .int .i64 0, .slice none 0 0]) ?_ 0 _ rfl; (with_reducible repeat (first | refine blk_drewN ?_ _ | refine blk_drew ?_ | refine blk_alloc ?_ _)); exact BK210.out) hb); have n6_ := Aside0.mk (below_step (by repeat (first | (with_reducible first | exact HB.out | apply below_alloc | apply pw_below_drewN | apply below_drew1 | refine below_set ?_ GE205.out | refine below_set ?_ GE210.out) | exact HB.out)) hb); clear HO0; clear HO208; clear HL209_2; clear BK205; clear HR209_2; clear BK210; clear HB; have HO0 := n0_; have HO208 := n1_; have HL209_2 := n2_; have BK205 := n3_; have HR209_2 := n4_; have BK210 := n5_; have HB := n6_; clear n0_ n1_ n2_ n3_ n4_ n5_ n6_; (try clear hb); (try clear hb2); (try clear hk); (try clear hi)))
              go_meet
              case rel => exact ⟨_, (false), (by first | rfl | (simp; done) | (simp [*]; done)), H', ⟨by first | omega | exact Nat.le_refl _⟩, ⟨by (with_reducible repeat (first | apply Kd.V_alloc | apply Kd.V_drewN | apply Kd.V_drew)); exact Kd.V_mono HO0.out (fun _ hk => ⟨hk.1.1, ⟨hk.1.2.1, ⟨hk.1.2.2, hk.2⟩⟩⟩)⟩, ⟨by (with_reducible repeat (first | apply Kd.R_alloc | apply Kd.R_drewN | apply Kd.R_drew)); exact HO208.out⟩, ⟨by (with_reducible repeat (first | apply Kd.V_alloc | apply Kd.V_drewN | apply Kd.V_drew)); exact Kd.V_mono HL209_2.out (fun _ hk => ⟨hk.1.1, ⟨hk.1.2.1, ⟨hk.1.2.2, hk.2⟩⟩⟩)⟩, ⟨by (with_reducible repeat (first | refine blk_drewN ?_ _ | refine blk_drew ?_ | refine blk_alloc ?_ _)); exact BK205.out⟩, ⟨by (with_reducible repeat (first | refine blk_drewN ?_ _ | refine blk_drew ?_ | refine blk_alloc ?_ _)); exact BK210.out⟩, ⟨by repeat (first | (with_reducible exact HR209_2.out) | (with_reducible refine Kd.C_alloc ?_ _) | (with_reducible refine Kd.C_drewN ?_ _) | (with_reducible refine Kd.C_drew ?_) | exact HR209_2.out)⟩, ⟨by repeat (first | (with_reducible first | exact HB.out | apply below_alloc | apply pw_below_drewN | apply below_drew1 | refine below_set ?_ GE205.out | refine below_set ?_ GE210.out) | exact HB.out)⟩⟩
          case rest =>
            clear HC8
            try clear c1
            try clear c2
            try clear p2
            try clear q2
            try clear hx2
            try clear c3
            try clear c4
            try clear c4b0
            try clear c6
            try clear c6b0
            try clear p6
            try clear c7
            try clear c7b0
            try clear c16
            try clear c19
            try clear c20
            try clear p20
            try clear q20
            try clear hx20
            try clear c21
            try clear c26
            try clear hcz10_0
            try clear hcz10_1
            try clear hcz10_2
            try clear hcz13_0
            try clear hcz13_1
            try clear hcz13_2
            try clear hcz17_0
            try clear hcz17_1
            try clear hcz17_2
            try clear hcz22_0
            try clear hcz22_1
            try clear hcz22_2
            try clear hcz24_0
            try clear hcz24_1
            try clear hcz24_2
            try clear hcz27_0
            try clear hcz27_1
            try clear hcz27_2
            try clear hfz10_0
            try clear hfz10_1
            try clear hfz10_2
            try clear hfz13_0
            try clear hfz13_1
            try clear hfz13_2
            try clear hfz17_0
            try clear hfz17_1
            try clear hfz17_2
            try clear hfz22_0
            try clear hfz22_1
            try clear hfz22_2
            try clear hfz24_0
            try clear hfz24_1
            try clear hfz24_2
            try clear hfz27_0
            try clear hfz27_1
            try clear hfz27_2
            try clear hx209_0
            try clear hx209_1
            try clear hx209_2
            try clear p209
            try clear q209
            obtain ⟨kq, x25_7, rfl, HA, HJ7, HO_0, HO_206002, HO_211002, BK205, BK210, HR209_2, HB⟩ := hcut
            cases kq with
            | zero => exact absurd HA.out (by simp [ref26_Add.j0])
            | succ kj7 =>
              have H := HA.out
              clear HA
              simp only [ref26_Add.j0] at H
              by_cases c29 : x25_7 = true
              · subst c29
                have H1 : (if 0 ≤ ji5 then (if ji5 ≤ (l0.length : Int) then ((some (l0.take (ji5 : Int).toNat : List (S39))).bind fun y213 => (if ([] : List (S39)).length + y213.length < 3518437208883 then ((some (([] : List (S39)) ++ y213 : List (S39))).bind fun y218 => (if ([] : List Int).length + ((rd_T39 l0 (ji5)).f2).length < 140737488355328 then ((some (([] : List Int) ++ ((rd_T39 l0 (ji5)).f2) : List Int)).bind fun y221 => (if y221.length + y206.length < 140737488355328 then ((some (([(⟨0, 0, (y221 ++ y206)⟩ : S39)] : List (S39)) : List (S39))).bind fun y227 => (if y218.length + y227.length < 3518437208883 then (some (y218 ++ y227)) else (none))) else (none))) else (none))) else (none))) else (none)) else (none)) = some r := by rw [if_pos rfl] at H; exact H
                clear H
                have H := H1
                clear H1
                by_cases c30 : 0 ≤ ji5
                · rw [if_pos c30] at H
                  have c30b0 := eq_true c30
                  have c30b1 : decide (0 ≤ ji5) = true := decide_eq_true c30
                  clear c30
                  by_cases c31 : ji5 ≤ (l0.length : Int)
                  · rw [if_pos c31] at H
                    have c31b0 := eq_true c31
                    have c31b1 : decide (ji5 ≤ (l0.length : Int)) = true := decide_eq_true c31
                    clear c31
                    obtain ⟨y213, hy213⟩ : ∃ y_ : List (S39), y_ = (l0.take (ji5 : Int).toNat) := ⟨_, rfl⟩
                    replace H : (if ([] : List (S39)).length + y213.length < 3518437208883 then ((some (([] : List (S39)) ++ y213 : List (S39))).bind fun y218 => (if ([] : List Int).length + ((rd_T39 l0 (ji5)).f2).length < 140737488355328 then ((some (([] : List Int) ++ ((rd_T39 l0 (ji5)).f2) : List Int)).bind fun y221 => (if y221.length + y206.length < 140737488355328 then ((some (([(⟨0, 0, (y221 ++ y206)⟩ : S39)] : List (S39)) : List (S39))).bind fun y227 => (if y218.length + y227.length < 3518437208883 then (some (y218 ++ y227)) else (none))) else (none))) else (none))) else (none)) = some r := by first | (rw [hy213]; with_reducible exact H) | (have H2_ := (Option.bind_some _ _).symm.trans H; rw [hy213]; with_reducible exact H2_) | (have H2_ := (Option.bind_some _ _).symm.trans H; with_reducible exact H2_) | with_reducible exact H | (rw [hy213]; exact H) | exact H
                    have Ny213 := Aside0.mk hy213
                    clear hy213
                    by_cases c32 : ([] : List (S39)).length + y213.length < 3518437208883
                    · rw [if_pos c32] at H
                      have LMc32 := Aside0.mk c32
                      clear c32
                      obtain ⟨y218, hy218⟩ : ∃ y_ : List (S39), y_ = (([] : List (S39)) ++ y213) := ⟨_, rfl⟩
                      replace H : (if ([] : List Int).length + ((rd_T39 l0 (ji5)).f2).length < 140737488355328 then ((some (([] : List Int) ++ ((rd_T39 l0 (ji5)).f2) : List Int)).bind fun y221 => (if y221.length + y206.length < 140737488355328 then ((some (([(⟨0, 0, (y221 ++ y206)⟩ : S39)] : List (S39)) : List (S39))).bind fun y227 => (if y218.length + y227.length < 3518437208883 then (some (y218 ++ y227)) else (none))) else (none))) else (none)) = some r := by first | (rw [hy218]; with_reducible exact H) | (have H2_ := (Option.bind_some _ _).symm.trans H; rw [hy218]; with_reducible exact H2_) | (have H2_ := (Option.bind_some _ _).symm.trans H; with_reducible exact H2_) | with_reducible exact H | (rw [hy218]; exact H) | exact H
                      have Ny218 := Aside0.mk hy218
                      clear hy218
                      by_cases c33 : ([] : List Int).length + ((rd_T39 l0 (ji5)).f2).length < 140737488355328
                      · rw [if_pos c33] at H
                        have LMc33 := Aside0.mk c33
                        clear c33
                        obtain ⟨y221, hy221⟩ : ∃ y_ : List Int, y_ = (([] : List Int) ++ ((rd_T39 l0 (ji5)).f2)) := ⟨_, rfl⟩
                        replace H : (if y221.length + y206.length < 140737488355328 then ((some (([(⟨0, 0, (y221 ++ y206)⟩ : S39)] : List (S39)) : List (S39))).bind fun y227 => (if y218.length + y227.length < 3518437208883 then (some (y218 ++ y227)) else (none))) else (none)) = some r := by first | (rw [hy221]; with_reducible exact H) | (have H2_ := (Option.bind_some _ _).symm.trans H; rw [hy221]; with_reducible exact H2_) | (have H2_ := (Option.bind_some _ _).symm.trans H; with_reducible exact H2_) | with_reducible exact H | (rw [hy221]; exact H) | exact H
                        have Ny221 := Aside0.mk hy221
                        clear hy221
                        by_cases c34 : y221.length + y206.length < 140737488355328
                        · rw [if_pos c34] at H
                          have LMc34 := Aside0.mk c34
                          clear c34
                          obtain ⟨y224, hy224⟩ : ∃ y_ : List Int, y_ = (y221 ++ y206) := ⟨_, rfl⟩
                          replace H : ((some (([(⟨0, 0, y224⟩ : S39)] : List (S39)) : List (S39))).bind fun y227 => (if y218.length + y227.length < 3518437208883 then (some (y218 ++ y227)) else (none))) = some r := by first | (rw [hy224]; with_reducible exact H) | (have H2_ := (Option.bind_some _ _).symm.trans H; rw [hy224]; with_reducible exact H2_) | (have H2_ := (Option.bind_some _ _).symm.trans H; with_reducible exact H2_) | with_reducible exact H | (rw [hy224]; exact H) | exact H
                          have Ny224 := Aside0.mk hy224
                          clear hy224
                          obtain ⟨y227, hy227⟩ : ∃ y_ : List (S39), y_ = (([(⟨0, 0, y224⟩ : S39)] : List (S39))) := ⟨_, rfl⟩
                          replace H : (if y218.length + y227.length < 3518437208883 then (some (y218 ++ y227)) else (none)) = some r := by first | (rw [hy227]; with_reducible exact H) | (have H2_ := (Option.bind_some _ _).symm.trans H; rw [hy227]; with_reducible exact H2_) | (have H2_ := (Option.bind_some _ _).symm.trans H; with_reducible exact H2_) | with_reducible exact H | (rw [hy227]; exact H) | exact H
                          have Ny227 := Aside0.mk hy227
                          clear hy227
                          by_cases c35 : y218.length + y227.length < 3518437208883
                          · rw [if_pos c35] at H
                            have LMc35 := Aside0.mk c35
                            clear c35
                            obtain ⟨y230, hy230⟩ : ∃ y_ : List (S39), y_ = (y218 ++ y227) := ⟨_, rfl⟩
                            replace H : (some y230) = some r := by first | (rw [hy230]; with_reducible exact H) | (have H2_ := (Option.bind_some _ _).symm.trans H; rw [hy230]; with_reducible exact H2_) | (have H2_ := (Option.bind_some _ _).symm.trans H; with_reducible exact H2_) | with_reducible exact H | (rw [hy230]; exact H) | exact H
                            have Ny230 := Aside0.mk hy230
                            clear hy230
                            obtain rfl := Option.some.inj H
                            try go_wp2
                            have n0_ := Aside0.mk (Kd.V_drew HO_0.out)
                            have n1_ := Aside0.mk (Kd.R_drew HO_206002.out)
                            have n2_ := Aside0.mk (Kd.V_drew HO_211002.out)
                            have n3_ := Aside0.mk (blk_drew BK205.out)
                            have n4_ := Aside0.mk (blk_drew BK210.out)
                            have n5_ := Aside0.mk (Kd.C_drew HR209_2.out)
                            have n6_ := Aside0.mk (below_drew1 HB.out)
                            clear HO_0
                            clear HO_206002
                            clear HO_211002
                            clear BK205
                            clear BK210
                            clear HR209_2
                            clear HB
                            have HO_0 := n0_
                            have HO_206002 := n1_
                            have HO_211002 := n2_
                            have BK205 := n3_
                            have BK210 := n4_
                            have HR209_2 := n5_
                            have HB := n6_
                            clear n0_ n1_ n2_ n3_ n4_ n5_ n6_
                            have q37 : (ji5 : Int) ≤ ((l0.length : Int) : Int) := of_decide_eq_true (by first | (with_reducible assumption) | assumption)
                            obtain ⟨i037, hi037, _, hsz37, _⟩ := info_parts info39
                            have hroom37 : l0.length ≤ c0 := (Kd.V_reads' HO_0.out).2.1
                            have hC37 : Kd.F k39 _ _ (some ad209) l0.length l0 := (Kd.V_at (base := w.heap.size) HO_0.out).2.2
                            have hcut37 := cut_to (P := Try.prog) 29 39 .i64 Try.underlying29 hi037 (some ad209) l0.length c0 ji5 (of_decide_eq_true (by first | (with_reducible assumption) | assumption)) q37 hroom37
                            have hr37 := Kd.F_take (m := (ji5 : Int).toNat) hC37 (by omega)
                            have hy37 : y213.length = (ji5 : Int).toNat := (by rw [Ny213.out, List.length_take]; omega)
                            rw [← Ny213.out] at hr37
                            rw [← hy37] at hcut37
                            have HO217 := Aside0.mk (show Kd.V k39 39 _ w.heap.size _ (.slice (some ad209) y213.length c0) y213 from Kd.V_mk (by omega) hr37)
                            have HC217 := Aside0.mk (show y213.length ≤ c0 from by omega)
                            clear hr37 hC37 hroom37 hi037 hsz37
                            have KY37 := Aside0.mk hy37
                            clear hy37
                            replace q37 := eq_true q37
                            refine start_ (n := 14) (S := fun w' => w'.cell? ⟨gb210, 0, none⟩ = some (.int .i64 ((rd_T39 l0 (ji5)).f0)) ∧ w'.cell? ⟨gb210, 1, none⟩ = some (.int .i64 ((rd_T39 l0 (ji5)).f1)) ∧ w'.cell? ⟨gb210, 2, none⟩ = some (.slice A209_2 ((rd_T39 l0 (ji5)).f2).length c209_2) ∧ w'.cell? ⟨gb205, 0, none⟩ = some (.int .i64 a1_0) ∧ w'.cell? ⟨gb205, 1, none⟩ = some (.int .i64 a1_1) ∧ w'.cell? ⟨gb205, 2, none⟩ = some (.slice Ao12 y206.length co12)) (ds := []) #[false, false, false, false, false, false, false, false, false, false, false, false, false, false] (by kernel_rfl) rfl rfl ⟨(blk_cell BK210.out 0).trans rfl, (blk_cell BK210.out 1).trans rfl, (blk_cell BK210.out 2).trans rfl, (blk_cell BK205.out 0).trans rfl, (blk_cell BK205.out 1).trans rfl, (blk_cell BK205.out 2).trans rfl⟩ (fun hHeld => ?_); refine with_tabW ref26_Add.tab6 ref26_Add.bits6 (fun HT_ HW_ => ?_)
                            generalize wc.drew = w36 at HO_0 HO_206002 HO_211002 BK205 BK210 HR209_2 HB HO217 hHeld ⊢
                            refine pure_ (i := 0) (N := some 26) (v := ?_) (a' := ?_) #[true, false, false, false, false, false, false, false, false, false, false, false, false, false] rfl rfl (any_of HT_.out (by kernel_rfl)) (fun _ _ _ h => h) (Or.inl ⟨by rfl, ?_⟩) ?_ ?_
                            rotate_left
                            · intro w'
                              go_simp
                              with_reducible rfl
                            rotate_left
                            · simp only [Act.put, List.setIfInBounds_toArray, List.set_cons_zero, List.set_cons_succ, i64_w, i32_w]
                              rfl
                            refine pure_ (i := 1) (N := some 27) (v := ?_) (a' := ?_) #[true, true, false, false, false, false, false, false, false, false, false, false, false, false] rfl rfl (any_of HT_.out (by kernel_rfl)) (fun _ _ _ h => h) (Or.inl ⟨by rfl, ?_⟩) ?_ ?_
                            rotate_left
                            · intro w'
                              go_simp
                              with_reducible rfl
                            rotate_left
                            · simp only [Act.put, List.setIfInBounds_toArray, List.set_cons_zero, List.set_cons_succ, i64_w, i32_w]
                              rfl
                            refine pure_ (i := 2) (N := some 28) (v := ?_) (a' := ?_) #[true, true, true, false, false, false, false, false, false, false, false, false, false, false] rfl rfl (any_of HT_.out (by kernel_rfl)) (fun _ _ _ h => h) (Or.inl ⟨by rfl, ?_⟩) ?_ ?_
                            rotate_left
                            · intro w'
                              go_simp
                              with_reducible rfl
                            rotate_left
                            · simp only [Act.put, List.setIfInBounds_toArray, List.set_cons_zero, List.set_cons_succ, i64_w, i32_w]
                              rfl
                            refine pure_ (i := 4) (N := some 30) (v := ?_) (a' := ?_) #[true, true, true, false, true, false, false, false, false, false, false, false, false, false] rfl rfl (any_of HT_.out (by kernel_rfl)) (fun _ _ _ h => h) (Or.inl ⟨by rfl, ?_⟩) ?_ ?_
                            rotate_left
                            · intro w'
                              go_simp
                              with_reducible rfl
                            rotate_left
                            · simp only [Act.put, List.setIfInBounds_toArray, List.set_cons_zero, List.set_cons_succ, i64_w, i32_w]
                              rfl
                            refine pure_ (i := 7) (N := some 33) (v := ?_) (a' := ?_) #[true, true, true, false, true, false, false, true, false, false, false, false, false, false] rfl rfl (any_of HT_.out (by kernel_rfl)) (fun _ _ _ h => h) (Or.inl ⟨by rfl, ?_⟩) ?_ ?_
                            rotate_left
                            · intro w'
                              go_simp
                              with_reducible rfl
                            rotate_left
                            · simp only [Act.put, List.setIfInBounds_toArray, List.set_cons_zero, List.set_cons_succ, i64_w, i32_w]
                              rfl
                            refine take_ (i := 5) (N := some 31) (v := ?_) (a' := ?_) #[true, true, true, false, true, true, false, true, false, false, false, false, false, false] rfl rfl (take_ofW HT_.out HW_.out (by kernel_rfl)) (fun _ _ _ h => h) (Or.inl ⟨by rfl, ?_⟩) hHeld ?_ ?_
                            rotate_left
                            · rintro w' ⟨s0, s1, s2, s3, s4, s5⟩
                              go_simp
                              with_reducible rfl
                            rotate_left
                            · simp only [Act.put, List.setIfInBounds_toArray, List.set_cons_zero, List.set_cons_succ, i64_w, i32_w]
                              rfl
                            refine take_ (i := 8) (N := some 34) (v := ?_) (a' := ?_) #[true, true, true, false, true, true, false, true, true, false, false, false, false, false] rfl rfl (take_ofW HT_.out HW_.out (by kernel_rfl)) (fun _ _ _ h => h) (Or.inl ⟨by rfl, ?_⟩) hHeld ?_ ?_
                            rotate_left
                            · rintro w' ⟨s0, s1, s2, s3, s4, s5⟩
                              go_simp
                              with_reducible rfl
                            rotate_left
                            · simp only [Act.put, List.setIfInBounds_toArray, List.set_cons_zero, List.set_cons_succ, i64_w, i32_w]
                              rfl
                            refine one_ (i := 3) (N := some 29) #[true, true, true, true, true, true, false, true, true, false, false, false, false, false] rfl rfl (one_of HT_.out (by kernel_rfl)) (by decide) (fun K hK => ?_)
                            refine Kd.N_append_rows_step k39 (w0 := w) w.heap.size (by rfl) (.const (.slice none 0 0)) (.tmp 28) 29 39 (.agg #[(.int .i64 0), (.int .i64 0), (.slice none 0 0)]) 40 rfl Try.underlying29 info39 rfl (by decide) (by omega) (.slice none 0 0) ([] : List (S39)) y213 _ _ _ (fun k_ => (P0_ k_ ∨ w.heap.size ≤ k_) ∧ some k_ ≠ (.slice Ao12 y206.length co12 : Value).ownBlock ∧ k_ ≠ gb205 ∧ k_ ≠ gb210) (fun k_ => ((fun k_ => (P0_ k_ ∨ w.heap.size ≤ k_) ∧ some k_ ≠ (.slice Ao12 y206.length co12 : Value).ownBlock ∧ k_ ≠ gb205 ∧ k_ ≠ gb210)) k_ ∧ some k_ ≠ (.slice none 0 0 : Value).ownBlock) rfl rfl ?aO ?aR (fun _ hk => hk) ?aF ?aB ?aS ?aL ?_
                            (case aR => exact (by skip; exact Kd.V_F (Kd.V_mono (ok' := (fun k_ => ((fun k_ => (P0_ k_ ∨ w.heap.size ≤ k_) ∧ some k_ ≠ (.slice Ao12 y206.length co12 : Value).ownBlock ∧ k_ ≠ gb205 ∧ k_ ≠ gb210)) k_ ∧ some k_ ≠ (.slice none 0 0 : Value).ownBlock)) (HO217.out) (fun k_ hk => ⟨⟨hk.1, ⟨hk.2.1, ⟨hk.2.2.1, hk.2.2.2⟩⟩⟩, (by simp [Value.ownBlock])⟩))))
                            (case aB => exact (by repeat (first | (with_reducible first | exact HB.out | apply below_alloc | apply pw_below_drewN | apply below_drew1 | refine below_set ?_ GE205.out | refine below_set ?_ GE210.out) | exact HB.out)))
                            (case aF => exact (fun k_ hk => ⟨(.inr (Nat.le_trans (below_size (by repeat (first | (with_reducible first | exact HB.out | apply below_alloc | apply pw_below_drewN | apply below_drew1 | refine below_set ?_ GE205.out | refine below_set ?_ GE210.out) | exact HB.out))) hk)), Kd.fresh' (Kd.R_lt (by (with_reducible repeat (first | apply Kd.R_alloc | apply Kd.R_drewN | apply Kd.R_drew)); exact HO_206002.out)) k_ hk, Kd.freshB (g := gb205) (o := .cells #[.int .i64 a1_0, .int .i64 a1_1, .slice Ao12 y206.length co12] 39 (0, 0)) (by (with_reducible repeat (first | refine blk_drewN ?_ _ | refine blk_drew ?_ | refine blk_alloc ?_ _)); exact BK205.out) k_ hk, Kd.freshB (g := gb210) (o := .cells #[.int .i64 ((rd_T39 l0 (ji5)).f0), .int .i64 ((rd_T39 l0 (ji5)).f1), .slice A209_2 ((rd_T39 l0 (ji5)).f2).length c209_2] 39 (0, 0)) (by (with_reducible repeat (first | refine blk_drewN ?_ _ | refine blk_drew ?_ | refine blk_alloc ?_ _)); exact BK210.out) k_ hk⟩))
                            (case aO => exact ((Kd.N_nil _ _ _ _ (fun k_ => (P0_ k_ ∨ w.heap.size ≤ k_) ∧ some k_ ≠ (.slice Ao12 y206.length co12 : Value).ownBlock ∧ k_ ≠ gb205 ∧ k_ ≠ gb210))))
                            (case aS => exact (below_size (by repeat (first | (with_reducible first | exact HB.out | apply below_alloc | apply pw_below_drewN | apply below_drew1 | refine below_set ?_ GE205.out | refine below_set ?_ GE210.out) | exact HB.out))))
                            (case aL => have := LMc32.out; omega)
                            intro v219 w38 ho hb hg hat
                            rw [← Ny218.out] at ho
                            have n0_ := Aside0.mk (Kd.V_afterv (Kd.V_apart_nil (by (with_reducible repeat (first | apply Kd.V_alloc | apply Kd.V_drewN | apply Kd.V_drew)); exact HO_0.out)) hg hat)
                            have n1_ := Aside0.mk (Kd.R_grown (by (with_reducible repeat (first | apply Kd.R_alloc | apply Kd.R_drewN | apply Kd.R_drew)); exact HO_206002.out) hg (fun _ _ => by simp [Value.ownBlock]))
                            have n2_ := Aside0.mk (Kd.V_afterv (Kd.V_apart_nil (by (with_reducible repeat (first | apply Kd.V_alloc | apply Kd.V_drewN | apply Kd.V_drew)); exact HO_211002.out)) hg hat)
                            have n3_ := Aside0.mk (blk_grown (g := gb205) (o := .cells #[.int .i64 a1_0, .int .i64 a1_1, .slice Ao12 y206.length co12] 39 (0, 0)) (by (with_reducible repeat (first | refine blk_drewN ?_ _ | refine blk_drew ?_ | refine blk_alloc ?_ _)); exact BK205.out) hg (by simp [Value.ownBlock]))
                            have n4_ := Aside0.mk (blk_grown (g := gb210) (o := .cells #[.int .i64 ((rd_T39 l0 (ji5)).f0), .int .i64 ((rd_T39 l0 (ji5)).f1), .slice A209_2 ((rd_T39 l0 (ji5)).f2).length c209_2] 39 (0, 0)) (by (with_reducible repeat (first | refine blk_drewN ?_ _ | refine blk_drew ?_ | refine blk_alloc ?_ _)); exact BK210.out) hg (by simp [Value.ownBlock]))
                            have n5_ := Aside0.mk (Kd.V_afterv (Kd.V_apart_nil (by (with_reducible repeat (first | apply Kd.V_alloc | apply Kd.V_drewN | apply Kd.V_drew)); exact HO217.out)) hg hat)
                            have n6_ := Aside0.mk (hb)
                            have n7_ := Aside0.mk (ho)
                            clear HO_0
                            clear HO_206002
                            clear HO_211002
                            clear BK205
                            clear BK210
                            clear HO217
                            clear HB
                            have HO_0 := n0_
                            have HO_206002 := n1_
                            have HO_211002 := n2_
                            have BK205 := n3_
                            have BK210 := n4_
                            have HO217 := n5_
                            have HB := n6_
                            have HO220 := n7_
                            clear n0_ n1_ n2_ n3_ n4_ n5_ n6_ n7_
                            clear ho hb hg hat
                            refine hK.out _ _ ⟨(blk_cell BK210.out 0).trans rfl, (blk_cell BK210.out 1).trans rfl, (blk_cell BK210.out 2).trans rfl, (blk_cell BK205.out 0).trans rfl, (blk_cell BK205.out 1).trans rfl, (blk_cell BK205.out 2).trans rfl⟩ (fun hHeld => ?_)
                            clear hK K
                            refine norm_ (a' := ?_) ?_ ?_
                            rotate_left
                            · show Act.put _ (some 29) _ = _
                              simp only [Act.put, List.setIfInBounds_toArray, List.set_cons_zero, List.set_cons_succ, i64_w, i32_w]
                              rfl
                            refine one_ (i := 6) (N := some 32) #[true, true, true, true, true, true, true, true, true, false, false, false, false, false] rfl rfl (one_of HT_.out (by kernel_rfl)) (by decide) (fun K hK => ?_)
                            refine Kd.R_append_rows_step (Kd.int .u8) (w0 := w) w.heap.size (by rfl) (.const (.slice none 0 0)) (.tmp 31) 26 5 (.int .u8 0) 1 rfl Try.underlying26 info5 rfl (by decide) (by omega) (.slice none 0 0) ([] : List Int) ((rd_T39 l0 (ji5)).f2) _ _ _ (fun k_ => (w.heap.size ≤ k_) ∧ some k_ ≠ (.slice Ao12 y206.length co12 : Value).ownBlock) (fun _ => False) rfl rfl ?aO ?aR (fun _ _ h => h) (fun _ h => h.elim) ?aF ?aB ?aS ?aL ?_
                            (case aR => repeat (first | exact (Kd.V_reads' HO_211002.out).2.2 | (with_reducible refine Kd.C_alloc ?_ _) | (with_reducible refine Kd.C_drewN ?_ _) | (with_reducible refine Kd.C_drew ?_)))
                            (case aB => exact (by repeat (first | (with_reducible first | exact HB.out | apply below_alloc | apply pw_below_drewN | apply below_drew1 | refine below_set ?_ GE205.out | refine below_set ?_ GE210.out) | exact HB.out)))
                            (case aF => exact (fun k_ hk => ⟨(Nat.le_trans (below_size (by repeat (first | (with_reducible first | exact HB.out | apply below_alloc | apply pw_below_drewN | apply below_drew1 | refine below_set ?_ GE205.out | refine below_set ?_ GE210.out) | exact HB.out))) hk), Kd.fresh' (Kd.R_lt (by (with_reducible repeat (first | apply Kd.R_alloc | apply Kd.R_drewN | apply Kd.R_drew)); exact HO_206002.out)) k_ hk⟩))
                            (case aO => exact ((Kd.R_nil _ _ _ _ (fun k_ => (w.heap.size ≤ k_) ∧ some k_ ≠ (.slice Ao12 y206.length co12 : Value).ownBlock))))
                            (case aS => exact (below_size (by repeat (first | (with_reducible first | exact HB.out | apply below_alloc | apply pw_below_drewN | apply below_drew1 | refine below_set ?_ GE205.out | refine below_set ?_ GE210.out) | exact HB.out))))
                            (case aL => have := LMc33.out; omega)
                            intro v222 w39 ho hb hg hat
                            rw [← Ny221.out] at ho
                            have n0_ := Aside0.mk (Kd.V_afterv (Kd.V_apart_nil (by (with_reducible repeat (first | apply Kd.V_alloc | apply Kd.V_drewN | apply Kd.V_drew)); exact HO_0.out)) hg hat)
                            have n1_ := Aside0.mk (Kd.R_after (Kd.R_apart_nil (by (with_reducible repeat (first | apply Kd.R_alloc | apply Kd.R_drewN | apply Kd.R_drew)); exact HO_206002.out)) hg hat)
                            have n2_ := Aside0.mk (Kd.V_afterv (Kd.V_apart_nil (by (with_reducible repeat (first | apply Kd.V_alloc | apply Kd.V_drewN | apply Kd.V_drew)); exact HO_211002.out)) hg hat)
                            have n3_ := Aside0.mk (blk_grown (g := gb205) (o := .cells #[.int .i64 a1_0, .int .i64 a1_1, .slice Ao12 y206.length co12] 39 (0, 0)) (by (with_reducible repeat (first | refine blk_drewN ?_ _ | refine blk_drew ?_ | refine blk_alloc ?_ _)); exact BK205.out) hg (by simp [Value.ownBlock]))
                            have n4_ := Aside0.mk (blk_grown (g := gb210) (o := .cells #[.int .i64 ((rd_T39 l0 (ji5)).f0), .int .i64 ((rd_T39 l0 (ji5)).f1), .slice A209_2 ((rd_T39 l0 (ji5)).f2).length c209_2] 39 (0, 0)) (by (with_reducible repeat (first | refine blk_drewN ?_ _ | refine blk_drew ?_ | refine blk_alloc ?_ _)); exact BK210.out) hg (by simp [Value.ownBlock]))
                            have n5_ := Aside0.mk (Kd.V_afterv (Kd.V_apart_nil (by (with_reducible repeat (first | apply Kd.V_alloc | apply Kd.V_drewN | apply Kd.V_drew)); exact HO217.out)) hg hat)
                            have n6_ := Aside0.mk (Kd.N_afterv (Kd.N_apart_nil (by (with_reducible repeat (first | apply Kd.N_alloc | apply Kd.N_drewN | apply Kd.N_drew)); exact HO220.out)) hg hat)
                            have n7_ := Aside0.mk (hb)
                            have n8_ := Aside0.mk (ho)
                            clear HO_0
                            clear HO_206002
                            clear HO_211002
                            clear BK205
                            clear BK210
                            clear HO217
                            clear HO220
                            clear HB
                            have HO_0 := n0_
                            have HO_206002 := n1_
                            have HO_211002 := n2_
                            have BK205 := n3_
                            have BK210 := n4_
                            have HO217 := n5_
                            have HO220 := n6_
                            have HB := n7_
                            have HO223 := n8_
                            clear n0_ n1_ n2_ n3_ n4_ n5_ n6_ n7_ n8_
                            clear ho hb hg hat
                            refine hK.out _ _ ⟨(blk_cell BK210.out 0).trans rfl, (blk_cell BK210.out 1).trans rfl, (blk_cell BK210.out 2).trans rfl, (blk_cell BK205.out 0).trans rfl, (blk_cell BK205.out 1).trans rfl, (blk_cell BK205.out 2).trans rfl⟩ (fun hHeld => ?_)
                            clear hK K
                            refine norm_ (a' := ?_) ?_ ?_
                            rotate_left
                            · show Act.put _ (some 32) _ = _
                              simp only [Act.put, List.setIfInBounds_toArray, List.set_cons_zero, List.set_cons_succ, i64_w, i32_w]
                              rfl
                            refine one_ (i := 9) (N := some 35) #[true, true, true, true, true, true, true, true, true, true, false, false, false, false] rfl rfl (one_of HT_.out (by kernel_rfl)) (by decide) (fun K hK => ?_)
                            refine Kd.R_append_rows_step (Kd.int .u8) (w0 := w) w.heap.size (by rfl) (.tmp 32) (.tmp 34) 26 5 (.int .u8 0) 1 rfl Try.underlying26 info5 rfl (by decide) (by omega) v222 y221 y206 _ _ _ (fun k_ => (w.heap.size ≤ k_) ∧ some k_ ≠ (.slice Ao12 y206.length co12 : Value).ownBlock) (fun _ => False) rfl rfl ?aO ?aR (fun _ _ h => h) (fun _ h => h.elim) ?aF ?aB ?aS ?aL ?_
                            (case aR => repeat (first | exact (Kd.R_reads' HO_206002.out).2.2 | (with_reducible refine Kd.C_alloc ?_ _) | (with_reducible refine Kd.C_drewN ?_ _) | (with_reducible refine Kd.C_drew ?_)))
                            (case aB => exact (by repeat (first | (with_reducible first | exact HB.out | apply below_alloc | apply pw_below_drewN | apply below_drew1 | refine below_set ?_ GE205.out | refine below_set ?_ GE210.out) | exact HB.out)))
                            (case aF => exact (fun k_ hk => ⟨(Nat.le_trans (below_size (by repeat (first | (with_reducible first | exact HB.out | apply below_alloc | apply pw_below_drewN | apply below_drew1 | refine below_set ?_ GE205.out | refine below_set ?_ GE210.out) | exact HB.out))) hk), Kd.fresh' (Kd.R_lt (by (with_reducible repeat (first | apply Kd.R_alloc | apply Kd.R_drewN | apply Kd.R_drew)); exact HO_206002.out)) k_ hk⟩))
                            (case aO => exact (by (with_reducible repeat (first | apply Kd.R_alloc | apply Kd.R_drewN | apply Kd.R_drew)); exact HO223.out))
                            (case aS => exact (below_size (by repeat (first | (with_reducible first | exact HB.out | apply below_alloc | apply pw_below_drewN | apply below_drew1 | refine below_set ?_ GE205.out | refine below_set ?_ GE210.out) | exact HB.out))))
                            (case aL => have := LMc34.out; omega)
                            intro v225 w40 ho hb hg hat
                            rw [← Ny224.out] at ho
                            have n0_ := Aside0.mk (Kd.V_afterv (ok := (fun k_ => (P0_ k_ ∨ w.heap.size ≤ k_) ∧ some k_ ≠ (.slice Ao12 y206.length co12 : Value).ownBlock ∧ some k_ ≠ (v219 : Value).ownBlock ∧ k_ ≠ gb205 ∧ k_ ≠ gb210)) (by (with_reducible repeat (first | apply Kd.V_alloc | apply Kd.V_drewN | apply Kd.V_drew)); exact Kd.V_mono HO_0.out (fun _ hk => ⟨⟨hk.1.1.1, ⟨hk.1.1.2.1, ⟨hk.1.2, ⟨hk.1.1.2.2.1, hk.1.1.2.2.2⟩⟩⟩⟩, hk.2⟩)) hg hat)
                            have n1_ := Aside0.mk (Kd.R_after (ok := (fun k_ => (w.heap.size ≤ k_))) (by (with_reducible repeat (first | apply Kd.R_alloc | apply Kd.R_drewN | apply Kd.R_drew)); exact HO_206002.out) hg hat)
                            have n2_ := Aside0.mk (Kd.V_afterv (ok := (fun k_ => (P0_ k_ ∨ w.heap.size ≤ k_) ∧ some k_ ≠ (.slice Ao12 y206.length co12 : Value).ownBlock ∧ some k_ ≠ (v219 : Value).ownBlock ∧ k_ ≠ gb205 ∧ k_ ≠ gb210)) (by (with_reducible repeat (first | apply Kd.V_alloc | apply Kd.V_drewN | apply Kd.V_drew)); exact Kd.V_mono HO_211002.out (fun _ hk => ⟨⟨hk.1.1.1, ⟨hk.1.1.2.1, ⟨hk.1.2, ⟨hk.1.1.2.2.1, hk.1.1.2.2.2⟩⟩⟩⟩, hk.2⟩)) hg hat)
                            have n3_ := Aside0.mk (blk_grown (g := gb205) (o := .cells #[.int .i64 a1_0, .int .i64 a1_1, .slice Ao12 y206.length co12] 39 (0, 0)) (by (with_reducible repeat (first | refine blk_drewN ?_ _ | refine blk_drew ?_ | refine blk_alloc ?_ _)); exact BK205.out) hg (Kd.R_ne HO223.out BK205.out (by decide)))
                            have n4_ := Aside0.mk (blk_grown (g := gb210) (o := .cells #[.int .i64 ((rd_T39 l0 (ji5)).f0), .int .i64 ((rd_T39 l0 (ji5)).f1), .slice A209_2 ((rd_T39 l0 (ji5)).f2).length c209_2] 39 (0, 0)) (by (with_reducible repeat (first | refine blk_drewN ?_ _ | refine blk_drew ?_ | refine blk_alloc ?_ _)); exact BK210.out) hg (Kd.R_ne HO223.out BK210.out (by decide)))
                            have n5_ := Aside0.mk (Kd.V_afterv (ok := (fun k_ => (P0_ k_ ∨ w.heap.size ≤ k_) ∧ some k_ ≠ (.slice Ao12 y206.length co12 : Value).ownBlock ∧ some k_ ≠ (v219 : Value).ownBlock ∧ k_ ≠ gb205 ∧ k_ ≠ gb210)) (by (with_reducible repeat (first | apply Kd.V_alloc | apply Kd.V_drewN | apply Kd.V_drew)); exact Kd.V_mono HO217.out (fun _ hk => ⟨⟨hk.1.1.1, ⟨hk.1.1.2.1, ⟨hk.1.2, ⟨hk.1.1.2.2.1, hk.1.1.2.2.2⟩⟩⟩⟩, hk.2⟩)) hg hat)
                            have n6_ := Aside0.mk (Kd.N_afterv (ok := (fun k_ => (P0_ k_ ∨ w.heap.size ≤ k_) ∧ some k_ ≠ (.slice Ao12 y206.length co12 : Value).ownBlock ∧ k_ ≠ gb205 ∧ k_ ≠ gb210)) (by (with_reducible repeat (first | apply Kd.N_alloc | apply Kd.N_drewN | apply Kd.N_drew)); exact HO220.out) hg hat)
                            have n7_ := Aside0.mk (hb)
                            have n8_ := Aside0.mk (ho)
                            clear HO_0
                            clear HO_206002
                            clear HO_211002
                            clear BK205
                            clear BK210
                            clear HO217
                            clear HO220
                            clear HB
                            clear HO223
                            have HO_0 := n0_
                            have HO_206002 := n1_
                            have HO_211002 := n2_
                            have BK205 := n3_
                            have BK210 := n4_
                            have HO217 := n5_
                            have HO220 := n6_
                            have HB := n7_
                            have HO226 := n8_
                            clear n0_ n1_ n2_ n3_ n4_ n5_ n6_ n7_ n8_
                            clear ho hb hg hat
                            obtain ⟨Ao41, co41, eo41⟩ := Kd.R_slice HO226.out
                            (first | subst eo41 | (injection eo41 with f1_ f2_ f3_; have f4_ := f1_.symm; have f5_ := f3_.symm; clear f1_ f2_ f3_; subst f4_; subst f5_))
                            refine hK.out _ _ ⟨(blk_cell BK210.out 0).trans rfl, (blk_cell BK210.out 1).trans rfl, (blk_cell BK210.out 2).trans rfl, (blk_cell BK205.out 0).trans rfl, (blk_cell BK205.out 1).trans rfl, (blk_cell BK205.out 2).trans rfl⟩ (fun hHeld => ?_)
                            clear hK K
                            refine norm_ (a' := ?_) ?_ ?_
                            rotate_left
                            · show Act.put _ (some 35) _ = _
                              simp only [Act.put, List.setIfInBounds_toArray, List.set_cons_zero, List.set_cons_succ, i64_w, i32_w]
                              rfl
                            refine pure_ (i := 10) (N := some 36) (v := ?_) (a' := ?_) #[true, true, true, true, true, true, true, true, true, true, true, false, false, false] rfl rfl (any_of HT_.out (by kernel_rfl)) (fun _ _ _ h => h) (Or.inl ⟨by rfl, ?_⟩) ?_ ?_
                            rotate_left
                            · intro w'
                              go_simp
                              with_reducible rfl
                            rotate_left
                            · simp only [Act.put, List.setIfInBounds_toArray, List.set_cons_zero, List.set_cons_succ, i64_w, i32_w]
                              rfl
                            refine one_ (i := 11) (N := some 37) #[true, true, true, true, true, true, true, true, true, true, true, true, false, false] rfl rfl (one_of HT_.out (by kernel_rfl)) (by decide) (fun K hK => ?_)
                            refine Kd.N_lit_step k39 _ 39 ?hg (N' := 37) ?hd (xs := ([(⟨0, 0, y224⟩ : S39)] : List (S39))) (inner := [.int .i64 0, .int .i64 0, .slice Ao41 y224.length co41]) (ok := (fun k_ => (P0_ k_ ∨ w.heap.size ≤ k_) ∧ some k_ ≠ (.slice Ao12 y206.length co12 : Value).ownBlock ∧ some k_ ≠ (v219 : Value).ownBlock ∧ k_ ≠ gb205 ∧ k_ ≠ gb210)) (okp := (fun k_ => (P0_ k_ ∨ w.heap.size ≤ k_) ∧ some k_ ≠ (.slice Ao12 y206.length co12 : Value).ownBlock ∧ some k_ ≠ (v219 : Value).ownBlock ∧ k_ ≠ gb205 ∧ k_ ≠ gb210)) ?hr ?hp (fun _ hk => hk) ((show ∀ k_, w40.heap.size ≤ k_ → (fun k_ => (P0_ k_ ∨ w.heap.size ≤ k_) ∧ some k_ ≠ (.slice Ao12 y206.length co12 : Value).ownBlock ∧ some k_ ≠ (v219 : Value).ownBlock ∧ k_ ≠ gb205 ∧ k_ ≠ gb210) k_ from fun k_ hk => ⟨(.inr (Nat.le_trans (below_size (by repeat (first | (with_reducible first | exact HB.out | apply below_alloc | apply pw_below_drewN | apply below_drew1 | refine below_set ?_ GE205.out | refine below_set ?_ GE210.out) | exact HB.out))) hk)), Kd.fresh' (Kd.R_lt (by (with_reducible repeat (first | apply Kd.R_alloc | apply Kd.R_drewN | apply Kd.R_drew)); exact HO_206002.out)) k_ hk, Kd.fresh' (Kd.N_lt (by (with_reducible repeat (first | apply Kd.N_alloc | apply Kd.N_drewN | apply Kd.N_drew)); exact HO220.out)) k_ hk, Kd.freshB (g := gb205) (o := .cells #[.int .i64 a1_0, .int .i64 a1_1, .slice Ao12 y206.length co12] 39 (0, 0)) (by (with_reducible repeat (first | refine blk_drewN ?_ _ | refine blk_drew ?_ | refine blk_alloc ?_ _)); exact BK205.out) k_ hk, Kd.freshB (g := gb210) (o := .cells #[.int .i64 ((rd_T39 l0 (ji5)).f0), .int .i64 ((rd_T39 l0 (ji5)).f1), .slice A209_2 ((rd_T39 l0 (ji5)).f2).length c209_2] 39 (0, 0)) (by (with_reducible repeat (first | refine blk_drewN ?_ _ | refine blk_drew ?_ | refine blk_alloc ?_ _)); exact BK210.out) k_ hk⟩) _ (Nat.le_refl _)) (Below.refl _ _) (Nat.le_refl _) (by simp) ?_; (case hd => rfl); (case hg => rfl); (case hr => first | (go_simp; done) | (go_simp; rfl)); (case hp => exact (Reps.c3 (show Kd.FK k39 _ _ (⟨0, 0, y224⟩ : S39) [.int .i64 0, .int .i64 0, .slice Ao41 y224.length co41] from (k39_mkF _ _ (⟨0, 0, y224⟩ : S39) (Kd.R_reads' (Kd.R_mono (ok' := (fun k_ => (P0_ k_ ∨ w.heap.size ≤ k_) ∧ some k_ ≠ (.slice Ao12 y206.length co12 : Value).ownBlock ∧ some k_ ≠ (v219 : Value).ownBlock ∧ k_ ≠ gb205 ∧ k_ ≠ gb210)) (Kd.R_types (Kd.R_types (Kd.R_apart' (HO226.out) (Kd.N_typed HO220.out) (by decide)) BK205.out (by decide)) BK210.out (by decide)) (fun k_ hk => ⟨(.inr (hk.1.1.1.1)), ⟨hk.1.1.1.2, ⟨hk.1.1.2, ⟨hk.1.2, hk.2⟩⟩⟩⟩))).2.1 (Kd.R_F (Kd.R_mono (ok' := (fun k_ => (P0_ k_ ∨ w.heap.size ≤ k_) ∧ some k_ ≠ (.slice Ao12 y206.length co12 : Value).ownBlock ∧ some k_ ≠ (v219 : Value).ownBlock ∧ k_ ≠ gb205 ∧ k_ ≠ gb210)) (Kd.R_types (Kd.R_types (Kd.R_apart' (HO226.out) (Kd.N_typed HO220.out) (by decide)) BK205.out (by decide)) BK210.out (by decide)) (fun k_ hk => ⟨(.inr (hk.1.1.1.1)), ⟨hk.1.1.1.2, ⟨hk.1.1.2, ⟨hk.1.2, hk.2⟩⟩⟩⟩))))) (Reps.none _ _)))
                            intro v228 w42 ho43 hb hg_ hnew_
                            clear hg_ hnew_
                            (first | rw [← Ny227.out] at ho43 | (simp only [Int.reduceToNat] at ho43; rw [← Ny227.out] at ho43))
                            have n0_ := Aside0.mk (Kd.V_elder' (by (with_reducible repeat (first | apply Kd.V_alloc | apply Kd.V_drewN | apply Kd.V_drew)); exact HO_0.out) (Kd.N_base ho43) hb)
                            have n1_ := Aside0.mk (Kd.R_below (by (with_reducible repeat (first | apply Kd.R_alloc | apply Kd.R_drewN | apply Kd.R_drew)); exact HO_206002.out) hb)
                            have n2_ := Aside0.mk (Kd.V_elder' (by (with_reducible repeat (first | apply Kd.V_alloc | apply Kd.V_drewN | apply Kd.V_drew)); exact HO_211002.out) (Kd.N_base ho43) hb)
                            have n3_ := Aside0.mk (Kd.V_elder' (by (with_reducible repeat (first | apply Kd.V_alloc | apply Kd.V_drewN | apply Kd.V_drew)); exact HO217.out) (Kd.N_base ho43) hb)
                            have n4_ := Aside0.mk (Kd.N_elder' (by (with_reducible repeat (first | apply Kd.N_alloc | apply Kd.N_drewN | apply Kd.N_drew)); exact HO220.out) (Kd.N_base ho43) hb)
                            have n5_ := Aside0.mk (Kd.N_lower ho43 (below_size (by repeat (first | (with_reducible first | exact HB.out | apply below_alloc | apply pw_below_drewN | apply below_drew1 | refine below_set ?_ GE205.out | refine below_set ?_ GE210.out) | exact HB.out))))
                            have n6_ := Aside0.mk (blk_below (g := gb205) (o := .cells #[.int .i64 a1_0, .int .i64 a1_1, .slice Ao12 y206.length co12] 39 (0, 0)) (by (with_reducible repeat (first | refine blk_drewN ?_ _ | refine blk_drew ?_ | refine blk_alloc ?_ _)); exact BK205.out) hb)
                            have n7_ := Aside0.mk (blk_below (g := gb210) (o := .cells #[.int .i64 ((rd_T39 l0 (ji5)).f0), .int .i64 ((rd_T39 l0 (ji5)).f1), .slice A209_2 ((rd_T39 l0 (ji5)).f2).length c209_2] 39 (0, 0)) (by (with_reducible repeat (first | refine blk_drewN ?_ _ | refine blk_drew ?_ | refine blk_alloc ?_ _)); exact BK210.out) hb)
                            have n8_ := Aside0.mk (below_step (by repeat (first | (with_reducible first | exact HB.out | apply below_alloc | apply pw_below_drewN | apply below_drew1 | refine below_set ?_ GE205.out | refine below_set ?_ GE210.out) | exact HB.out)) hb)
                            clear HO_0
                            clear HO_206002
                            clear HO_211002
                            clear HO217
                            clear HO220
                            clear BK205
                            clear BK210
                            clear HB
                            clear HO226
                            have HO_0 := n0_
                            have HO_206002 := n1_
                            have HO_211002 := n2_
                            have HO217 := n3_
                            have HO220 := n4_
                            have HO229 := n5_
                            have BK205 := n6_
                            have BK210 := n7_
                            have HB := n8_
                            clear n0_ n1_ n2_ n3_ n4_ n5_ n6_ n7_ n8_
                            clear hb ho43
                            obtain ⟨Ao45, co45, eo45⟩ := Kd.N_slice HO229.out
                            (first | subst eo45 | (injection eo45 with f1_ f2_ f3_; have f4_ := f1_.symm; have f5_ := f3_.symm; clear f1_ f2_ f3_; subst f4_; subst f5_))
                            refine hK.out _ _ ⟨(blk_cell BK210.out 0).trans rfl, (blk_cell BK210.out 1).trans rfl, (blk_cell BK210.out 2).trans rfl, (blk_cell BK205.out 0).trans rfl, (blk_cell BK205.out 1).trans rfl, (blk_cell BK205.out 2).trans rfl⟩ (fun hHeld => ?_)
                            clear hK K
                            refine norm_ (a' := ?_) ?_ ?_
                            rotate_left
                            · show Act.put _ (some 37) _ = _
                              simp only [Act.put, List.setIfInBounds_toArray, List.set_cons_zero, List.set_cons_succ, i64_w, i32_w]
                              rfl
                            refine one_ (i := 12) (N := some 38) #[true, true, true, true, true, true, true, true, true, true, true, true, true, false] rfl rfl (one_of HT_.out (by kernel_rfl)) (by decide) (fun K hK => ?_)
                            refine Kd.N_append_rows_step k39 (w0 := w) w.heap.size (by rfl) (.tmp 29) (.tmp 37) 29 39 (.agg #[(.int .i64 0), (.int .i64 0), (.slice none 0 0)]) 40 rfl Try.underlying29 info39 rfl (by decide) (by omega) v219 y218 y227 _ _ _ (fun k_ => (P0_ k_ ∨ w.heap.size ≤ k_) ∧ some k_ ≠ (.slice Ao12 y206.length co12 : Value).ownBlock ∧ k_ ≠ gb205 ∧ k_ ≠ gb210) (fun k_ => ((fun k_ => (P0_ k_ ∨ w.heap.size ≤ k_) ∧ some k_ ≠ (.slice Ao12 y206.length co12 : Value).ownBlock ∧ k_ ≠ gb205 ∧ k_ ≠ gb210)) k_ ∧ some k_ ≠ (v219 : Value).ownBlock) rfl rfl ?aO ?aR (fun _ hk => hk) ?aF ?aB ?aS ?aL ?_
                            (case aR => exact (by skip; exact Kd.N_F (Kd.N_mono (ok' := (fun k_ => ((fun k_ => (P0_ k_ ∨ w.heap.size ≤ k_) ∧ some k_ ≠ (.slice Ao12 y206.length co12 : Value).ownBlock ∧ k_ ≠ gb205 ∧ k_ ≠ gb210)) k_ ∧ some k_ ≠ (v219 : Value).ownBlock)) (HO229.out) (fun k_ hk => ⟨⟨hk.1, ⟨hk.2.1, ⟨hk.2.2.2.1, hk.2.2.2.2⟩⟩⟩, hk.2.2.1⟩))))
                            (case aB => exact (by repeat (first | (with_reducible first | exact HB.out | apply below_alloc | apply pw_below_drewN | apply below_drew1 | refine below_set ?_ GE205.out | refine below_set ?_ GE210.out) | exact HB.out)))
                            (case aF => exact (fun k_ hk => ⟨(.inr (Nat.le_trans (below_size (by repeat (first | (with_reducible first | exact HB.out | apply below_alloc | apply pw_below_drewN | apply below_drew1 | refine below_set ?_ GE205.out | refine below_set ?_ GE210.out) | exact HB.out))) hk)), Kd.fresh' (Kd.R_lt (by (with_reducible repeat (first | apply Kd.R_alloc | apply Kd.R_drewN | apply Kd.R_drew)); exact HO_206002.out)) k_ hk, Kd.freshB (g := gb205) (o := .cells #[.int .i64 a1_0, .int .i64 a1_1, .slice Ao12 y206.length co12] 39 (0, 0)) (by (with_reducible repeat (first | refine blk_drewN ?_ _ | refine blk_drew ?_ | refine blk_alloc ?_ _)); exact BK205.out) k_ hk, Kd.freshB (g := gb210) (o := .cells #[.int .i64 ((rd_T39 l0 (ji5)).f0), .int .i64 ((rd_T39 l0 (ji5)).f1), .slice A209_2 ((rd_T39 l0 (ji5)).f2).length c209_2] 39 (0, 0)) (by (with_reducible repeat (first | refine blk_drewN ?_ _ | refine blk_drew ?_ | refine blk_alloc ?_ _)); exact BK210.out) k_ hk⟩))
                            (case aO => exact (by (with_reducible repeat (first | apply Kd.N_alloc | apply Kd.N_drewN | apply Kd.N_drew)); exact Kd.N_mono HO220.out (fun _ hk => ⟨hk.1.1.1, ⟨hk.1.1.2.1, ⟨hk.1.1.2.2.1, hk.1.1.2.2.2⟩⟩⟩)))
                            (case aS => exact (below_size (by repeat (first | (with_reducible first | exact HB.out | apply below_alloc | apply pw_below_drewN | apply below_drew1 | refine below_set ?_ GE205.out | refine below_set ?_ GE210.out) | exact HB.out))))
                            (case aL => have := LMc35.out; omega)
                            intro v231 w44 ho hb hg hat
                            rw [← Ny230.out] at ho
                            have n0_ := Aside0.mk (Kd.V_afterv (ok := (fun k_ => (P0_ k_ ∨ w.heap.size ≤ k_) ∧ some k_ ≠ (.slice Ao12 y206.length co12 : Value).ownBlock ∧ some k_ ≠ (.slice Ao45 y227.length co45 : Value).ownBlock ∧ k_ ≠ gb205 ∧ k_ ≠ gb210)) (by (with_reducible repeat (first | apply Kd.V_alloc | apply Kd.V_drewN | apply Kd.V_drew)); exact Kd.V_mono HO_0.out (fun _ hk => ⟨⟨hk.1.1.1, ⟨hk.1.1.2.1, ⟨hk.2, ⟨hk.1.1.2.2.2.1, hk.1.1.2.2.2.2⟩⟩⟩⟩, hk.1.1.2.2.1⟩)) hg hat)
                            have n1_ := Aside0.mk (Kd.R_over' (by (with_reducible repeat (first | apply Kd.R_alloc | apply Kd.R_drewN | apply Kd.R_drew)); exact HO_206002.out) (Kd.N_typed (by (with_reducible repeat (first | apply Kd.N_alloc | apply Kd.N_drewN | apply Kd.N_drew)); exact HO220.out)) (by decide) hg)
                            have n2_ := Aside0.mk (Kd.V_afterv (ok := (fun k_ => (P0_ k_ ∨ w.heap.size ≤ k_) ∧ some k_ ≠ (.slice Ao12 y206.length co12 : Value).ownBlock ∧ some k_ ≠ (.slice Ao45 y227.length co45 : Value).ownBlock ∧ k_ ≠ gb205 ∧ k_ ≠ gb210)) (by (with_reducible repeat (first | apply Kd.V_alloc | apply Kd.V_drewN | apply Kd.V_drew)); exact Kd.V_mono HO_211002.out (fun _ hk => ⟨⟨hk.1.1.1, ⟨hk.1.1.2.1, ⟨hk.2, ⟨hk.1.1.2.2.2.1, hk.1.1.2.2.2.2⟩⟩⟩⟩, hk.1.1.2.2.1⟩)) hg hat)
                            have n3_ := Aside0.mk (blk_grown (g := gb205) (o := .cells #[.int .i64 a1_0, .int .i64 a1_1, .slice Ao12 y206.length co12] 39 (0, 0)) (by (with_reducible repeat (first | refine blk_drewN ?_ _ | refine blk_drew ?_ | refine blk_alloc ?_ _)); exact BK205.out) hg (Kd.N_away HO220.out (fun _ hk => hk.1.1.2.2.1)))
                            have n4_ := Aside0.mk (blk_grown (g := gb210) (o := .cells #[.int .i64 ((rd_T39 l0 (ji5)).f0), .int .i64 ((rd_T39 l0 (ji5)).f1), .slice A209_2 ((rd_T39 l0 (ji5)).f2).length c209_2] 39 (0, 0)) (by (with_reducible repeat (first | refine blk_drewN ?_ _ | refine blk_drew ?_ | refine blk_alloc ?_ _)); exact BK210.out) hg (Kd.N_away HO220.out (fun _ hk => hk.1.1.2.2.2)))
                            have n5_ := Aside0.mk (Kd.V_afterv (ok := (fun k_ => (P0_ k_ ∨ w.heap.size ≤ k_) ∧ some k_ ≠ (.slice Ao12 y206.length co12 : Value).ownBlock ∧ some k_ ≠ (.slice Ao45 y227.length co45 : Value).ownBlock ∧ k_ ≠ gb205 ∧ k_ ≠ gb210)) (by (with_reducible repeat (first | apply Kd.V_alloc | apply Kd.V_drewN | apply Kd.V_drew)); exact Kd.V_mono HO217.out (fun _ hk => ⟨⟨hk.1.1.1, ⟨hk.1.1.2.1, ⟨hk.2, ⟨hk.1.1.2.2.2.1, hk.1.1.2.2.2.2⟩⟩⟩⟩, hk.1.1.2.2.1⟩)) hg hat)
                            have n6_ := Aside0.mk (Kd.N_afterv (ok := (fun k_ => (P0_ k_ ∨ w.heap.size ≤ k_) ∧ some k_ ≠ (.slice Ao12 y206.length co12 : Value).ownBlock ∧ k_ ≠ gb205 ∧ k_ ≠ gb210)) (by (with_reducible repeat (first | apply Kd.N_alloc | apply Kd.N_drewN | apply Kd.N_drew)); exact Kd.N_mono HO229.out (fun _ hk => ⟨⟨hk.1, ⟨hk.2.1, ⟨hk.2.2.2.1, hk.2.2.2.2⟩⟩⟩, hk.2.2.1⟩)) hg hat)
                            have n7_ := Aside0.mk (hb)
                            have n8_ := Aside0.mk (ho)
                            clear HO_0
                            clear HO_206002
                            clear HO_211002
                            clear BK205
                            clear BK210
                            clear HO217
                            clear HO229
                            clear HB
                            clear HO220
                            have HO_0 := n0_
                            have HO_206002 := n1_
                            have HO_211002 := n2_
                            have BK205 := n3_
                            have BK210 := n4_
                            have HO217 := n5_
                            have HO229 := n6_
                            have HB := n7_
                            have HO232 := n8_
                            clear n0_ n1_ n2_ n3_ n4_ n5_ n6_ n7_ n8_
                            clear ho hb hg hat
                            refine hK.out _ _ ⟨(blk_cell BK210.out 0).trans rfl, (blk_cell BK210.out 1).trans rfl, (blk_cell BK210.out 2).trans rfl, (blk_cell BK205.out 0).trans rfl, (blk_cell BK205.out 1).trans rfl, (blk_cell BK205.out 2).trans rfl⟩ (fun hHeld => ?_)
                            clear hK K
                            refine norm_ (a' := ?_) ?_ ?_
                            rotate_left
                            · show Act.put _ (some 38) _ = _
                              simp only [Act.put, List.setIfInBounds_toArray, List.set_cons_zero, List.set_cons_succ, i64_w, i32_w]
                              rfl
                            refine pure_ (i := 13) (N := some 4) (v := ?_) (a' := ?_) #[true, true, true, true, true, true, true, true, true, true, true, true, true, true] rfl rfl (any_of HT_.out (by kernel_rfl)) (fun _ _ _ h => h) (Or.inl ⟨by rfl, ?_⟩) ?_ ?_
                            rotate_left
                            · intro w'
                              go_simp
                              with_reducible rfl
                            rotate_left
                            · simp only [Act.put, List.setIfInBounds_toArray, List.set_cons_zero, List.set_cons_succ, i64_w, i32_w]
                              rfl
                            refine done_ (done_of HT_.out (by kernel_rfl)) ?_
                            try go_wp2
                            go_ret
                            exact ⟨_, by first | rfl | (simp [errW_none, errW_some] <;> rfl) | (simp only [← hji5]; first | rfl | (simp [errW_none, errW_some] <;> rfl)) | (simp [*, errW_none, errW_some] <;> rfl), by (with_reducible repeat (first | apply Kd.N_alloc | apply Kd.N_drewN | apply Kd.N_drew)); exact Kd.N_mono HO232.out (fun _ hk => hk.1), by repeat (first | (with_reducible first | exact HB.out | apply below_alloc | apply pw_below_drewN | apply below_drew1 | refine below_set ?_ GE205.out | refine below_set ?_ GE210.out) | exact HB.out)⟩
                          · rw [if_neg c35] at H
                            exact absurd H (by simp)
                        · rw [if_neg c34] at H
                          exact absurd H (by simp)
                      · rw [if_neg c33] at H
                        exact absurd H (by simp)
                    · rw [if_neg c32] at H
                      exact absurd H (by simp)
                  · rw [if_neg c31] at H
                    exact absurd H (by simp)
                · rw [if_neg c30] at H
                  exact absurd H (by simp)
              · replace c29 := Bool.eq_false_iff.mpr c29
                subst c29
                have H1 : ((ref26_Copies.f ((rd_T39 l0 (ji5)).f0) ((rd_T39 l0 (ji5)).f1) ((rd_T39 l0 (ji5)).f2)).bind fun t233 => (if t233 = true then ((ref26_Copies.f a1_0 a1_1 y206).bind fun t234 => (if t234 = true then (ref26_Add.j1 kj7 l0 ji5 ((wrap64 (((rd_T39 l0 (ji5)).f0) + ((rd_T39 l0 (ji5)).f1))) == a1_0) a1_0 a1_1 y206 ((rd_T39 l0 (ji5)).f0) ((rd_T39 l0 (ji5)).f1) ((rd_T39 l0 (ji5)).f2)) else (ref26_Add.j1 kj7 l0 ji5 false a1_0 a1_1 y206 ((rd_T39 l0 (ji5)).f0) ((rd_T39 l0 (ji5)).f1) ((rd_T39 l0 (ji5)).f2)))) else (ref26_Add.j1 kj7 l0 ji5 false a1_0 a1_1 y206 ((rd_T39 l0 (ji5)).f0) ((rd_T39 l0 (ji5)).f1) ((rd_T39 l0 (ji5)).f2)))) = some r := by rw [if_neg (show ¬ (false = true) by decide)] at H; exact H
                clear H
                have H := H1
                clear H1
                have HC46 := Aside0.mk H
                clear H
                go_upto_region 7 with (fail)
                go_cut [54] (fun v54 wc => ∃ (kq : Nat) (x54_45 : Bool), v54 = .bool x54_45 ∧ Aside0 (ref26_Add.j1 kq l0 ji5 x54_45 a1_0 a1_1 y206 ((rd_T39 l0 (ji5)).f0) ((rd_T39 l0 (ji5)).f1) ((rd_T39 l0 (ji5)).f2) = some r) ∧ Aside0 (kq ≤ kj7) ∧ Aside0 (Kd.V k39 39 wc w.heap.size (fun k_ => (P0_ k_ ∨ w.heap.size ≤ k_) ∧ some k_ ≠ ((.slice Ao12 y206.length co12) : Value).ownBlock ∧ k_ ≠ gb205 ∧ k_ ≠ gb210) (.slice (some ad209) l0.length c0) l0) ∧ Aside0 (Kd.R (Kd.int .u8) 5 wc w.heap.size (fun k_ => (w.heap.size ≤ k_)) (.slice Ao12 y206.length co12) y206) ∧ Aside0 (Kd.V (Kd.int .u8) 5 wc w.heap.size (fun k_ => (P0_ k_ ∨ w.heap.size ≤ k_) ∧ some k_ ≠ ((.slice Ao12 y206.length co12) : Value).ownBlock ∧ k_ ≠ gb205 ∧ k_ ≠ gb210) (.slice A209_2 ((rd_T39 l0 (ji5)).f2).length c209_2) ((rd_T39 l0 (ji5)).f2)) ∧ Aside0 (wc.heap[gb205]? = some (.cells #[.int .i64 a1_0, .int .i64 a1_1, (.slice Ao12 y206.length co12)] 39 (0, 0))) ∧ Aside0 (wc.heap[gb210]? = some (.cells #[.int .i64 ((rd_T39 l0 (ji5)).f0), .int .i64 ((rd_T39 l0 (ji5)).f1), (.slice A209_2 ((rd_T39 l0 (ji5)).f2).length c209_2)] 39 (0, 0))) ∧ Aside0 (Kd.C (Kd.int .u8) wc A209_2 ((rd_T39 l0 (ji5)).f2).length ((rd_T39 l0 (ji5)).f2)) ∧ Aside0 (Below w.heap.size w wc))
                case first =>
                  have H := HC46.out
                  clear HC46
                  replace H := Option.bind_eq_some_iff.mp H
                  obtain ⟨t233, A470, H⟩ := H
                  replace H : (if t233 = true then ((ref26_Copies.f a1_0 a1_1 y206).bind fun t234 => (if t234 = true then (ref26_Add.j1 kj7 l0 ji5 ((wrap64 (((rd_T39 l0 (ji5)).f0) + ((rd_T39 l0 (ji5)).f1))) == a1_0) a1_0 a1_1 y206 ((rd_T39 l0 (ji5)).f0) ((rd_T39 l0 (ji5)).f1) ((rd_T39 l0 (ji5)).f2)) else (ref26_Add.j1 kj7 l0 ji5 false a1_0 a1_1 y206 ((rd_T39 l0 (ji5)).f0) ((rd_T39 l0 (ji5)).f1) ((rd_T39 l0 (ji5)).f2)))) else (ref26_Add.j1 kj7 l0 ji5 false a1_0 a1_1 y206 ((rd_T39 l0 (ji5)).f0) ((rd_T39 l0 (ji5)).f1) ((rd_T39 l0 (ji5)).f2))) = some r := H
                  have A47 := Aside0.mk A470
                  clear A470
                  by_cases c48 : t233 = true
                  · subst c48
                    have H1 : ((ref26_Copies.f a1_0 a1_1 y206).bind fun t234 => (if t234 = true then (ref26_Add.j1 kj7 l0 ji5 ((wrap64 (((rd_T39 l0 (ji5)).f0) + ((rd_T39 l0 (ji5)).f1))) == a1_0) a1_0 a1_1 y206 ((rd_T39 l0 (ji5)).f0) ((rd_T39 l0 (ji5)).f1) ((rd_T39 l0 (ji5)).f2)) else (ref26_Add.j1 kj7 l0 ji5 false a1_0 a1_1 y206 ((rd_T39 l0 (ji5)).f0) ((rd_T39 l0 (ji5)).f1) ((rd_T39 l0 (ji5)).f2)))) = some r := by rw [if_pos rfl] at H; exact H
                    clear H
                    have H := H1
                    clear H1
                    replace H := Option.bind_eq_some_iff.mp H
                    obtain ⟨t234, A490, H⟩ := H
                    replace H : (if t234 = true then (ref26_Add.j1 kj7 l0 ji5 ((wrap64 (((rd_T39 l0 (ji5)).f0) + ((rd_T39 l0 (ji5)).f1))) == a1_0) a1_0 a1_1 y206 ((rd_T39 l0 (ji5)).f0) ((rd_T39 l0 (ji5)).f1) ((rd_T39 l0 (ji5)).f2)) else (ref26_Add.j1 kj7 l0 ji5 false a1_0 a1_1 y206 ((rd_T39 l0 (ji5)).f0) ((rd_T39 l0 (ji5)).f1) ((rd_T39 l0 (ji5)).f2))) = some r := H
                    have A49 := Aside0.mk A490
                    clear A490
                    by_cases c50 : t234 = true
                    · subst c50
                      have H1 : (ref26_Add.j1 kj7 l0 ji5 ((wrap64 (((rd_T39 l0 (ji5)).f0) + ((rd_T39 l0 (ji5)).f1))) == a1_0) a1_0 a1_1 y206 ((rd_T39 l0 (ji5)).f0) ((rd_T39 l0 (ji5)).f1) ((rd_T39 l0 (ji5)).f2)) = some r := by rw [if_pos rfl] at H; exact H
                      clear H
                      have H := H1
                      clear H1
                      have H' := Aside0.mk H
                      clear H
                      have hnb51 := NB210_205.out
                      have hnc51 := NB205_210.out
                      have hcz52_0 : wc.cell? ⟨gb210, 0, none⟩ = some (.int .i64 ((rd_T39 l0 (ji5)).f0)) := (blk_cell BK210.out 0).trans rfl
                      have hcz52_1 : wc.cell? ⟨gb210, 1, none⟩ = some (.int .i64 ((rd_T39 l0 (ji5)).f1)) := (blk_cell BK210.out 1).trans rfl
                      have hcz52_2 : wc.cell? ⟨gb210, 2, none⟩ = some (.slice A209_2 ((rd_T39 l0 (ji5)).f2).length c209_2) := (blk_cell BK210.out 2).trans rfl
                      have hfz52_0 := blk_frozen BK210.out 0
                      have hfz52_1 := blk_frozen BK210.out 1
                      have hfz52_2 := blk_frozen BK210.out 2
                      go_wp2_with (first | ((with_reducible refine gate_callee (f := 48) rfl ?_); refine goesL_ (some 40) rfl rfl Try.func48 (by kernel_rfl) rfl #[.agg #[.int .i64 ((rd_T39 l0 (ji5)).f0), .int .i64 ((rd_T39 l0 (ji5)).f1), .slice A209_2 ((rd_T39 l0 (ji5)).f2).length c209_2]] rfl (by (try simp only [List.map_toArray, List.map_cons, List.map_nil]); first | done | (simp only [hji5]; rfl) | rfl | (simp only [List.length_drop, List.length_take]; rfl)) ?_; (with_reducible refine (ref26_Copies.calls ((rd_T39 l0 (ji5)).f0) ((rd_T39 l0 (ji5)).f1) _ _ ((rd_T39 l0 (ji5)).f2) true _ ?side1 ?side2 A47.out).mono ?_); (case side1 => repeat (first | exact (Kd.V_reads' HO_211002.out).2.2 | (with_reducible refine Kd.C_alloc ?_ _) | (with_reducible refine Kd.C_drewN ?_ _) | (with_reducible refine Kd.C_drew ?_))); (case side2 => exact (Kd.V_reads' HO_211002.out).2.1); rintro e w53 ⟨rfl, hb⟩; refine ⟨_, rfl, ?_⟩; have n0_ := Aside0.mk (Kd.V_below (by (with_reducible repeat (first | apply Kd.V_alloc | apply Kd.V_drewN | apply Kd.V_drew)); exact HO_0.out) hb); have n1_ := Aside0.mk (Kd.R_below (by (with_reducible repeat (first | apply Kd.R_alloc | apply Kd.R_drewN | apply Kd.R_drew)); exact HO_206002.out) hb); have n2_ := Aside0.mk (Kd.V_below (by (with_reducible repeat (first | apply Kd.V_alloc | apply Kd.V_drewN | apply Kd.V_drew)); exact HO_211002.out) hb); have n3_ := Aside0.mk (blk_below (g := gb205) (o := .cells #[.int .i64 a1_0, .int .i64 a1_1, .slice Ao12 y206.length co12] 39 (0, 0)) (by (with_reducible repeat (first | refine blk_drewN ?_ _ | refine blk_drew ?_ | refine blk_alloc ?_ _)); exact BK205.out) hb); have n4_ := Aside0.mk (blk_below (g := gb210) (o := .cells #[.int .i64 ((rd_T39 l0 (ji5)).f0), .int .i64 ((rd_T39 l0 (ji5)).f1), .slice A209_2 ((rd_T39 l0 (ji5)).f2).length c209_2] 39 (0, 0)) (by (with_reducible repeat (first | refine blk_drewN ?_ _ | refine blk_drew ?_ | refine blk_alloc ?_ _)); exact BK210.out) hb); have n5_ := Aside0.mk (Kd.C_below (by repeat (first | (with_reducible exact HR209_2.out) | (with_reducible refine Kd.C_alloc ?_ _) | (with_reducible refine Kd.C_drewN ?_ _) | (with_reducible refine Kd.C_drew ?_) | exact HR209_2.out)) hb); have n6_ := Aside0.mk (below_step (by repeat (first | (with_reducible first | exact HB.out | apply below_alloc | apply pw_below_drewN | apply below_drew1 | refine below_set ?_ GE205.out | refine below_set ?_ GE210.out) | exact HB.out)) hb); clear HO_0; clear HO_206002; clear HO_211002; clear BK205; clear BK210; clear HR209_2; clear HB; have HO_0 := n0_; have HO_206002 := n1_; have HO_211002 := n2_; have BK205 := n3_; have BK210 := n4_; have HR209_2 := n5_; have HB := n6_; clear n0_ n1_ n2_ n3_ n4_ n5_ n6_; (try clear hb); (try clear hb2); (try clear hk); (try clear hi); have hcz54_0 : w53.cell? ⟨gb205, 0, none⟩ = some (.int .i64 a1_0) := (blk_cell BK205.out 0).trans rfl; have hcz54_1 : w53.cell? ⟨gb205, 1, none⟩ = some (.int .i64 a1_1) := (blk_cell BK205.out 1).trans rfl; have hcz54_2 : w53.cell? ⟨gb205, 2, none⟩ = some (.slice Ao12 y206.length co12) := (blk_cell BK205.out 2).trans rfl; have hfz54_0 := blk_frozen BK205.out 0; have hfz54_1 := blk_frozen BK205.out 1; have hfz54_2 := blk_frozen BK205.out 2) | (go_at_call 48; (with_reducible refine (ref26_Copies.calls a1_0 a1_1 _ _ y206 true _ ?side1 ?side2 A49.out).mono ?_); (case side1 => repeat (first | exact (Kd.R_reads' HO_206002.out).2.2 | (with_reducible refine Kd.C_alloc ?_ _) | (with_reducible refine Kd.C_drewN ?_ _) | (with_reducible refine Kd.C_drew ?_))); (case side2 => exact (Kd.R_reads' HO_206002.out).2.1); rintro e w55 ⟨rfl, hb⟩; have n0_ := Aside0.mk (Kd.V_below (by (with_reducible repeat (first | apply Kd.V_alloc | apply Kd.V_drewN | apply Kd.V_drew)); exact HO_0.out) hb); have n1_ := Aside0.mk (Kd.R_below (by (with_reducible repeat (first | apply Kd.R_alloc | apply Kd.R_drewN | apply Kd.R_drew)); exact HO_206002.out) hb); have n2_ := Aside0.mk (Kd.V_below (by (with_reducible repeat (first | apply Kd.V_alloc | apply Kd.V_drewN | apply Kd.V_drew)); exact HO_211002.out) hb); have n3_ := Aside0.mk (blk_below (g := gb205) (o := .cells #[.int .i64 a1_0, .int .i64 a1_1, .slice Ao12 y206.length co12] 39 (0, 0)) (by (with_reducible repeat (first | refine blk_drewN ?_ _ | refine blk_drew ?_ | refine blk_alloc ?_ _)); exact BK205.out) hb); have n4_ := Aside0.mk (blk_below (g := gb210) (o := .cells #[.int .i64 ((rd_T39 l0 (ji5)).f0), .int .i64 ((rd_T39 l0 (ji5)).f1), .slice A209_2 ((rd_T39 l0 (ji5)).f2).length c209_2] 39 (0, 0)) (by (with_reducible repeat (first | refine blk_drewN ?_ _ | refine blk_drew ?_ | refine blk_alloc ?_ _)); exact BK210.out) hb); have n5_ := Aside0.mk (Kd.C_below (by repeat (first | (with_reducible exact HR209_2.out) | (with_reducible refine Kd.C_alloc ?_ _) | (with_reducible refine Kd.C_drewN ?_ _) | (with_reducible refine Kd.C_drew ?_) | exact HR209_2.out)) hb); have n6_ := Aside0.mk (below_step (by repeat (first | (with_reducible first | exact HB.out | apply below_alloc | apply pw_below_drewN | apply below_drew1 | refine below_set ?_ GE205.out | refine below_set ?_ GE210.out) | exact HB.out)) hb); clear HO_0; clear HO_206002; clear HO_211002; clear BK205; clear BK210; clear HR209_2; clear HB; have HO_0 := n0_; have HO_206002 := n1_; have HO_211002 := n2_; have BK205 := n3_; have BK210 := n4_; have HR209_2 := n5_; have HB := n6_; clear n0_ n1_ n2_ n3_ n4_ n5_ n6_; (try clear hb); (try clear hb2); (try clear hk); (try clear hi); have hcz56_0 : w55.cell? ⟨gb210, 0, none⟩ = some (.int .i64 ((rd_T39 l0 (ji5)).f0)) := (blk_cell BK210.out 0).trans rfl; have hcz56_1 : w55.cell? ⟨gb210, 1, none⟩ = some (.int .i64 ((rd_T39 l0 (ji5)).f1)) := (blk_cell BK210.out 1).trans rfl; have hcz56_2 : w55.cell? ⟨gb210, 2, none⟩ = some (.slice A209_2 ((rd_T39 l0 (ji5)).f2).length c209_2) := (blk_cell BK210.out 2).trans rfl; have hfz56_0 := blk_frozen BK210.out 0; have hfz56_1 := blk_frozen BK210.out 1; have hfz56_2 := blk_frozen BK210.out 2; have hcz57_0 : w55.cell? ⟨gb205, 0, none⟩ = some (.int .i64 a1_0) := (blk_cell BK205.out 0).trans rfl; have hcz57_1 : w55.cell? ⟨gb205, 1, none⟩ = some (.int .i64 a1_1) := (blk_cell BK205.out 1).trans rfl; have hcz57_2 : w55.cell? ⟨gb205, 2, none⟩ = some (.slice Ao12 y206.length co12) := (blk_cell BK205.out 2).trans rfl; have hfz57_0 := blk_frozen BK205.out 0; have hfz57_1 := blk_frozen BK205.out 1; have hfz57_2 := blk_frozen BK205.out 2))
                      go_meet
                      case rel => exact ⟨_, (((wrap64 (((rd_T39 l0 (ji5)).f0) + ((rd_T39 l0 (ji5)).f1))) == a1_0)), (by first | rfl | (simp; done) | (simp only [← hji5] <;> (first | rfl | simp)) | (simp [*]; done)), H', ⟨by have := HJ7.out; first | omega | exact Nat.le_refl _⟩, ⟨by (with_reducible repeat (first | apply Kd.V_alloc | apply Kd.V_drewN | apply Kd.V_drew)); exact HO_0.out⟩, ⟨by (with_reducible repeat (first | apply Kd.R_alloc | apply Kd.R_drewN | apply Kd.R_drew)); exact HO_206002.out⟩, ⟨by (with_reducible repeat (first | apply Kd.V_alloc | apply Kd.V_drewN | apply Kd.V_drew)); exact HO_211002.out⟩, ⟨by (with_reducible repeat (first | refine blk_drewN ?_ _ | refine blk_drew ?_ | refine blk_alloc ?_ _)); exact BK205.out⟩, ⟨by (with_reducible repeat (first | refine blk_drewN ?_ _ | refine blk_drew ?_ | refine blk_alloc ?_ _)); exact BK210.out⟩, ⟨by repeat (first | (with_reducible exact HR209_2.out) | (with_reducible refine Kd.C_alloc ?_ _) | (with_reducible refine Kd.C_drewN ?_ _) | (with_reducible refine Kd.C_drew ?_) | exact HR209_2.out)⟩, ⟨by repeat (first | (with_reducible first | exact HB.out | apply below_alloc | apply pw_below_drewN | apply below_drew1 | refine below_set ?_ GE205.out | refine below_set ?_ GE210.out) | exact HB.out)⟩⟩
                    · replace c50 := Bool.eq_false_iff.mpr c50
                      subst c50
                      have H1 : (ref26_Add.j1 kj7 l0 ji5 false a1_0 a1_1 y206 ((rd_T39 l0 (ji5)).f0) ((rd_T39 l0 (ji5)).f1) ((rd_T39 l0 (ji5)).f2)) = some r := by rw [if_neg (show ¬ (false = true) by decide)] at H; exact H
                      clear H
                      have H := H1
                      clear H1
                      have H' := Aside0.mk H
                      clear H
                      have hnb58 := NB210_205.out
                      have hnc58 := NB205_210.out
                      have hcz59_0 : wc.cell? ⟨gb210, 0, none⟩ = some (.int .i64 ((rd_T39 l0 (ji5)).f0)) := (blk_cell BK210.out 0).trans rfl
                      have hcz59_1 : wc.cell? ⟨gb210, 1, none⟩ = some (.int .i64 ((rd_T39 l0 (ji5)).f1)) := (blk_cell BK210.out 1).trans rfl
                      have hcz59_2 : wc.cell? ⟨gb210, 2, none⟩ = some (.slice A209_2 ((rd_T39 l0 (ji5)).f2).length c209_2) := (blk_cell BK210.out 2).trans rfl
                      have hfz59_0 := blk_frozen BK210.out 0
                      have hfz59_1 := blk_frozen BK210.out 1
                      have hfz59_2 := blk_frozen BK210.out 2
                      go_wp2_with (first | ((with_reducible refine gate_callee (f := 48) rfl ?_); refine goesL_ (some 40) rfl rfl Try.func48 (by kernel_rfl) rfl #[.agg #[.int .i64 ((rd_T39 l0 (ji5)).f0), .int .i64 ((rd_T39 l0 (ji5)).f1), .slice A209_2 ((rd_T39 l0 (ji5)).f2).length c209_2]] rfl (by (try simp only [List.map_toArray, List.map_cons, List.map_nil]); first | done | (simp only [hji5]; rfl) | rfl | (simp only [List.length_drop, List.length_take]; rfl)) ?_; (with_reducible refine (ref26_Copies.calls ((rd_T39 l0 (ji5)).f0) ((rd_T39 l0 (ji5)).f1) _ _ ((rd_T39 l0 (ji5)).f2) true _ ?side1 ?side2 A47.out).mono ?_); (case side1 => repeat (first | exact (Kd.V_reads' HO_211002.out).2.2 | (with_reducible refine Kd.C_alloc ?_ _) | (with_reducible refine Kd.C_drewN ?_ _) | (with_reducible refine Kd.C_drew ?_))); (case side2 => exact (Kd.V_reads' HO_211002.out).2.1); rintro e w60 ⟨rfl, hb⟩; refine ⟨_, rfl, ?_⟩; have n0_ := Aside0.mk (Kd.V_below (by (with_reducible repeat (first | apply Kd.V_alloc | apply Kd.V_drewN | apply Kd.V_drew)); exact HO_0.out) hb); have n1_ := Aside0.mk (Kd.R_below (by (with_reducible repeat (first | apply Kd.R_alloc | apply Kd.R_drewN | apply Kd.R_drew)); exact HO_206002.out) hb); have n2_ := Aside0.mk (Kd.V_below (by (with_reducible repeat (first | apply Kd.V_alloc | apply Kd.V_drewN | apply Kd.V_drew)); exact HO_211002.out) hb); have n3_ := Aside0.mk (blk_below (g := gb205) (o := .cells #[.int .i64 a1_0, .int .i64 a1_1, .slice Ao12 y206.length co12] 39 (0, 0)) (by (with_reducible repeat (first | refine blk_drewN ?_ _ | refine blk_drew ?_ | refine blk_alloc ?_ _)); exact BK205.out) hb); have n4_ := Aside0.mk (blk_below (g := gb210) (o := .cells #[.int .i64 ((rd_T39 l0 (ji5)).f0), .int .i64 ((rd_T39 l0 (ji5)).f1), .slice A209_2 ((rd_T39 l0 (ji5)).f2).length c209_2] 39 (0, 0)) (by (with_reducible repeat (first | refine blk_drewN ?_ _ | refine blk_drew ?_ | refine blk_alloc ?_ _)); exact BK210.out) hb); have n5_ := Aside0.mk (Kd.C_below (by repeat (first | (with_reducible exact HR209_2.out) | (with_reducible refine Kd.C_alloc ?_ _) | (with_reducible refine Kd.C_drewN ?_ _) | (with_reducible refine Kd.C_drew ?_) | exact HR209_2.out)) hb); have n6_ := Aside0.mk (below_step (by repeat (first | (with_reducible first | exact HB.out | apply below_alloc | apply pw_below_drewN | apply below_drew1 | refine below_set ?_ GE205.out | refine below_set ?_ GE210.out) | exact HB.out)) hb); clear HO_0; clear HO_206002; clear HO_211002; clear BK205; clear BK210; clear HR209_2; clear HB; have HO_0 := n0_; have HO_206002 := n1_; have HO_211002 := n2_; have BK205 := n3_; have BK210 := n4_; have HR209_2 := n5_; have HB := n6_; clear n0_ n1_ n2_ n3_ n4_ n5_ n6_; (try clear hb); (try clear hb2); (try clear hk); (try clear hi); have hcz61_0 : w60.cell? ⟨gb205, 0, none⟩ = some (.int .i64 a1_0) := (blk_cell BK205.out 0).trans rfl; have hcz61_1 : w60.cell? ⟨gb205, 1, none⟩ = some (.int .i64 a1_1) := (blk_cell BK205.out 1).trans rfl; have hcz61_2 : w60.cell? ⟨gb205, 2, none⟩ = some (.slice Ao12 y206.length co12) := (blk_cell BK205.out 2).trans rfl; have hfz61_0 := blk_frozen BK205.out 0; have hfz61_1 := blk_frozen BK205.out 1; have hfz61_2 := blk_frozen BK205.out 2) | (go_at_call 48; (with_reducible refine (ref26_Copies.calls a1_0 a1_1 _ _ y206 false _ ?side1 ?side2 A49.out).mono ?_); (case side1 => repeat (first | exact (Kd.R_reads' HO_206002.out).2.2 | (with_reducible refine Kd.C_alloc ?_ _) | (with_reducible refine Kd.C_drewN ?_ _) | (with_reducible refine Kd.C_drew ?_))); (case side2 => exact (Kd.R_reads' HO_206002.out).2.1); rintro e w62 ⟨rfl, hb⟩; have n0_ := Aside0.mk (Kd.V_below (by (with_reducible repeat (first | apply Kd.V_alloc | apply Kd.V_drewN | apply Kd.V_drew)); exact HO_0.out) hb); have n1_ := Aside0.mk (Kd.R_below (by (with_reducible repeat (first | apply Kd.R_alloc | apply Kd.R_drewN | apply Kd.R_drew)); exact HO_206002.out) hb); have n2_ := Aside0.mk (Kd.V_below (by (with_reducible repeat (first | apply Kd.V_alloc | apply Kd.V_drewN | apply Kd.V_drew)); exact HO_211002.out) hb); have n3_ := Aside0.mk (blk_below (g := gb205) (o := .cells #[.int .i64 a1_0, .int .i64 a1_1, .slice Ao12 y206.length co12] 39 (0, 0)) (by (with_reducible repeat (first | refine blk_drewN ?_ _ | refine blk_drew ?_ | refine blk_alloc ?_ _)); exact BK205.out) hb); have n4_ := Aside0.mk (blk_below (g := gb210) (o := .cells #[.int .i64 ((rd_T39 l0 (ji5)).f0), .int .i64 ((rd_T39 l0 (ji5)).f1), .slice A209_2 ((rd_T39 l0 (ji5)).f2).length c209_2] 39 (0, 0)) (by (with_reducible repeat (first | refine blk_drewN ?_ _ | refine blk_drew ?_ | refine blk_alloc ?_ _)); exact BK210.out) hb); have n5_ := Aside0.mk (Kd.C_below (by repeat (first | (with_reducible exact HR209_2.out) | (with_reducible refine Kd.C_alloc ?_ _) | (with_reducible refine Kd.C_drewN ?_ _) | (with_reducible refine Kd.C_drew ?_) | exact HR209_2.out)) hb); have n6_ := Aside0.mk (below_step (by repeat (first | (with_reducible first | exact HB.out | apply below_alloc | apply pw_below_drewN | apply below_drew1 | refine below_set ?_ GE205.out | refine below_set ?_ GE210.out) | exact HB.out)) hb); clear HO_0; clear HO_206002; clear HO_211002; clear BK205; clear BK210; clear HR209_2; clear HB; have HO_0 := n0_; have HO_206002 := n1_; have HO_211002 := n2_; have BK205 := n3_; have BK210 := n4_; have HR209_2 := n5_; have HB := n6_; clear n0_ n1_ n2_ n3_ n4_ n5_ n6_; (try clear hb); (try clear hb2); (try clear hk); (try clear hi)))
                      go_meet
                      case rel => exact ⟨_, (false), (by first | rfl | (simp; done) | (simp [*]; done)), H', ⟨by have := HJ7.out; first | omega | exact Nat.le_refl _⟩, ⟨by (with_reducible repeat (first | apply Kd.V_alloc | apply Kd.V_drewN | apply Kd.V_drew)); exact HO_0.out⟩, ⟨by (with_reducible repeat (first | apply Kd.R_alloc | apply Kd.R_drewN | apply Kd.R_drew)); exact HO_206002.out⟩, ⟨by (with_reducible repeat (first | apply Kd.V_alloc | apply Kd.V_drewN | apply Kd.V_drew)); exact HO_211002.out⟩, ⟨by (with_reducible repeat (first | refine blk_drewN ?_ _ | refine blk_drew ?_ | refine blk_alloc ?_ _)); exact BK205.out⟩, ⟨by (with_reducible repeat (first | refine blk_drewN ?_ _ | refine blk_drew ?_ | refine blk_alloc ?_ _)); exact BK210.out⟩, ⟨by repeat (first | (with_reducible exact HR209_2.out) | (with_reducible refine Kd.C_alloc ?_ _) | (with_reducible refine Kd.C_drewN ?_ _) | (with_reducible refine Kd.C_drew ?_) | exact HR209_2.out)⟩, ⟨by repeat (first | (with_reducible first | exact HB.out | apply below_alloc | apply pw_below_drewN | apply below_drew1 | refine below_set ?_ GE205.out | refine below_set ?_ GE210.out) | exact HB.out)⟩⟩
                  · replace c48 := Bool.eq_false_iff.mpr c48
                    subst c48
                    have H1 : (ref26_Add.j1 kj7 l0 ji5 false a1_0 a1_1 y206 ((rd_T39 l0 (ji5)).f0) ((rd_T39 l0 (ji5)).f1) ((rd_T39 l0 (ji5)).f2)) = some r := by rw [if_neg (show ¬ (false = true) by decide)] at H; exact H
                    clear H
                    have H := H1
                    clear H1
                    have H' := Aside0.mk H
                    clear H
                    have hnb63 := NB210_205.out
                    have hnc63 := NB205_210.out
                    have hcz64_0 : wc.cell? ⟨gb210, 0, none⟩ = some (.int .i64 ((rd_T39 l0 (ji5)).f0)) := (blk_cell BK210.out 0).trans rfl
                    have hcz64_1 : wc.cell? ⟨gb210, 1, none⟩ = some (.int .i64 ((rd_T39 l0 (ji5)).f1)) := (blk_cell BK210.out 1).trans rfl
                    have hcz64_2 : wc.cell? ⟨gb210, 2, none⟩ = some (.slice A209_2 ((rd_T39 l0 (ji5)).f2).length c209_2) := (blk_cell BK210.out 2).trans rfl
                    have hfz64_0 := blk_frozen BK210.out 0
                    have hfz64_1 := blk_frozen BK210.out 1
                    have hfz64_2 := blk_frozen BK210.out 2
                    go_wp2_with (first | ((with_reducible refine gate_callee (f := 48) rfl ?_); refine goesL_ (some 40) rfl rfl Try.func48 (by kernel_rfl) rfl #[.agg #[.int .i64 ((rd_T39 l0 (ji5)).f0), .int .i64 ((rd_T39 l0 (ji5)).f1), .slice A209_2 ((rd_T39 l0 (ji5)).f2).length c209_2]] rfl (by (try simp only [List.map_toArray, List.map_cons, List.map_nil]); first | done | (simp only [hji5]; rfl) | rfl | (simp only [List.length_drop, List.length_take]; rfl)) ?_; (with_reducible refine (ref26_Copies.calls ((rd_T39 l0 (ji5)).f0) ((rd_T39 l0 (ji5)).f1) _ _ ((rd_T39 l0 (ji5)).f2) false _ ?side1 ?side2 A47.out).mono ?_); (case side1 => repeat (first | exact (Kd.V_reads' HO_211002.out).2.2 | (with_reducible refine Kd.C_alloc ?_ _) | (with_reducible refine Kd.C_drewN ?_ _) | (with_reducible refine Kd.C_drew ?_))); (case side2 => exact (Kd.V_reads' HO_211002.out).2.1); rintro e w65 ⟨rfl, hb⟩; refine ⟨_, rfl, ?_⟩; have n0_ := Aside0.mk (Kd.V_below (by (with_reducible repeat (first | apply Kd.V_alloc | apply Kd.V_drewN | apply Kd.V_drew)); exact HO_0.out) hb); have n1_ := Aside0.mk (Kd.R_below (by (with_reducible repeat (first | apply Kd.R_alloc | apply Kd.R_drewN | apply Kd.R_drew)); exact HO_206002.out) hb); have n2_ := Aside0.mk (Kd.V_below (by (with_reducible repeat (first | apply Kd.V_alloc | apply Kd.V_drewN | apply Kd.V_drew)); exact HO_211002.out) hb); have n3_ := Aside0.mk (blk_below (g := gb205) (o := .cells #[.int .i64 a1_0, .int .i64 a1_1, .slice Ao12 y206.length co12] 39 (0, 0)) (by (with_reducible repeat (first | refine blk_drewN ?_ _ | refine blk_drew ?_ | refine blk_alloc ?_ _)); exact BK205.out) hb); have n4_ := Aside0.mk (blk_below (g := gb210) (o := .cells #[.int .i64 ((rd_T39 l0 (ji5)).f0), .int .i64 ((rd_T39 l0 (ji5)).f1), .slice A209_2 ((rd_T39 l0 (ji5)).f2).length c209_2] 39 (0, 0)) (by (with_reducible repeat (first | refine blk_drewN ?_ _ | refine blk_drew ?_ | refine blk_alloc ?_ _)); exact BK210.out) hb); have n5_ := Aside0.mk (Kd.C_below (by repeat (first | (with_reducible exact HR209_2.out) | (with_reducible refine Kd.C_alloc ?_ _) | (with_reducible refine Kd.C_drewN ?_ _) | (with_reducible refine Kd.C_drew ?_) | exact HR209_2.out)) hb); have n6_ := Aside0.mk (below_step (by repeat (first | (with_reducible first | exact HB.out | apply below_alloc | apply pw_below_drewN | apply below_drew1 | refine below_set ?_ GE205.out | refine below_set ?_ GE210.out) | exact HB.out)) hb); clear HO_0; clear HO_206002; clear HO_211002; clear BK205; clear BK210; clear HR209_2; clear HB; have HO_0 := n0_; have HO_206002 := n1_; have HO_211002 := n2_; have BK205 := n3_; have BK210 := n4_; have HR209_2 := n5_; have HB := n6_; clear n0_ n1_ n2_ n3_ n4_ n5_ n6_; (try clear hb); (try clear hb2); (try clear hk); (try clear hi)))
                    go_meet
                    case rel => exact ⟨_, (false), (by first | rfl | (simp; done) | (simp [*]; done)), H', ⟨by have := HJ7.out; first | omega | exact Nat.le_refl _⟩, ⟨by (with_reducible repeat (first | apply Kd.V_alloc | apply Kd.V_drewN | apply Kd.V_drew)); exact HO_0.out⟩, ⟨by (with_reducible repeat (first | apply Kd.R_alloc | apply Kd.R_drewN | apply Kd.R_drew)); exact HO_206002.out⟩, ⟨by (with_reducible repeat (first | apply Kd.V_alloc | apply Kd.V_drewN | apply Kd.V_drew)); exact HO_211002.out⟩, ⟨by (with_reducible repeat (first | refine blk_drewN ?_ _ | refine blk_drew ?_ | refine blk_alloc ?_ _)); exact BK205.out⟩, ⟨by (with_reducible repeat (first | refine blk_drewN ?_ _ | refine blk_drew ?_ | refine blk_alloc ?_ _)); exact BK210.out⟩, ⟨by repeat (first | (with_reducible exact HR209_2.out) | (with_reducible refine Kd.C_alloc ?_ _) | (with_reducible refine Kd.C_drewN ?_ _) | (with_reducible refine Kd.C_drew ?_) | exact HR209_2.out)⟩, ⟨by repeat (first | (with_reducible first | exact HB.out | apply below_alloc | apply pw_below_drewN | apply below_drew1 | refine below_set ?_ GE205.out | refine below_set ?_ GE210.out) | exact HB.out)⟩⟩
                case rest =>
                  clear HC46
                  try clear c1
                  try clear c2
                  try clear p2
                  try clear q2
                  try clear hx2
                  try clear c3
                  try clear q3
                  try clear c4
                  try clear c4b0
                  try clear c5
                  try clear c6
                  try clear c6b0
                  try clear p6
                  try clear c7
                  try clear c7b0
                  try clear c16
                  try clear c19
                  try clear c20
                  try clear p20
                  try clear q20
                  try clear hx20
                  try clear c21
                  try clear c26
                  try clear c29
                  try clear c30
                  try clear c30b0
                  try clear c30b1
                  try clear c31
                  try clear c31b0
                  try clear c31b1
                  try clear c32
                  try clear c33
                  try clear c34
                  try clear c35
                  try clear q37
                  try clear c48
                  try clear c49
                  try clear c50
                  try clear c51
                  try clear c58
                  try clear c63
                  try clear p64
                  try clear hcz10_0
                  try clear hcz10_1
                  try clear hcz10_2
                  try clear hcz13_0
                  try clear hcz13_1
                  try clear hcz13_2
                  try clear hcz17_0
                  try clear hcz17_1
                  try clear hcz17_2
                  try clear hcz22_0
                  try clear hcz22_1
                  try clear hcz22_2
                  try clear hcz24_0
                  try clear hcz24_1
                  try clear hcz24_2
                  try clear hcz27_0
                  try clear hcz27_1
                  try clear hcz27_2
                  try clear hcz52_0
                  try clear hcz52_1
                  try clear hcz52_2
                  try clear hcz54_0
                  try clear hcz54_1
                  try clear hcz54_2
                  try clear hcz56_0
                  try clear hcz56_1
                  try clear hcz56_2
                  try clear hcz57_0
                  try clear hcz57_1
                  try clear hcz57_2
                  try clear hcz59_0
                  try clear hcz59_1
                  try clear hcz59_2
                  try clear hcz61_0
                  try clear hcz61_1
                  try clear hcz61_2
                  try clear hcz64_0
                  try clear hcz64_1
                  try clear hcz64_2
                  try clear hfz10_0
                  try clear hfz10_1
                  try clear hfz10_2
                  try clear hfz13_0
                  try clear hfz13_1
                  try clear hfz13_2
                  try clear hfz17_0
                  try clear hfz17_1
                  try clear hfz17_2
                  try clear hfz22_0
                  try clear hfz22_1
                  try clear hfz22_2
                  try clear hfz24_0
                  try clear hfz24_1
                  try clear hfz24_2
                  try clear hfz27_0
                  try clear hfz27_1
                  try clear hfz27_2
                  try clear hfz52_0
                  try clear hfz52_1
                  try clear hfz52_2
                  try clear hfz54_0
                  try clear hfz54_1
                  try clear hfz54_2
                  try clear hfz56_0
                  try clear hfz56_1
                  try clear hfz56_2
                  try clear hfz57_0
                  try clear hfz57_1
                  try clear hfz57_2
                  try clear hfz59_0
                  try clear hfz59_1
                  try clear hfz59_2
                  try clear hfz61_0
                  try clear hfz61_1
                  try clear hfz61_2
                  try clear hfz64_0
                  try clear hfz64_1
                  try clear hfz64_2
                  try clear hx209_0
                  try clear hx209_1
                  try clear hx209_2
                  try clear p2
                  try clear p20
                  try clear p209
                  try clear p6
                  try clear q2
                  try clear q20
                  try clear q209
                  try clear q37
                  obtain ⟨kq, x54_45, rfl, HA, HJ45, HO_0, HO_206002, HO_211002, BK205, BK210, HR209_2, HB⟩ := hcut
                  cases kq with
                  | zero => exact absurd HA.out (by simp [ref26_Add.j1])
                  | succ kj45 =>
                    have H := HA.out
                    clear HA
                    simp only [ref26_Add.j1] at H
                    by_cases c66 : x54_45 = true
                    · subst c66
                      have H1 : (if 0 ≤ ji5 then (if ji5 ≤ (l0.length : Int) then ((some (l0.take (ji5 : Int).toNat : List (S39))).bind fun y235 => (if ([] : List (S39)).length + y235.length < 3518437208883 then ((some (([] : List (S39)) ++ y235 : List (S39))).bind fun y240 => ((some (([(⟨((rd_T39 l0 (ji5)).f0), wrap64 (((rd_T39 l0 (ji5)).f1) + a1_1), ([] : List Int)⟩ : S39)] : List (S39)) : List (S39))).bind fun y243 => (if y240.length + y243.length < 3518437208883 then (some (y240 ++ y243)) else (none)))) else (none))) else (none)) else (none)) = some r := by rw [if_pos rfl] at H; exact H
                      clear H
                      have H := H1
                      clear H1
                      by_cases c67 : 0 ≤ ji5
                      · rw [if_pos c67] at H
                        have c67b0 := eq_true c67
                        have c67b1 : decide (0 ≤ ji5) = true := decide_eq_true c67
                        clear c67
                        by_cases c68 : ji5 ≤ (l0.length : Int)
                        · rw [if_pos c68] at H
                          have c68b0 := eq_true c68
                          have c68b1 : decide (ji5 ≤ (l0.length : Int)) = true := decide_eq_true c68
                          clear c68
                          obtain ⟨y235, hy235⟩ : ∃ y_ : List (S39), y_ = (l0.take (ji5 : Int).toNat) := ⟨_, rfl⟩
                          replace H : (if ([] : List (S39)).length + y235.length < 3518437208883 then ((some (([] : List (S39)) ++ y235 : List (S39))).bind fun y240 => ((some (([(⟨((rd_T39 l0 (ji5)).f0), wrap64 (((rd_T39 l0 (ji5)).f1) + a1_1), ([] : List Int)⟩ : S39)] : List (S39)) : List (S39))).bind fun y243 => (if y240.length + y243.length < 3518437208883 then (some (y240 ++ y243)) else (none)))) else (none)) = some r := by first | (rw [hy235]; with_reducible exact H) | (have H2_ := (Option.bind_some _ _).symm.trans H; rw [hy235]; with_reducible exact H2_) | (have H2_ := (Option.bind_some _ _).symm.trans H; with_reducible exact H2_) | with_reducible exact H | (rw [hy235]; exact H) | exact H
                          have Ny235 := Aside0.mk hy235
                          clear hy235
                          by_cases c69 : ([] : List (S39)).length + y235.length < 3518437208883
                          · rw [if_pos c69] at H
                            have LMc69 := Aside0.mk c69
                            clear c69
                            obtain ⟨y240, hy240⟩ : ∃ y_ : List (S39), y_ = (([] : List (S39)) ++ y235) := ⟨_, rfl⟩
                            replace H : ((some (([(⟨((rd_T39 l0 (ji5)).f0), wrap64 (((rd_T39 l0 (ji5)).f1) + a1_1), ([] : List Int)⟩ : S39)] : List (S39)) : List (S39))).bind fun y243 => (if y240.length + y243.length < 3518437208883 then (some (y240 ++ y243)) else (none))) = some r := by first | (rw [hy240]; with_reducible exact H) | (have H2_ := (Option.bind_some _ _).symm.trans H; rw [hy240]; with_reducible exact H2_) | (have H2_ := (Option.bind_some _ _).symm.trans H; with_reducible exact H2_) | with_reducible exact H | (rw [hy240]; exact H) | exact H
                            have Ny240 := Aside0.mk hy240
                            clear hy240
                            obtain ⟨y243, hy243⟩ : ∃ y_ : List (S39), y_ = (([(⟨((rd_T39 l0 (ji5)).f0), wrap64 (((rd_T39 l0 (ji5)).f1) + a1_1), ([] : List Int)⟩ : S39)] : List (S39))) := ⟨_, rfl⟩
                            replace H : (if y240.length + y243.length < 3518437208883 then (some (y240 ++ y243)) else (none)) = some r := by first | (rw [hy243]; with_reducible exact H) | (have H2_ := (Option.bind_some _ _).symm.trans H; rw [hy243]; with_reducible exact H2_) | (have H2_ := (Option.bind_some _ _).symm.trans H; with_reducible exact H2_) | with_reducible exact H | (rw [hy243]; exact H) | exact H
                            have Ny243 := Aside0.mk hy243
                            clear hy243
                            by_cases c70 : y240.length + y243.length < 3518437208883
                            · rw [if_pos c70] at H
                              have LMc70 := Aside0.mk c70
                              clear c70
                              obtain ⟨y246, hy246⟩ : ∃ y_ : List (S39), y_ = (y240 ++ y243) := ⟨_, rfl⟩
                              replace H : (some y246) = some r := by first | (rw [hy246]; with_reducible exact H) | (have H2_ := (Option.bind_some _ _).symm.trans H; rw [hy246]; with_reducible exact H2_) | (have H2_ := (Option.bind_some _ _).symm.trans H; with_reducible exact H2_) | with_reducible exact H | (rw [hy246]; exact H) | exact H
                              have Ny246 := Aside0.mk hy246
                              clear hy246
                              obtain rfl := Option.some.inj H
                              try go_wp2
                              have n0_ := Aside0.mk (Kd.V_drew HO_0.out)
                              have n1_ := Aside0.mk (Kd.R_drew HO_206002.out)
                              have n2_ := Aside0.mk (Kd.V_drew HO_211002.out)
                              have n3_ := Aside0.mk (blk_drew BK205.out)
                              have n4_ := Aside0.mk (blk_drew BK210.out)
                              have n5_ := Aside0.mk (Kd.C_drew HR209_2.out)
                              have n6_ := Aside0.mk (below_drew1 HB.out)
                              clear HO_0
                              clear HO_206002
                              clear HO_211002
                              clear BK205
                              clear BK210
                              clear HR209_2
                              clear HB
                              have HO_0 := n0_
                              have HO_206002 := n1_
                              have HO_211002 := n2_
                              have BK205 := n3_
                              have BK210 := n4_
                              have HR209_2 := n5_
                              have HB := n6_
                              clear n0_ n1_ n2_ n3_ n4_ n5_ n6_
                              have q72 : (ji5 : Int) ≤ ((l0.length : Int) : Int) := of_decide_eq_true (by first | (with_reducible assumption) | assumption)
                              obtain ⟨i072, hi072, _, hsz72, _⟩ := info_parts info39
                              have hroom72 : l0.length ≤ c0 := (Kd.V_reads' HO_0.out).2.1
                              have hC72 : Kd.F k39 _ _ (some ad209) l0.length l0 := (Kd.V_at (base := w.heap.size) HO_0.out).2.2
                              have hcut72 := cut_to (P := Try.prog) 29 39 .i64 Try.underlying29 hi072 (some ad209) l0.length c0 ji5 (of_decide_eq_true (by first | (with_reducible assumption) | assumption)) q72 hroom72
                              have hr72 := Kd.F_take (m := (ji5 : Int).toNat) hC72 (by omega)
                              have hy72 : y235.length = (ji5 : Int).toNat := (by rw [Ny235.out, List.length_take]; omega)
                              rw [← Ny235.out] at hr72
                              rw [← hy72] at hcut72
                              have HO239 := Aside0.mk (show Kd.V k39 39 _ w.heap.size _ (.slice (some ad209) y235.length c0) y235 from Kd.V_mk (by omega) hr72)
                              have HC239 := Aside0.mk (show y235.length ≤ c0 from by omega)
                              clear hr72 hC72 hroom72 hi072 hsz72
                              have KY72 := Aside0.mk hy72
                              clear hy72
                              replace q72 := eq_true q72
                              refine start_ (n := 15) (S := fun w' => w'.cell? ⟨gb210, 0, none⟩ = some (.int .i64 ((rd_T39 l0 (ji5)).f0)) ∧ w'.cell? ⟨gb210, 1, none⟩ = some (.int .i64 ((rd_T39 l0 (ji5)).f1)) ∧ w'.cell? ⟨gb210, 2, none⟩ = some (.slice A209_2 ((rd_T39 l0 (ji5)).f2).length c209_2) ∧ w'.cell? ⟨gb205, 0, none⟩ = some (.int .i64 a1_0) ∧ w'.cell? ⟨gb205, 1, none⟩ = some (.int .i64 a1_1) ∧ w'.cell? ⟨gb205, 2, none⟩ = some (.slice Ao12 y206.length co12)) (ds := []) #[false, false, false, false, false, false, false, false, false, false, false, false, false, false, false] (by kernel_rfl) rfl rfl ⟨(blk_cell BK210.out 0).trans rfl, (blk_cell BK210.out 1).trans rfl, (blk_cell BK210.out 2).trans rfl, (blk_cell BK205.out 0).trans rfl, (blk_cell BK205.out 1).trans rfl, (blk_cell BK205.out 2).trans rfl⟩ (fun hHeld => ?_); refine with_tabW ref26_Add.tab8 ref26_Add.bits8 (fun HT_ HW_ => ?_)
                              generalize wc.drew = w71 at HO_0 HO_206002 HO_211002 BK205 BK210 HR209_2 HB HO239 hHeld ⊢
                              refine pure_ (i := 0) (N := some 55) (v := ?_) (a' := ?_) #[true, false, false, false, false, false, false, false, false, false, false, false, false, false, false] rfl rfl (any_of HT_.out (by kernel_rfl)) (fun _ _ _ h => h) (Or.inl ⟨by rfl, ?_⟩) ?_ ?_
                              rotate_left
                              · intro w'
                                go_simp
                                with_reducible rfl
                              rotate_left
                              · simp only [Act.put, List.setIfInBounds_toArray, List.set_cons_zero, List.set_cons_succ, i64_w, i32_w]
                                rfl
                              refine pure_ (i := 1) (N := some 56) (v := ?_) (a' := ?_) #[true, true, false, false, false, false, false, false, false, false, false, false, false, false, false] rfl rfl (any_of HT_.out (by kernel_rfl)) (fun _ _ _ h => h) (Or.inl ⟨by rfl, ?_⟩) ?_ ?_
                              rotate_left
                              · intro w'
                                go_simp
                                with_reducible rfl
                              rotate_left
                              · simp only [Act.put, List.setIfInBounds_toArray, List.set_cons_zero, List.set_cons_succ, i64_w, i32_w]
                                rfl
                              refine pure_ (i := 2) (N := some 57) (v := ?_) (a' := ?_) #[true, true, true, false, false, false, false, false, false, false, false, false, false, false, false] rfl rfl (any_of HT_.out (by kernel_rfl)) (fun _ _ _ h => h) (Or.inl ⟨by rfl, ?_⟩) ?_ ?_
                              rotate_left
                              · intro w'
                                go_simp
                                with_reducible rfl
                              rotate_left
                              · simp only [Act.put, List.setIfInBounds_toArray, List.set_cons_zero, List.set_cons_succ, i64_w, i32_w]
                                rfl
                              refine pure_ (i := 4) (N := some 59) (v := ?_) (a' := ?_) #[true, true, true, false, true, false, false, false, false, false, false, false, false, false, false] rfl rfl (any_of HT_.out (by kernel_rfl)) (fun _ _ _ h => h) (Or.inl ⟨by rfl, ?_⟩) ?_ ?_
                              rotate_left
                              · intro w'
                                go_simp
                                with_reducible rfl
                              rotate_left
                              · simp only [Act.put, List.setIfInBounds_toArray, List.set_cons_zero, List.set_cons_succ, i64_w, i32_w]
                                rfl
                              refine pure_ (i := 6) (N := some 61) (v := ?_) (a' := ?_) #[true, true, true, false, true, false, true, false, false, false, false, false, false, false, false] rfl rfl (any_of HT_.out (by kernel_rfl)) (fun _ _ _ h => h) (Or.inl ⟨by rfl, ?_⟩) ?_ ?_
                              rotate_left
                              · intro w'
                                go_simp
                                with_reducible rfl
                              rotate_left
                              · simp only [Act.put, List.setIfInBounds_toArray, List.set_cons_zero, List.set_cons_succ, i64_w, i32_w]
                                rfl
                              refine pure_ (i := 8) (N := some 63) (v := ?_) (a' := ?_) #[true, true, true, false, true, false, true, false, true, false, false, false, false, false, false] rfl rfl (any_of HT_.out (by kernel_rfl)) (fun _ _ _ h => h) (Or.inl ⟨by rfl, ?_⟩) ?_ ?_
                              rotate_left
                              · intro w'
                                go_simp
                                with_reducible rfl
                              rotate_left
                              · simp only [Act.put, List.setIfInBounds_toArray, List.set_cons_zero, List.set_cons_succ, i64_w, i32_w]
                                rfl
                              refine take_ (i := 5) (N := some 60) (v := ?_) (a' := ?_) #[true, true, true, false, true, true, true, false, true, false, false, false, false, false, false] rfl rfl (take_ofW HT_.out HW_.out (by kernel_rfl)) (fun _ _ _ h => h) (Or.inl ⟨by rfl, ?_⟩) hHeld ?_ ?_
                              rotate_left
                              · rintro w' ⟨s0, s1, s2, s3, s4, s5⟩
                                go_simp
                                with_reducible rfl
                              rotate_left
                              · simp only [Act.put, List.setIfInBounds_toArray, List.set_cons_zero, List.set_cons_succ, i64_w, i32_w]
                                rfl
                              refine take_ (i := 7) (N := some 62) (v := ?_) (a' := ?_) #[true, true, true, false, true, true, true, true, true, false, false, false, false, false, false] rfl rfl (take_ofW HT_.out HW_.out (by kernel_rfl)) (fun _ _ _ h => h) (Or.inl ⟨by rfl, ?_⟩) hHeld ?_ ?_
                              rotate_left
                              · rintro w' ⟨s0, s1, s2, s3, s4, s5⟩
                                go_simp
                                with_reducible rfl
                              rotate_left
                              · simp only [Act.put, List.setIfInBounds_toArray, List.set_cons_zero, List.set_cons_succ, i64_w, i32_w]
                                rfl
                              refine take_ (i := 9) (N := some 64) (v := ?_) (a' := ?_) #[true, true, true, false, true, true, true, true, true, true, false, false, false, false, false] rfl rfl (take_ofW HT_.out HW_.out (by kernel_rfl)) (fun _ _ _ h => h) (Or.inl ⟨by rfl, ?_⟩) hHeld ?_ ?_
                              rotate_left
                              · rintro w' ⟨s0, s1, s2, s3, s4, s5⟩
                                go_simp
                                with_reducible rfl
                              rotate_left
                              · simp only [Act.put, List.setIfInBounds_toArray, List.set_cons_zero, List.set_cons_succ, i64_w, i32_w]
                                rfl
                              refine pure_ (i := 10) (N := some 65) (v := ?_) (a' := ?_) #[true, true, true, false, true, true, true, true, true, true, true, false, false, false, false] rfl rfl (any_of HT_.out (by kernel_rfl)) (fun _ _ _ h => h) (Or.inl ⟨by rfl, ?_⟩) ?_ ?_
                              rotate_left
                              · intro w'
                                go_simp
                                with_reducible rfl
                              rotate_left
                              · simp only [Act.put, List.setIfInBounds_toArray, List.set_cons_zero, List.set_cons_succ, i64_w, i32_w]
                                rfl
                              refine pure_ (i := 11) (N := some 66) (v := ?_) (a' := ?_) #[true, true, true, false, true, true, true, true, true, true, true, true, false, false, false] rfl rfl (any_of HT_.out (by kernel_rfl)) (fun _ _ _ h => h) (Or.inl ⟨by rfl, ?_⟩) ?_ ?_
                              rotate_left
                              · intro w'
                                go_simp
                                with_reducible rfl
                              rotate_left
                              · simp only [Act.put, List.setIfInBounds_toArray, List.set_cons_zero, List.set_cons_succ, i64_w, i32_w]
                                rfl
                              refine join_ (σ := Value × Value) 2 #[true, true, true, true, true, true, true, true, true, true, true, true, true, false, false] (fun s_ => [(58, s_.1), (67, s_.2)]) (fun s_ w' => (w'.cell? ⟨gb210, 0, none⟩ = some (.int .i64 ((rd_T39 l0 (ji5)).f0)) ∧ w'.cell? ⟨gb210, 1, none⟩ = some (.int .i64 ((rd_T39 l0 (ji5)).f1)) ∧ w'.cell? ⟨gb210, 2, none⟩ = some (.slice A209_2 ((rd_T39 l0 (ji5)).f2).length c209_2) ∧ w'.cell? ⟨gb205, 0, none⟩ = some (.int .i64 a1_0) ∧ w'.cell? ⟨gb205, 1, none⟩ = some (.int .i64 a1_1) ∧ w'.cell? ⟨gb205, 2, none⟩ = some (.slice Ao12 y206.length co12)) ∧ (Kd.V k39 39 w' w.heap.size (fun k_ => (P0_ k_ ∨ w.heap.size ≤ k_) ∧ some k_ ≠ (s_.1 : Value).ownBlock ∧ some k_ ≠ (s_.2 : Value).ownBlock ∧ some k_ ≠ (.slice Ao12 y206.length co12 : Value).ownBlock ∧ k_ ≠ gb205 ∧ k_ ≠ gb210) (.slice (some ad209) y235.length c0) y235) ∧ (Kd.N k39 39 w' w.heap.size (fun k_ => (P0_ k_ ∨ w.heap.size ≤ k_) ∧ some k_ ≠ (s_.2 : Value).ownBlock ∧ some k_ ≠ (.slice Ao12 y206.length co12 : Value).ownBlock ∧ k_ ≠ gb205 ∧ k_ ≠ gb210) s_.1 y240) ∧ (Kd.N k39 39 w' w.heap.size (fun k_ => (P0_ k_ ∨ w.heap.size ≤ k_) ∧ some k_ ≠ (s_.1 : Value).ownBlock ∧ some k_ ≠ (.slice Ao12 y206.length co12 : Value).ownBlock ∧ k_ ≠ gb205 ∧ k_ ≠ gb210) s_.2 y243) ∧ (Kd.V k39 39 w' w.heap.size (fun k_ => (P0_ k_ ∨ w.heap.size ≤ k_) ∧ some k_ ≠ (s_.1 : Value).ownBlock ∧ some k_ ≠ (s_.2 : Value).ownBlock ∧ some k_ ≠ (.slice Ao12 y206.length co12 : Value).ownBlock ∧ k_ ≠ gb205 ∧ k_ ≠ gb210) (.slice (some ad209) l0.length c0) l0) ∧ (Kd.R (Kd.int .u8) 5 w' w.heap.size (fun k_ => (w.heap.size ≤ k_)) (.slice Ao12 y206.length co12) y206) ∧ (Kd.V (Kd.int .u8) 5 w' w.heap.size (fun k_ => (P0_ k_ ∨ w.heap.size ≤ k_) ∧ some k_ ≠ (s_.1 : Value).ownBlock ∧ some k_ ≠ (s_.2 : Value).ownBlock ∧ some k_ ≠ (.slice Ao12 y206.length co12 : Value).ownBlock ∧ k_ ≠ gb205 ∧ k_ ≠ gb210) (.slice A209_2 ((rd_T39 l0 (ji5)).f2).length c209_2) ((rd_T39 l0 (ji5)).f2)) ∧ (w'.heap[gb205]? = some (.cells #[.int .i64 a1_0, .int .i64 a1_1, .slice Ao12 y206.length co12] 39 (0, 0))) ∧ (w'.heap[gb210]? = some (.cells #[.int .i64 ((rd_T39 l0 (ji5)).f0), .int .i64 ((rd_T39 l0 (ji5)).f1), .slice A209_2 ((rd_T39 l0 (ji5)).f2).length c209_2] 39 (0, 0))) ∧ (Below w.heap.size w w')) ?_ ?_
                              rotate_left
                              · intro hCont
                                refine two_ (i := 3) (j := 12) (Ni := some 58) (Nj := some 67) #[true, true, true, true, true, true, true, true, true, true, true, true, false, false, false] #[true, true, true, false, true, true, true, true, true, true, true, true, true, false, false] rfl rfl rfl rfl (two_of HT_.out (by kernel_rfl)) (by decide) (by decide) (fun K hK => ?_) (fun K hK => ?_)
                                · skip
                                  refine Kd.N_append_rows_step k39 (w0 := w) w.heap.size (by rfl) (.const (.slice none 0 0)) (.tmp 57) 29 39 (.agg #[(.int .i64 0), (.int .i64 0), (.slice none 0 0)]) 40 rfl Try.underlying29 info39 rfl (by decide) (by omega) (.slice none 0 0) ([] : List (S39)) y235 _ _ _ (fun k_ => (P0_ k_ ∨ w.heap.size ≤ k_) ∧ some k_ ≠ (.slice Ao12 y206.length co12 : Value).ownBlock ∧ k_ ≠ gb205 ∧ k_ ≠ gb210) (fun k_ => ((fun k_ => (P0_ k_ ∨ w.heap.size ≤ k_) ∧ some k_ ≠ (.slice Ao12 y206.length co12 : Value).ownBlock ∧ k_ ≠ gb205 ∧ k_ ≠ gb210)) k_ ∧ some k_ ≠ (.slice none 0 0 : Value).ownBlock) rfl rfl ?aO ?aR (fun _ hk => hk) ?aF ?aB ?aS ?aL ?_
                                  (case aR => exact (by skip; exact Kd.V_F (Kd.V_mono (ok' := (fun k_ => ((fun k_ => (P0_ k_ ∨ w.heap.size ≤ k_) ∧ some k_ ≠ (.slice Ao12 y206.length co12 : Value).ownBlock ∧ k_ ≠ gb205 ∧ k_ ≠ gb210)) k_ ∧ some k_ ≠ (.slice none 0 0 : Value).ownBlock)) (HO239.out) (fun k_ hk => ⟨⟨hk.1, ⟨hk.2.1, ⟨hk.2.2.1, hk.2.2.2⟩⟩⟩, (by simp [Value.ownBlock])⟩))))
                                  (case aB => exact (by repeat (first | (with_reducible first | exact HB.out | apply below_alloc | apply pw_below_drewN | apply below_drew1 | refine below_set ?_ GE205.out | refine below_set ?_ GE210.out) | exact HB.out)))
                                  (case aF => exact (fun k_ hk => ⟨(.inr (Nat.le_trans (below_size (by repeat (first | (with_reducible first | exact HB.out | apply below_alloc | apply pw_below_drewN | apply below_drew1 | refine below_set ?_ GE205.out | refine below_set ?_ GE210.out) | exact HB.out))) hk)), Kd.fresh' (Kd.R_lt (by (with_reducible repeat (first | apply Kd.R_alloc | apply Kd.R_drewN | apply Kd.R_drew)); exact HO_206002.out)) k_ hk, Kd.freshB (g := gb205) (o := .cells #[.int .i64 a1_0, .int .i64 a1_1, .slice Ao12 y206.length co12] 39 (0, 0)) (by (with_reducible repeat (first | refine blk_drewN ?_ _ | refine blk_drew ?_ | refine blk_alloc ?_ _)); exact BK205.out) k_ hk, Kd.freshB (g := gb210) (o := .cells #[.int .i64 ((rd_T39 l0 (ji5)).f0), .int .i64 ((rd_T39 l0 (ji5)).f1), .slice A209_2 ((rd_T39 l0 (ji5)).f2).length c209_2] 39 (0, 0)) (by (with_reducible repeat (first | refine blk_drewN ?_ _ | refine blk_drew ?_ | refine blk_alloc ?_ _)); exact BK210.out) k_ hk⟩))
                                  (case aO => exact ((Kd.N_nil _ _ _ _ (fun k_ => (P0_ k_ ∨ w.heap.size ≤ k_) ∧ some k_ ≠ (.slice Ao12 y206.length co12 : Value).ownBlock ∧ k_ ≠ gb205 ∧ k_ ≠ gb210))))
                                  (case aS => exact (below_size (by repeat (first | (with_reducible first | exact HB.out | apply below_alloc | apply pw_below_drewN | apply below_drew1 | refine below_set ?_ GE205.out | refine below_set ?_ GE210.out) | exact HB.out))))
                                  (case aL => have := LMc69.out; omega)
                                  intro v241 w73 ho hb hg hat
                                  rw [← Ny240.out] at ho
                                  have n0_ := Aside0.mk (Kd.V_afterv (Kd.V_apart_nil (by (with_reducible repeat (first | apply Kd.V_alloc | apply Kd.V_drewN | apply Kd.V_drew)); exact HO_0.out)) hg hat)
                                  have n1_ := Aside0.mk (Kd.R_grown (by (with_reducible repeat (first | apply Kd.R_alloc | apply Kd.R_drewN | apply Kd.R_drew)); exact HO_206002.out) hg (fun _ _ => by simp [Value.ownBlock]))
                                  have n2_ := Aside0.mk (Kd.V_afterv (Kd.V_apart_nil (by (with_reducible repeat (first | apply Kd.V_alloc | apply Kd.V_drewN | apply Kd.V_drew)); exact HO_211002.out)) hg hat)
                                  have n3_ := Aside0.mk (blk_grown (g := gb205) (o := .cells #[.int .i64 a1_0, .int .i64 a1_1, .slice Ao12 y206.length co12] 39 (0, 0)) (by (with_reducible repeat (first | refine blk_drewN ?_ _ | refine blk_drew ?_ | refine blk_alloc ?_ _)); exact BK205.out) hg (by simp [Value.ownBlock]))
                                  have n4_ := Aside0.mk (blk_grown (g := gb210) (o := .cells #[.int .i64 ((rd_T39 l0 (ji5)).f0), .int .i64 ((rd_T39 l0 (ji5)).f1), .slice A209_2 ((rd_T39 l0 (ji5)).f2).length c209_2] 39 (0, 0)) (by (with_reducible repeat (first | refine blk_drewN ?_ _ | refine blk_drew ?_ | refine blk_alloc ?_ _)); exact BK210.out) hg (by simp [Value.ownBlock]))
                                  have n5_ := Aside0.mk (Kd.V_afterv (Kd.V_apart_nil (by (with_reducible repeat (first | apply Kd.V_alloc | apply Kd.V_drewN | apply Kd.V_drew)); exact HO239.out)) hg hat)
                                  have n6_ := Aside0.mk (hb)
                                  have n7_ := Aside0.mk (ho)
                                  clear HO_0
                                  clear HO_206002
                                  clear HO_211002
                                  clear BK205
                                  clear BK210
                                  clear HO239
                                  clear HB
                                  have HO_0 := n0_
                                  have HO_206002 := n1_
                                  have HO_211002 := n2_
                                  have BK205 := n3_
                                  have BK210 := n4_
                                  have HO239 := n5_
                                  have HB := n6_
                                  have HO242 := n7_
                                  clear n0_ n1_ n2_ n3_ n4_ n5_ n6_ n7_
                                  clear ho hb hg hat
                                  refine hK.out _ _ ⟨(blk_cell BK210.out 0).trans rfl, (blk_cell BK210.out 1).trans rfl, (blk_cell BK210.out 2).trans rfl, (blk_cell BK205.out 0).trans rfl, (blk_cell BK205.out 1).trans rfl, (blk_cell BK205.out 2).trans rfl⟩ (fun hHeld => ?_)
                                  clear hK K
                                  refine norm_ (a' := ?_) ?_ ?_
                                  rotate_left
                                  · show Act.put _ (some 58) _ = _
                                    simp only [Act.put, List.setIfInBounds_toArray, List.set_cons_zero, List.set_cons_succ, i64_w, i32_w]
                                    rfl
                                  refine one_ (i := 12) (N := some 67) #[true, true, true, true, true, true, true, true, true, true, true, true, true, false, false] rfl rfl (one_of HT_.out (by kernel_rfl)) (by decide) (fun K hK => ?_)
                                  refine Kd.N_lit_step k39 _ 39 ?hg (N' := 67) ?hd (xs := ([(⟨((rd_T39 l0 (ji5)).f0), wrap64 (((rd_T39 l0 (ji5)).f1) + a1_1), ([] : List Int)⟩ : S39)] : List (S39))) (inner := [.int .i64 ((rd_T39 l0 (ji5)).f0), .int .i64 (wrap64 (((rd_T39 l0 (ji5)).f1) + a1_1)), .slice none 0 0]) (ok := (fun k_ => (P0_ k_ ∨ w.heap.size ≤ k_) ∧ some k_ ≠ (.slice Ao12 y206.length co12 : Value).ownBlock ∧ some k_ ≠ (v241 : Value).ownBlock ∧ k_ ≠ gb205 ∧ k_ ≠ gb210)) (okp := (fun k_ => (P0_ k_ ∨ w.heap.size ≤ k_) ∧ some k_ ≠ (.slice Ao12 y206.length co12 : Value).ownBlock ∧ some k_ ≠ (v241 : Value).ownBlock ∧ k_ ≠ gb205 ∧ k_ ≠ gb210)) ?hr ?hp (fun _ hk => hk) ((show ∀ k_, w73.heap.size ≤ k_ → (fun k_ => (P0_ k_ ∨ w.heap.size ≤ k_) ∧ some k_ ≠ (.slice Ao12 y206.length co12 : Value).ownBlock ∧ some k_ ≠ (v241 : Value).ownBlock ∧ k_ ≠ gb205 ∧ k_ ≠ gb210) k_ from fun k_ hk => ⟨(.inr (Nat.le_trans (below_size (by repeat (first | (with_reducible first | exact HB.out | apply below_alloc | apply pw_below_drewN | apply below_drew1 | refine below_set ?_ GE205.out | refine below_set ?_ GE210.out) | exact HB.out))) hk)), Kd.fresh' (Kd.R_lt (by (with_reducible repeat (first | apply Kd.R_alloc | apply Kd.R_drewN | apply Kd.R_drew)); exact HO_206002.out)) k_ hk, Kd.fresh' (Kd.N_lt (by (with_reducible repeat (first | apply Kd.N_alloc | apply Kd.N_drewN | apply Kd.N_drew)); exact HO242.out)) k_ hk, Kd.freshB (g := gb205) (o := .cells #[.int .i64 a1_0, .int .i64 a1_1, .slice Ao12 y206.length co12] 39 (0, 0)) (by (with_reducible repeat (first | refine blk_drewN ?_ _ | refine blk_drew ?_ | refine blk_alloc ?_ _)); exact BK205.out) k_ hk, Kd.freshB (g := gb210) (o := .cells #[.int .i64 ((rd_T39 l0 (ji5)).f0), .int .i64 ((rd_T39 l0 (ji5)).f1), .slice A209_2 ((rd_T39 l0 (ji5)).f2).length c209_2] 39 (0, 0)) (by (with_reducible repeat (first | refine blk_drewN ?_ _ | refine blk_drew ?_ | refine blk_alloc ?_ _)); exact BK210.out) k_ hk⟩) _ (Nat.le_refl _)) (Below.refl _ _) (Nat.le_refl _) (by simp) ?_; (case hd => rfl); (case hg => rfl); (case hr => first | (go_simp; done) | (go_simp; rfl)); (case hp => exact (Reps.c3 (show Kd.FK k39 _ _ (⟨((rd_T39 l0 (ji5)).f0), wrap64 (((rd_T39 l0 (ji5)).f1) + a1_1), ([] : List Int)⟩ : S39) [.int .i64 ((rd_T39 l0 (ji5)).f0), .int .i64 (wrap64 (((rd_T39 l0 (ji5)).f1) + a1_1)), .slice none 0 0] from (k39_mkF _ _ (⟨((rd_T39 l0 (ji5)).f0), wrap64 (((rd_T39 l0 (ji5)).f1) + a1_1), ([] : List Int)⟩ : S39) (Nat.le_refl _) (Kd.F_nil _ _ _))) (Reps.none _ _)))
                                  intro v244 w74 ho75 hb hg_ hnew_
                                  clear hg_ hnew_
                                  (first | rw [← Ny243.out] at ho75 | (simp only [Int.reduceToNat] at ho75; rw [← Ny243.out] at ho75))
                                  have n0_ := Aside0.mk (Kd.V_elder' (by (with_reducible repeat (first | apply Kd.V_alloc | apply Kd.V_drewN | apply Kd.V_drew)); exact HO_0.out) (Kd.N_base ho75) hb)
                                  have n1_ := Aside0.mk (Kd.R_below (by (with_reducible repeat (first | apply Kd.R_alloc | apply Kd.R_drewN | apply Kd.R_drew)); exact HO_206002.out) hb)
                                  have n2_ := Aside0.mk (Kd.V_elder' (by (with_reducible repeat (first | apply Kd.V_alloc | apply Kd.V_drewN | apply Kd.V_drew)); exact HO_211002.out) (Kd.N_base ho75) hb)
                                  have n3_ := Aside0.mk (Kd.V_elder' (by (with_reducible repeat (first | apply Kd.V_alloc | apply Kd.V_drewN | apply Kd.V_drew)); exact HO239.out) (Kd.N_base ho75) hb)
                                  have n4_ := Aside0.mk (Kd.N_elder' (by (with_reducible repeat (first | apply Kd.N_alloc | apply Kd.N_drewN | apply Kd.N_drew)); exact HO242.out) (Kd.N_base ho75) hb)
                                  have n5_ := Aside0.mk (Kd.N_lower ho75 (below_size (by repeat (first | (with_reducible first | exact HB.out | apply below_alloc | apply pw_below_drewN | apply below_drew1 | refine below_set ?_ GE205.out | refine below_set ?_ GE210.out) | exact HB.out))))
                                  have n6_ := Aside0.mk (blk_below (g := gb205) (o := .cells #[.int .i64 a1_0, .int .i64 a1_1, .slice Ao12 y206.length co12] 39 (0, 0)) (by (with_reducible repeat (first | refine blk_drewN ?_ _ | refine blk_drew ?_ | refine blk_alloc ?_ _)); exact BK205.out) hb)
                                  have n7_ := Aside0.mk (blk_below (g := gb210) (o := .cells #[.int .i64 ((rd_T39 l0 (ji5)).f0), .int .i64 ((rd_T39 l0 (ji5)).f1), .slice A209_2 ((rd_T39 l0 (ji5)).f2).length c209_2] 39 (0, 0)) (by (with_reducible repeat (first | refine blk_drewN ?_ _ | refine blk_drew ?_ | refine blk_alloc ?_ _)); exact BK210.out) hb)
                                  have n8_ := Aside0.mk (below_step (by repeat (first | (with_reducible first | exact HB.out | apply below_alloc | apply pw_below_drewN | apply below_drew1 | refine below_set ?_ GE205.out | refine below_set ?_ GE210.out) | exact HB.out)) hb)
                                  clear HO_0
                                  clear HO_206002
                                  clear HO_211002
                                  clear HO239
                                  clear HO242
                                  clear BK205
                                  clear BK210
                                  clear HB
                                  have HO_0 := n0_
                                  have HO_206002 := n1_
                                  have HO_211002 := n2_
                                  have HO239 := n3_
                                  have HO242 := n4_
                                  have HO245 := n5_
                                  have BK205 := n6_
                                  have BK210 := n7_
                                  have HB := n8_
                                  clear n0_ n1_ n2_ n3_ n4_ n5_ n6_ n7_ n8_
                                  clear hb ho75
                                  refine hK.out _ _ ⟨(blk_cell BK210.out 0).trans rfl, (blk_cell BK210.out 1).trans rfl, (blk_cell BK210.out 2).trans rfl, (blk_cell BK205.out 0).trans rfl, (blk_cell BK205.out 1).trans rfl, (blk_cell BK205.out 2).trans rfl⟩ (fun hHeld => ?_)
                                  clear hK K
                                  refine norm_ (a' := ?_) ?_ ?_
                                  rotate_left
                                  · show Act.put _ (some 67) _ = _
                                    simp only [Act.put, List.setIfInBounds_toArray, List.set_cons_zero, List.set_cons_succ, i64_w, i32_w]
                                    rfl
                                  exact norm_ (by simp only [putAll, Act.put, List.setIfInBounds_toArray, List.set_cons_zero, List.set_cons_succ]) (hCont (v241, v244) _ ⟨hHeld, (by (with_reducible repeat (first | apply Kd.V_alloc | apply Kd.V_drewN | apply Kd.V_drew)); exact Kd.V_mono HO239.out (fun _ hk => ⟨hk.1.1.1, ⟨hk.1.2, ⟨hk.2, ⟨hk.1.1.2.1, ⟨hk.1.1.2.2.1, hk.1.1.2.2.2⟩⟩⟩⟩⟩)), (by (with_reducible repeat (first | apply Kd.N_alloc | apply Kd.N_drewN | apply Kd.N_drew)); exact Kd.N_mono HO242.out (fun _ hk => ⟨hk.1.1, ⟨hk.2, ⟨hk.1.2.1, ⟨hk.1.2.2.1, hk.1.2.2.2⟩⟩⟩⟩)), (by (with_reducible repeat (first | apply Kd.N_alloc | apply Kd.N_drewN | apply Kd.N_drew)); exact Kd.N_mono HO245.out (fun _ hk => ⟨hk.1, ⟨hk.2.2.1, ⟨hk.2.1, ⟨hk.2.2.2.1, hk.2.2.2.2⟩⟩⟩⟩)), (by (with_reducible repeat (first | apply Kd.V_alloc | apply Kd.V_drewN | apply Kd.V_drew)); exact Kd.V_mono HO_0.out (fun _ hk => ⟨hk.1.1.1, ⟨hk.1.2, ⟨hk.2, ⟨hk.1.1.2.1, ⟨hk.1.1.2.2.1, hk.1.1.2.2.2⟩⟩⟩⟩⟩)), (by (with_reducible repeat (first | apply Kd.R_alloc | apply Kd.R_drewN | apply Kd.R_drew)); exact HO_206002.out), (by (with_reducible repeat (first | apply Kd.V_alloc | apply Kd.V_drewN | apply Kd.V_drew)); exact Kd.V_mono HO_211002.out (fun _ hk => ⟨hk.1.1.1, ⟨hk.1.2, ⟨hk.2, ⟨hk.1.1.2.1, ⟨hk.1.1.2.2.1, hk.1.1.2.2.2⟩⟩⟩⟩⟩)), (by (with_reducible repeat (first | refine blk_drewN ?_ _ | refine blk_drew ?_ | refine blk_alloc ?_ _)); exact BK205.out), (by (with_reducible repeat (first | refine blk_drewN ?_ _ | refine blk_drew ?_ | refine blk_alloc ?_ _)); exact BK210.out), (by repeat (first | (with_reducible first | exact HB.out | apply below_alloc | apply pw_below_drewN | apply below_drew1 | refine below_set ?_ GE205.out | refine below_set ?_ GE210.out) | exact HB.out))⟩)
                                · skip
                                  refine Kd.N_lit_step k39 _ 39 ?hg (N' := 67) ?hd (xs := ([(⟨((rd_T39 l0 (ji5)).f0), wrap64 (((rd_T39 l0 (ji5)).f1) + a1_1), ([] : List Int)⟩ : S39)] : List (S39))) (inner := [.int .i64 ((rd_T39 l0 (ji5)).f0), .int .i64 (wrap64 (((rd_T39 l0 (ji5)).f1) + a1_1)), .slice none 0 0]) (ok := (fun k_ => (P0_ k_ ∨ w.heap.size ≤ k_) ∧ some k_ ≠ (.slice Ao12 y206.length co12 : Value).ownBlock ∧ k_ ≠ gb205 ∧ k_ ≠ gb210)) (okp := (fun k_ => (P0_ k_ ∨ w.heap.size ≤ k_) ∧ some k_ ≠ (.slice Ao12 y206.length co12 : Value).ownBlock ∧ k_ ≠ gb205 ∧ k_ ≠ gb210)) ?hr ?hp (fun _ hk => hk) ((show ∀ k_, w71.heap.size ≤ k_ → (fun k_ => (P0_ k_ ∨ w.heap.size ≤ k_) ∧ some k_ ≠ (.slice Ao12 y206.length co12 : Value).ownBlock ∧ k_ ≠ gb205 ∧ k_ ≠ gb210) k_ from fun k_ hk => ⟨(.inr (Nat.le_trans (below_size (by repeat (first | (with_reducible first | exact HB.out | apply below_alloc | apply pw_below_drewN | apply below_drew1 | refine below_set ?_ GE205.out | refine below_set ?_ GE210.out) | exact HB.out))) hk)), Kd.fresh' (Kd.R_lt (by (with_reducible repeat (first | apply Kd.R_alloc | apply Kd.R_drewN | apply Kd.R_drew)); exact HO_206002.out)) k_ hk, Kd.freshB (g := gb205) (o := .cells #[.int .i64 a1_0, .int .i64 a1_1, .slice Ao12 y206.length co12] 39 (0, 0)) (by (with_reducible repeat (first | refine blk_drewN ?_ _ | refine blk_drew ?_ | refine blk_alloc ?_ _)); exact BK205.out) k_ hk, Kd.freshB (g := gb210) (o := .cells #[.int .i64 ((rd_T39 l0 (ji5)).f0), .int .i64 ((rd_T39 l0 (ji5)).f1), .slice A209_2 ((rd_T39 l0 (ji5)).f2).length c209_2] 39 (0, 0)) (by (with_reducible repeat (first | refine blk_drewN ?_ _ | refine blk_drew ?_ | refine blk_alloc ?_ _)); exact BK210.out) k_ hk⟩) _ (Nat.le_refl _)) (Below.refl _ _) (Nat.le_refl _) (by simp) ?_; (case hd => rfl); (case hg => rfl); (case hr => first | (go_simp; done) | (go_simp; rfl)); (case hp => exact (Reps.c3 (show Kd.FK k39 _ _ (⟨((rd_T39 l0 (ji5)).f0), wrap64 (((rd_T39 l0 (ji5)).f1) + a1_1), ([] : List Int)⟩ : S39) [.int .i64 ((rd_T39 l0 (ji5)).f0), .int .i64 (wrap64 (((rd_T39 l0 (ji5)).f1) + a1_1)), .slice none 0 0] from (k39_mkF _ _ (⟨((rd_T39 l0 (ji5)).f0), wrap64 (((rd_T39 l0 (ji5)).f1) + a1_1), ([] : List Int)⟩ : S39) (Nat.le_refl _) (Kd.F_nil _ _ _))) (Reps.none _ _)))
                                  intro v244 w73 ho74 hb hg_ hnew_
                                  clear hg_ hnew_
                                  (first | rw [← Ny243.out] at ho74 | (simp only [Int.reduceToNat] at ho74; rw [← Ny243.out] at ho74))
                                  have n0_ := Aside0.mk (Kd.V_elder' (by (with_reducible repeat (first | apply Kd.V_alloc | apply Kd.V_drewN | apply Kd.V_drew)); exact HO_0.out) (Kd.N_base ho74) hb)
                                  have n1_ := Aside0.mk (Kd.R_below (by (with_reducible repeat (first | apply Kd.R_alloc | apply Kd.R_drewN | apply Kd.R_drew)); exact HO_206002.out) hb)
                                  have n2_ := Aside0.mk (Kd.V_elder' (by (with_reducible repeat (first | apply Kd.V_alloc | apply Kd.V_drewN | apply Kd.V_drew)); exact HO_211002.out) (Kd.N_base ho74) hb)
                                  have n3_ := Aside0.mk (Kd.V_elder' (by (with_reducible repeat (first | apply Kd.V_alloc | apply Kd.V_drewN | apply Kd.V_drew)); exact HO239.out) (Kd.N_base ho74) hb)
                                  have n4_ := Aside0.mk (Kd.N_lower ho74 (below_size (by repeat (first | (with_reducible first | exact HB.out | apply below_alloc | apply pw_below_drewN | apply below_drew1 | refine below_set ?_ GE205.out | refine below_set ?_ GE210.out) | exact HB.out))))
                                  have n5_ := Aside0.mk (blk_below (g := gb205) (o := .cells #[.int .i64 a1_0, .int .i64 a1_1, .slice Ao12 y206.length co12] 39 (0, 0)) (by (with_reducible repeat (first | refine blk_drewN ?_ _ | refine blk_drew ?_ | refine blk_alloc ?_ _)); exact BK205.out) hb)
                                  have n6_ := Aside0.mk (blk_below (g := gb210) (o := .cells #[.int .i64 ((rd_T39 l0 (ji5)).f0), .int .i64 ((rd_T39 l0 (ji5)).f1), .slice A209_2 ((rd_T39 l0 (ji5)).f2).length c209_2] 39 (0, 0)) (by (with_reducible repeat (first | refine blk_drewN ?_ _ | refine blk_drew ?_ | refine blk_alloc ?_ _)); exact BK210.out) hb)
                                  have n7_ := Aside0.mk (Kd.C_below (by repeat (first | (with_reducible exact HR209_2.out) | (with_reducible refine Kd.C_alloc ?_ _) | (with_reducible refine Kd.C_drewN ?_ _) | (with_reducible refine Kd.C_drew ?_) | exact HR209_2.out)) hb)
                                  have n8_ := Aside0.mk (below_step (by repeat (first | (with_reducible first | exact HB.out | apply below_alloc | apply pw_below_drewN | apply below_drew1 | refine below_set ?_ GE205.out | refine below_set ?_ GE210.out) | exact HB.out)) hb)
                                  clear HO_0
                                  clear HO_206002
                                  clear HO_211002
                                  clear HO239
                                  clear BK205
                                  clear BK210
                                  clear HR209_2
                                  clear HB
                                  have HO_0 := n0_
                                  have HO_206002 := n1_
                                  have HO_211002 := n2_
                                  have HO239 := n3_
                                  have HO245 := n4_
                                  have BK205 := n5_
                                  have BK210 := n6_
                                  have HR209_2 := n7_
                                  have HB := n8_
                                  clear n0_ n1_ n2_ n3_ n4_ n5_ n6_ n7_ n8_
                                  clear hb ho74
                                  refine hK.out _ _ ⟨(blk_cell BK210.out 0).trans rfl, (blk_cell BK210.out 1).trans rfl, (blk_cell BK210.out 2).trans rfl, (blk_cell BK205.out 0).trans rfl, (blk_cell BK205.out 1).trans rfl, (blk_cell BK205.out 2).trans rfl⟩ (fun hHeld => ?_)
                                  clear hK K
                                  refine norm_ (a' := ?_) ?_ ?_
                                  rotate_left
                                  · show Act.put _ (some 67) _ = _
                                    simp only [Act.put, List.setIfInBounds_toArray, List.set_cons_zero, List.set_cons_succ, i64_w, i32_w]
                                    rfl
                                  refine one_ (i := 3) (N := some 58) #[true, true, true, true, true, true, true, true, true, true, true, true, true, false, false] rfl rfl (one_of HT_.out (by kernel_rfl)) (by decide) (fun K hK => ?_)
                                  refine Kd.N_append_rows_step k39 (w0 := w) w.heap.size (by rfl) (.const (.slice none 0 0)) (.tmp 57) 29 39 (.agg #[(.int .i64 0), (.int .i64 0), (.slice none 0 0)]) 40 rfl Try.underlying29 info39 rfl (by decide) (by omega) (.slice none 0 0) ([] : List (S39)) y235 _ _ _ (fun k_ => (P0_ k_ ∨ w.heap.size ≤ k_) ∧ some k_ ≠ (.slice Ao12 y206.length co12 : Value).ownBlock ∧ some k_ ≠ (v244 : Value).ownBlock ∧ k_ ≠ gb205 ∧ k_ ≠ gb210) (fun k_ => ((fun k_ => (P0_ k_ ∨ w.heap.size ≤ k_) ∧ some k_ ≠ (.slice Ao12 y206.length co12 : Value).ownBlock ∧ some k_ ≠ (v244 : Value).ownBlock ∧ k_ ≠ gb205 ∧ k_ ≠ gb210)) k_ ∧ some k_ ≠ (.slice none 0 0 : Value).ownBlock) rfl rfl ?aO ?aR (fun _ hk => hk) ?aF ?aB ?aS ?aL ?_
                                  (case aR => exact (by skip; exact Kd.V_F (Kd.V_mono (ok' := (fun k_ => ((fun k_ => (P0_ k_ ∨ w.heap.size ≤ k_) ∧ some k_ ≠ (.slice Ao12 y206.length co12 : Value).ownBlock ∧ some k_ ≠ (v244 : Value).ownBlock ∧ k_ ≠ gb205 ∧ k_ ≠ gb210)) k_ ∧ some k_ ≠ (.slice none 0 0 : Value).ownBlock)) (HO239.out) (fun k_ hk => ⟨⟨hk.1.1, ⟨hk.1.2.1, ⟨hk.2, ⟨hk.1.2.2.1, hk.1.2.2.2⟩⟩⟩⟩, (by simp [Value.ownBlock])⟩))))
                                  (case aB => exact (by repeat (first | (with_reducible first | exact HB.out | apply below_alloc | apply pw_below_drewN | apply below_drew1 | refine below_set ?_ GE205.out | refine below_set ?_ GE210.out) | exact HB.out)))
                                  (case aF => exact (fun k_ hk => ⟨(.inr (Nat.le_trans (below_size (by repeat (first | (with_reducible first | exact HB.out | apply below_alloc | apply pw_below_drewN | apply below_drew1 | refine below_set ?_ GE205.out | refine below_set ?_ GE210.out) | exact HB.out))) hk)), Kd.fresh' (Kd.R_lt (by (with_reducible repeat (first | apply Kd.R_alloc | apply Kd.R_drewN | apply Kd.R_drew)); exact HO_206002.out)) k_ hk, Kd.fresh' (Kd.N_lt (by (with_reducible repeat (first | apply Kd.N_alloc | apply Kd.N_drewN | apply Kd.N_drew)); exact HO245.out)) k_ hk, Kd.freshB (g := gb205) (o := .cells #[.int .i64 a1_0, .int .i64 a1_1, .slice Ao12 y206.length co12] 39 (0, 0)) (by (with_reducible repeat (first | refine blk_drewN ?_ _ | refine blk_drew ?_ | refine blk_alloc ?_ _)); exact BK205.out) k_ hk, Kd.freshB (g := gb210) (o := .cells #[.int .i64 ((rd_T39 l0 (ji5)).f0), .int .i64 ((rd_T39 l0 (ji5)).f1), .slice A209_2 ((rd_T39 l0 (ji5)).f2).length c209_2] 39 (0, 0)) (by (with_reducible repeat (first | refine blk_drewN ?_ _ | refine blk_drew ?_ | refine blk_alloc ?_ _)); exact BK210.out) k_ hk⟩))
                                  (case aO => exact ((Kd.N_nil _ _ _ _ (fun k_ => (P0_ k_ ∨ w.heap.size ≤ k_) ∧ some k_ ≠ (.slice Ao12 y206.length co12 : Value).ownBlock ∧ some k_ ≠ (v244 : Value).ownBlock ∧ k_ ≠ gb205 ∧ k_ ≠ gb210))))
                                  (case aS => exact (below_size (by repeat (first | (with_reducible first | exact HB.out | apply below_alloc | apply pw_below_drewN | apply below_drew1 | refine below_set ?_ GE205.out | refine below_set ?_ GE210.out) | exact HB.out))))
                                  (case aL => have := LMc69.out; omega)
                                  intro v241 w75 ho hb hg hat
                                  rw [← Ny240.out] at ho
                                  have n0_ := Aside0.mk (Kd.V_afterv (Kd.V_apart_nil (by (with_reducible repeat (first | apply Kd.V_alloc | apply Kd.V_drewN | apply Kd.V_drew)); exact HO_0.out)) hg hat)
                                  have n1_ := Aside0.mk (Kd.R_grown (by (with_reducible repeat (first | apply Kd.R_alloc | apply Kd.R_drewN | apply Kd.R_drew)); exact HO_206002.out) hg (fun _ _ => by simp [Value.ownBlock]))
                                  have n2_ := Aside0.mk (Kd.V_afterv (Kd.V_apart_nil (by (with_reducible repeat (first | apply Kd.V_alloc | apply Kd.V_drewN | apply Kd.V_drew)); exact HO_211002.out)) hg hat)
                                  have n3_ := Aside0.mk (blk_grown (g := gb205) (o := .cells #[.int .i64 a1_0, .int .i64 a1_1, .slice Ao12 y206.length co12] 39 (0, 0)) (by (with_reducible repeat (first | refine blk_drewN ?_ _ | refine blk_drew ?_ | refine blk_alloc ?_ _)); exact BK205.out) hg (by simp [Value.ownBlock]))
                                  have n4_ := Aside0.mk (blk_grown (g := gb210) (o := .cells #[.int .i64 ((rd_T39 l0 (ji5)).f0), .int .i64 ((rd_T39 l0 (ji5)).f1), .slice A209_2 ((rd_T39 l0 (ji5)).f2).length c209_2] 39 (0, 0)) (by (with_reducible repeat (first | refine blk_drewN ?_ _ | refine blk_drew ?_ | refine blk_alloc ?_ _)); exact BK210.out) hg (by simp [Value.ownBlock]))
                                  have n5_ := Aside0.mk (Kd.V_afterv (Kd.V_apart_nil (by (with_reducible repeat (first | apply Kd.V_alloc | apply Kd.V_drewN | apply Kd.V_drew)); exact HO239.out)) hg hat)
                                  have n6_ := Aside0.mk (Kd.N_afterv (Kd.N_apart_nil (by (with_reducible repeat (first | apply Kd.N_alloc | apply Kd.N_drewN | apply Kd.N_drew)); exact HO245.out)) hg hat)
                                  have n7_ := Aside0.mk (hb)
                                  have n8_ := Aside0.mk (ho)
                                  clear HO_0
                                  clear HO_206002
                                  clear HO_211002
                                  clear BK205
                                  clear BK210
                                  clear HO239
                                  clear HO245
                                  clear HB
                                  have HO_0 := n0_
                                  have HO_206002 := n1_
                                  have HO_211002 := n2_
                                  have BK205 := n3_
                                  have BK210 := n4_
                                  have HO239 := n5_
                                  have HO245 := n6_
                                  have HB := n7_
                                  have HO242 := n8_
                                  clear n0_ n1_ n2_ n3_ n4_ n5_ n6_ n7_ n8_
                                  clear ho hb hg hat
                                  refine hK.out _ _ ⟨(blk_cell BK210.out 0).trans rfl, (blk_cell BK210.out 1).trans rfl, (blk_cell BK210.out 2).trans rfl, (blk_cell BK205.out 0).trans rfl, (blk_cell BK205.out 1).trans rfl, (blk_cell BK205.out 2).trans rfl⟩ (fun hHeld => ?_)
                                  clear hK K
                                  refine norm_ (a' := ?_) ?_ ?_
                                  rotate_left
                                  · show Act.put _ (some 58) _ = _
                                    simp only [Act.put, List.setIfInBounds_toArray, List.set_cons_zero, List.set_cons_succ, i64_w, i32_w]
                                    rfl
                                  exact norm_ (by simp only [putAll, Act.put, List.setIfInBounds_toArray, List.set_cons_zero, List.set_cons_succ]) (hCont (v241, v244) _ ⟨hHeld, (by (with_reducible repeat (first | apply Kd.V_alloc | apply Kd.V_drewN | apply Kd.V_drew)); exact Kd.V_mono HO239.out (fun _ hk => ⟨hk.1.1.1, ⟨hk.2, ⟨hk.1.2, ⟨hk.1.1.2.1, ⟨hk.1.1.2.2.1, hk.1.1.2.2.2⟩⟩⟩⟩⟩)), (by (with_reducible repeat (first | apply Kd.N_alloc | apply Kd.N_drewN | apply Kd.N_drew)); exact Kd.N_mono HO242.out (fun _ hk => ⟨hk.1, ⟨hk.2.2.1, ⟨hk.2.1, ⟨hk.2.2.2.1, hk.2.2.2.2⟩⟩⟩⟩)), (by (with_reducible repeat (first | apply Kd.N_alloc | apply Kd.N_drewN | apply Kd.N_drew)); exact Kd.N_mono HO245.out (fun _ hk => ⟨hk.1.1, ⟨hk.2, ⟨hk.1.2.1, ⟨hk.1.2.2.1, hk.1.2.2.2⟩⟩⟩⟩)), (by (with_reducible repeat (first | apply Kd.V_alloc | apply Kd.V_drewN | apply Kd.V_drew)); exact Kd.V_mono HO_0.out (fun _ hk => ⟨hk.1.1.1, ⟨hk.2, ⟨hk.1.2, ⟨hk.1.1.2.1, ⟨hk.1.1.2.2.1, hk.1.1.2.2.2⟩⟩⟩⟩⟩)), (by (with_reducible repeat (first | apply Kd.R_alloc | apply Kd.R_drewN | apply Kd.R_drew)); exact HO_206002.out), (by (with_reducible repeat (first | apply Kd.V_alloc | apply Kd.V_drewN | apply Kd.V_drew)); exact Kd.V_mono HO_211002.out (fun _ hk => ⟨hk.1.1.1, ⟨hk.2, ⟨hk.1.2, ⟨hk.1.1.2.1, ⟨hk.1.1.2.2.1, hk.1.1.2.2.2⟩⟩⟩⟩⟩)), (by (with_reducible repeat (first | refine blk_drewN ?_ _ | refine blk_drew ?_ | refine blk_alloc ?_ _)); exact BK205.out), (by (with_reducible repeat (first | refine blk_drewN ?_ _ | refine blk_drew ?_ | refine blk_alloc ?_ _)); exact BK210.out), (by repeat (first | (with_reducible first | exact HB.out | apply below_alloc | apply pw_below_drewN | apply below_drew1 | refine below_set ?_ GE205.out | refine below_set ?_ GE210.out) | exact HB.out))⟩)
                              rintro ⟨v241, v244⟩ w76 ⟨hS_, h0_, h1_, h2_, h3_, h4_, h5_, h6_, h7_, h8_⟩
                              have n0_ : Aside0 (Kd.V k39 39 w76 w.heap.size (fun k_ => (P0_ k_ ∨ w.heap.size ≤ k_) ∧ some k_ ≠ (v241 : Value).ownBlock ∧ some k_ ≠ (v244 : Value).ownBlock ∧ some k_ ≠ (.slice Ao12 y206.length co12 : Value).ownBlock ∧ k_ ≠ gb205 ∧ k_ ≠ gb210) (.slice (some ad209) y235.length c0) y235) := ⟨h0_⟩
                              have n1_ : Aside0 (Kd.N k39 39 w76 w.heap.size (fun k_ => (P0_ k_ ∨ w.heap.size ≤ k_) ∧ some k_ ≠ (v244 : Value).ownBlock ∧ some k_ ≠ (.slice Ao12 y206.length co12 : Value).ownBlock ∧ k_ ≠ gb205 ∧ k_ ≠ gb210) v241 y240) := ⟨h1_⟩
                              have n2_ : Aside0 (Kd.N k39 39 w76 w.heap.size (fun k_ => (P0_ k_ ∨ w.heap.size ≤ k_) ∧ some k_ ≠ (v241 : Value).ownBlock ∧ some k_ ≠ (.slice Ao12 y206.length co12 : Value).ownBlock ∧ k_ ≠ gb205 ∧ k_ ≠ gb210) v244 y243) := ⟨h2_⟩
                              have n3_ : Aside0 (Kd.V k39 39 w76 w.heap.size (fun k_ => (P0_ k_ ∨ w.heap.size ≤ k_) ∧ some k_ ≠ (v241 : Value).ownBlock ∧ some k_ ≠ (v244 : Value).ownBlock ∧ some k_ ≠ (.slice Ao12 y206.length co12 : Value).ownBlock ∧ k_ ≠ gb205 ∧ k_ ≠ gb210) (.slice (some ad209) l0.length c0) l0) := ⟨h3_⟩
                              have n4_ : Aside0 (Kd.R (Kd.int .u8) 5 w76 w.heap.size (fun k_ => (w.heap.size ≤ k_)) (.slice Ao12 y206.length co12) y206) := ⟨h4_⟩
                              have n5_ : Aside0 (Kd.V (Kd.int .u8) 5 w76 w.heap.size (fun k_ => (P0_ k_ ∨ w.heap.size ≤ k_) ∧ some k_ ≠ (v241 : Value).ownBlock ∧ some k_ ≠ (v244 : Value).ownBlock ∧ some k_ ≠ (.slice Ao12 y206.length co12 : Value).ownBlock ∧ k_ ≠ gb205 ∧ k_ ≠ gb210) (.slice A209_2 ((rd_T39 l0 (ji5)).f2).length c209_2) ((rd_T39 l0 (ji5)).f2)) := ⟨h5_⟩
                              have n6_ : Aside0 (w76.heap[gb205]? = some (.cells #[.int .i64 a1_0, .int .i64 a1_1, .slice Ao12 y206.length co12] 39 (0, 0))) := ⟨h6_⟩
                              have n7_ : Aside0 (w76.heap[gb210]? = some (.cells #[.int .i64 ((rd_T39 l0 (ji5)).f0), .int .i64 ((rd_T39 l0 (ji5)).f1), .slice A209_2 ((rd_T39 l0 (ji5)).f2).length c209_2] 39 (0, 0))) := ⟨h7_⟩
                              have n8_ : Aside0 (Below w.heap.size w w76) := ⟨h8_⟩
                              clear HO_0
                              clear HO_206002
                              clear HO_211002
                              clear BK205
                              clear BK210
                              clear HR209_2
                              clear HB
                              clear h0_ h1_ h2_ h3_ h4_ h5_ h6_ h7_ h8_
                              have HO239 := n0_
                              have HO242 := n1_
                              have HO245 := n2_
                              have HO_0 := n3_
                              have HO_206002 := n4_
                              have HO_211002 := n5_
                              have BK205 := n6_
                              have BK210 := n7_
                              have HB := n8_
                              clear n0_ n1_ n2_ n3_ n4_ n5_ n6_ n7_ n8_
                              have hHeld : w76.cell? ⟨gb210, 0, none⟩ = some (.int .i64 ((rd_T39 l0 (ji5)).f0)) ∧ w76.cell? ⟨gb210, 1, none⟩ = some (.int .i64 ((rd_T39 l0 (ji5)).f1)) ∧ w76.cell? ⟨gb210, 2, none⟩ = some (.slice A209_2 ((rd_T39 l0 (ji5)).f2).length c209_2) ∧ w76.cell? ⟨gb205, 0, none⟩ = some (.int .i64 a1_0) ∧ w76.cell? ⟨gb205, 1, none⟩ = some (.int .i64 a1_1) ∧ w76.cell? ⟨gb205, 2, none⟩ = some (.slice Ao12 y206.length co12) := hS_
                              obtain ⟨Ao78, co78, eo78⟩ := Kd.N_slice HO245.out
                              (first | subst eo78 | (injection eo78 with f1_ f2_ f3_; have f4_ := f1_.symm; have f5_ := f3_.symm; clear f1_ f2_ f3_; subst f4_; subst f5_))
                              refine norm_ (a' := ?_) ?_ ?_
                              rotate_left
                              · simp only [putAll, Act.put, List.setIfInBounds_toArray, List.set_cons_zero, List.set_cons_succ]
                                rfl
                              refine one_ (i := 13) (N := some 68) #[true, true, true, true, true, true, true, true, true, true, true, true, true, true, false] rfl rfl (one_of HT_.out (by kernel_rfl)) (by decide) (fun K hK => ?_)
                              refine Kd.N_append_rows_step k39 (w0 := w) w.heap.size (by rfl) (.tmp 58) (.tmp 67) 29 39 (.agg #[(.int .i64 0), (.int .i64 0), (.slice none 0 0)]) 40 rfl Try.underlying29 info39 rfl (by decide) (by omega) v241 y240 y243 _ _ _ (fun k_ => (P0_ k_ ∨ w.heap.size ≤ k_) ∧ some k_ ≠ (.slice Ao12 y206.length co12 : Value).ownBlock ∧ k_ ≠ gb205 ∧ k_ ≠ gb210) (fun k_ => ((fun k_ => (P0_ k_ ∨ w.heap.size ≤ k_) ∧ some k_ ≠ (.slice Ao12 y206.length co12 : Value).ownBlock ∧ k_ ≠ gb205 ∧ k_ ≠ gb210)) k_ ∧ some k_ ≠ (v241 : Value).ownBlock) rfl rfl ?aO ?aR (fun _ hk => hk) ?aF ?aB ?aS ?aL ?_
                              (case aR => exact (by skip; exact Kd.N_F (Kd.N_mono (ok' := (fun k_ => ((fun k_ => (P0_ k_ ∨ w.heap.size ≤ k_) ∧ some k_ ≠ (.slice Ao12 y206.length co12 : Value).ownBlock ∧ k_ ≠ gb205 ∧ k_ ≠ gb210)) k_ ∧ some k_ ≠ (v241 : Value).ownBlock)) (HO245.out) (fun k_ hk => ⟨⟨hk.1, ⟨hk.2.2.1, ⟨hk.2.2.2.1, hk.2.2.2.2⟩⟩⟩, hk.2.1⟩))))
                              (case aB => exact (by repeat (first | (with_reducible first | exact HB.out | apply below_alloc | apply pw_below_drewN | apply below_drew1 | refine below_set ?_ GE205.out | refine below_set ?_ GE210.out) | exact HB.out)))
                              (case aF => exact (fun k_ hk => ⟨(.inr (Nat.le_trans (below_size (by repeat (first | (with_reducible first | exact HB.out | apply below_alloc | apply pw_below_drewN | apply below_drew1 | refine below_set ?_ GE205.out | refine below_set ?_ GE210.out) | exact HB.out))) hk)), Kd.fresh' (Kd.R_lt (by (with_reducible repeat (first | apply Kd.R_alloc | apply Kd.R_drewN | apply Kd.R_drew)); exact HO_206002.out)) k_ hk, Kd.freshB (g := gb205) (o := .cells #[.int .i64 a1_0, .int .i64 a1_1, .slice Ao12 y206.length co12] 39 (0, 0)) (by (with_reducible repeat (first | refine blk_drewN ?_ _ | refine blk_drew ?_ | refine blk_alloc ?_ _)); exact BK205.out) k_ hk, Kd.freshB (g := gb210) (o := .cells #[.int .i64 ((rd_T39 l0 (ji5)).f0), .int .i64 ((rd_T39 l0 (ji5)).f1), .slice A209_2 ((rd_T39 l0 (ji5)).f2).length c209_2] 39 (0, 0)) (by (with_reducible repeat (first | refine blk_drewN ?_ _ | refine blk_drew ?_ | refine blk_alloc ?_ _)); exact BK210.out) k_ hk⟩))
                              (case aO => exact (by (with_reducible repeat (first | apply Kd.N_alloc | apply Kd.N_drewN | apply Kd.N_drew)); exact Kd.N_mono HO242.out (fun _ hk => ⟨hk.1, ⟨hk.2.2.1, ⟨hk.2.2.2.1, hk.2.2.2.2⟩⟩⟩)))
                              (case aS => exact (below_size (by repeat (first | (with_reducible first | exact HB.out | apply below_alloc | apply pw_below_drewN | apply below_drew1 | refine below_set ?_ GE205.out | refine below_set ?_ GE210.out) | exact HB.out))))
                              (case aL => have := LMc70.out; omega)
                              intro v247 w77 ho hb hg hat
                              rw [← Ny246.out] at ho
                              have n0_ := Aside0.mk (Kd.V_afterv (ok := (fun k_ => (P0_ k_ ∨ w.heap.size ≤ k_) ∧ some k_ ≠ (.slice Ao12 y206.length co12 : Value).ownBlock ∧ some k_ ≠ (.slice Ao78 y243.length co78 : Value).ownBlock ∧ k_ ≠ gb205 ∧ k_ ≠ gb210)) (by (with_reducible repeat (first | apply Kd.V_alloc | apply Kd.V_drewN | apply Kd.V_drew)); exact Kd.V_mono HO_0.out (fun _ hk => ⟨⟨hk.1, ⟨hk.2.2.2.1, ⟨hk.2.2.1, ⟨hk.2.2.2.2.1, hk.2.2.2.2.2⟩⟩⟩⟩, hk.2.1⟩)) hg hat)
                              have n1_ := Aside0.mk (Kd.R_over' (by (with_reducible repeat (first | apply Kd.R_alloc | apply Kd.R_drewN | apply Kd.R_drew)); exact HO_206002.out) (Kd.N_typed (by (with_reducible repeat (first | apply Kd.N_alloc | apply Kd.N_drewN | apply Kd.N_drew)); exact HO242.out)) (by decide) hg)
                              have n2_ := Aside0.mk (Kd.V_afterv (ok := (fun k_ => (P0_ k_ ∨ w.heap.size ≤ k_) ∧ some k_ ≠ (.slice Ao12 y206.length co12 : Value).ownBlock ∧ some k_ ≠ (.slice Ao78 y243.length co78 : Value).ownBlock ∧ k_ ≠ gb205 ∧ k_ ≠ gb210)) (by (with_reducible repeat (first | apply Kd.V_alloc | apply Kd.V_drewN | apply Kd.V_drew)); exact Kd.V_mono HO_211002.out (fun _ hk => ⟨⟨hk.1, ⟨hk.2.2.2.1, ⟨hk.2.2.1, ⟨hk.2.2.2.2.1, hk.2.2.2.2.2⟩⟩⟩⟩, hk.2.1⟩)) hg hat)
                              have n3_ := Aside0.mk (blk_grown (g := gb205) (o := .cells #[.int .i64 a1_0, .int .i64 a1_1, .slice Ao12 y206.length co12] 39 (0, 0)) (by (with_reducible repeat (first | refine blk_drewN ?_ _ | refine blk_drew ?_ | refine blk_alloc ?_ _)); exact BK205.out) hg (Kd.N_away HO242.out (fun _ hk => hk.2.2.2.1)))
                              have n4_ := Aside0.mk (blk_grown (g := gb210) (o := .cells #[.int .i64 ((rd_T39 l0 (ji5)).f0), .int .i64 ((rd_T39 l0 (ji5)).f1), .slice A209_2 ((rd_T39 l0 (ji5)).f2).length c209_2] 39 (0, 0)) (by (with_reducible repeat (first | refine blk_drewN ?_ _ | refine blk_drew ?_ | refine blk_alloc ?_ _)); exact BK210.out) hg (Kd.N_away HO242.out (fun _ hk => hk.2.2.2.2)))
                              have n5_ := Aside0.mk (Kd.V_afterv (ok := (fun k_ => (P0_ k_ ∨ w.heap.size ≤ k_) ∧ some k_ ≠ (.slice Ao12 y206.length co12 : Value).ownBlock ∧ some k_ ≠ (.slice Ao78 y243.length co78 : Value).ownBlock ∧ k_ ≠ gb205 ∧ k_ ≠ gb210)) (by (with_reducible repeat (first | apply Kd.V_alloc | apply Kd.V_drewN | apply Kd.V_drew)); exact Kd.V_mono HO239.out (fun _ hk => ⟨⟨hk.1, ⟨hk.2.2.2.1, ⟨hk.2.2.1, ⟨hk.2.2.2.2.1, hk.2.2.2.2.2⟩⟩⟩⟩, hk.2.1⟩)) hg hat)
                              have n6_ := Aside0.mk (Kd.N_afterv (ok := (fun k_ => (P0_ k_ ∨ w.heap.size ≤ k_) ∧ some k_ ≠ (.slice Ao12 y206.length co12 : Value).ownBlock ∧ k_ ≠ gb205 ∧ k_ ≠ gb210)) (by (with_reducible repeat (first | apply Kd.N_alloc | apply Kd.N_drewN | apply Kd.N_drew)); exact Kd.N_mono HO245.out (fun _ hk => ⟨⟨hk.1, ⟨hk.2.2.1, ⟨hk.2.2.2.1, hk.2.2.2.2⟩⟩⟩, hk.2.1⟩)) hg hat)
                              have n7_ := Aside0.mk (hb)
                              have n8_ := Aside0.mk (ho)
                              clear HO_0
                              clear HO_206002
                              clear HO_211002
                              clear BK205
                              clear BK210
                              clear HO239
                              clear HO245
                              clear HB
                              clear HO242
                              have HO_0 := n0_
                              have HO_206002 := n1_
                              have HO_211002 := n2_
                              have BK205 := n3_
                              have BK210 := n4_
                              have HO239 := n5_
                              have HO245 := n6_
                              have HB := n7_
                              have HO248 := n8_
                              clear n0_ n1_ n2_ n3_ n4_ n5_ n6_ n7_ n8_
                              clear ho hb hg hat
                              refine hK.out _ _ ⟨(blk_cell BK210.out 0).trans rfl, (blk_cell BK210.out 1).trans rfl, (blk_cell BK210.out 2).trans rfl, (blk_cell BK205.out 0).trans rfl, (blk_cell BK205.out 1).trans rfl, (blk_cell BK205.out 2).trans rfl⟩ (fun hHeld => ?_)
                              clear hK K
                              refine norm_ (a' := ?_) ?_ ?_
                              rotate_left
                              · show Act.put _ (some 68) _ = _
                                simp only [Act.put, List.setIfInBounds_toArray, List.set_cons_zero, List.set_cons_succ, i64_w, i32_w]
                                rfl
                              refine pure_ (i := 14) (N := some 4) (v := ?_) (a' := ?_) #[true, true, true, true, true, true, true, true, true, true, true, true, true, true, true] rfl rfl (any_of HT_.out (by kernel_rfl)) (fun _ _ _ h => h) (Or.inl ⟨by rfl, ?_⟩) ?_ ?_
                              rotate_left
                              · intro w'
                                go_simp
                                with_reducible rfl
                              rotate_left
                              · simp only [Act.put, List.setIfInBounds_toArray, List.set_cons_zero, List.set_cons_succ, i64_w, i32_w]
                                rfl
                              refine done_ (done_of HT_.out (by kernel_rfl)) ?_
                              try go_wp2
                              go_ret
                              exact ⟨_, by first | rfl | (simp [errW_none, errW_some] <;> rfl) | (simp only [← hji5]; first | rfl | (simp [errW_none, errW_some] <;> rfl)) | (simp [*, errW_none, errW_some] <;> rfl), by (with_reducible repeat (first | apply Kd.N_alloc | apply Kd.N_drewN | apply Kd.N_drew)); exact Kd.N_mono HO248.out (fun _ hk => hk.1), by repeat (first | (with_reducible first | exact HB.out | apply below_alloc | apply pw_below_drewN | apply below_drew1 | refine below_set ?_ GE205.out | refine below_set ?_ GE210.out) | exact HB.out)⟩
                            · rw [if_neg c70] at H
                              exact absurd H (by simp)
                          · rw [if_neg c69] at H
                            exact absurd H (by simp)
                        · rw [if_neg c68] at H
                          exact absurd H (by simp)
                      · rw [if_neg c67] at H
                        exact absurd H (by simp)
                    · replace c66 := Bool.eq_false_iff.mpr c66
                      subst c66
                      have H1 : (if ([] : List (S39)).length + l0.length < 3518437208883 then ((some (([] : List (S39)) ++ l0 : List (S39))).bind fun y249 => ((some (([(⟨a1_0, a1_1, y206⟩ : S39)] : List (S39)) : List (S39))).bind fun y252 => (if y249.length + y252.length < 3518437208883 then (some (y249 ++ y252)) else (none)))) else (none)) = some r := by rw [if_neg (show ¬ (false = true) by decide)] at H; exact H
                      clear H
                      have H := H1
                      clear H1
                      by_cases c79 : ([] : List (S39)).length + l0.length < 3518437208883
                      · rw [if_pos c79] at H
                        have LMc79 := Aside0.mk c79
                        clear c79
                        obtain ⟨y249, hy249⟩ : ∃ y_ : List (S39), y_ = (([] : List (S39)) ++ l0) := ⟨_, rfl⟩
                        replace H : ((some (([(⟨a1_0, a1_1, y206⟩ : S39)] : List (S39)) : List (S39))).bind fun y252 => (if y249.length + y252.length < 3518437208883 then (some (y249 ++ y252)) else (none))) = some r := by first | (rw [hy249]; with_reducible exact H) | (have H2_ := (Option.bind_some _ _).symm.trans H; rw [hy249]; with_reducible exact H2_) | (have H2_ := (Option.bind_some _ _).symm.trans H; with_reducible exact H2_) | with_reducible exact H | (rw [hy249]; exact H) | exact H
                        have Ny249 := Aside0.mk hy249
                        clear hy249
                        obtain ⟨y252, hy252⟩ : ∃ y_ : List (S39), y_ = (([(⟨a1_0, a1_1, y206⟩ : S39)] : List (S39))) := ⟨_, rfl⟩
                        replace H : (if y249.length + y252.length < 3518437208883 then (some (y249 ++ y252)) else (none)) = some r := by first | (rw [hy252]; with_reducible exact H) | (have H2_ := (Option.bind_some _ _).symm.trans H; rw [hy252]; with_reducible exact H2_) | (have H2_ := (Option.bind_some _ _).symm.trans H; with_reducible exact H2_) | with_reducible exact H | (rw [hy252]; exact H) | exact H
                        have Ny252 := Aside0.mk hy252
                        clear hy252
                        by_cases c80 : y249.length + y252.length < 3518437208883
                        · rw [if_pos c80] at H
                          have LMc80 := Aside0.mk c80
                          clear c80
                          obtain ⟨y255, hy255⟩ : ∃ y_ : List (S39), y_ = (y249 ++ y252) := ⟨_, rfl⟩
                          replace H : (some y255) = some r := by first | (rw [hy255]; with_reducible exact H) | (have H2_ := (Option.bind_some _ _).symm.trans H; rw [hy255]; with_reducible exact H2_) | (have H2_ := (Option.bind_some _ _).symm.trans H; with_reducible exact H2_) | with_reducible exact H | (rw [hy255]; exact H) | exact H
                          have Ny255 := Aside0.mk hy255
                          clear hy255
                          obtain rfl := Option.some.inj H
                          try go_wp2
                          have n0_ := Aside0.mk (Kd.V_drew HO_0.out)
                          have n1_ := Aside0.mk (Kd.R_drew HO_206002.out)
                          have n2_ := Aside0.mk (Kd.V_drew HO_211002.out)
                          have n3_ := Aside0.mk (blk_drew BK205.out)
                          have n4_ := Aside0.mk (blk_drew BK210.out)
                          have n5_ := Aside0.mk (Kd.C_drew HR209_2.out)
                          have n6_ := Aside0.mk (below_drew1 HB.out)
                          clear HO_0
                          clear HO_206002
                          clear HO_211002
                          clear BK205
                          clear BK210
                          clear HR209_2
                          clear HB
                          have HO_0 := n0_
                          have HO_206002 := n1_
                          have HO_211002 := n2_
                          have BK205 := n3_
                          have BK210 := n4_
                          have HR209_2 := n5_
                          have HB := n6_
                          clear n0_ n1_ n2_ n3_ n4_ n5_ n6_
                          refine start_ (n := 6) (S := fun w' => w'.cell? ⟨gb205, 0, none⟩ = some (.int .i64 a1_0) ∧ w'.cell? ⟨gb205, 1, none⟩ = some (.int .i64 a1_1) ∧ w'.cell? ⟨gb205, 2, none⟩ = some (.slice Ao12 y206.length co12)) (ds := []) #[false, false, false, false, false, false] (by kernel_rfl) rfl rfl ⟨(blk_cell BK205.out 0).trans rfl, (blk_cell BK205.out 1).trans rfl, (blk_cell BK205.out 2).trans rfl⟩ (fun hHeld => ?_)
                          generalize wc.drew = w81 at HO_0 HO_206002 HO_211002 BK205 BK210 HR209_2 HB hHeld ⊢
                          refine pure_ (i := 0) (N := some 69) (v := ?_) (a' := ?_) #[true, false, false, false, false, false] rfl rfl (by kernel_rfl) (fun _ _ _ h => h) (Or.inl ⟨by rfl, ?_⟩) ?_ ?_
                          rotate_left
                          · intro w'
                            go_simp
                            with_reducible rfl
                          rotate_left
                          · simp only [Act.put, List.setIfInBounds_toArray, List.set_cons_zero, List.set_cons_succ, i64_w, i32_w]
                            rfl
                          refine take_ (i := 2) (N := some 71) (v := ?_) (a' := ?_) #[true, false, true, false, false, false] rfl rfl (by kernel_rfl) (fun _ _ _ h => h) (Or.inl ⟨by rfl, ?_⟩) hHeld ?_ ?_
                          rotate_left
                          · rintro w' ⟨s0, s1, s2⟩
                            go_simp
                            with_reducible rfl
                          rotate_left
                          · simp only [Act.put, List.setIfInBounds_toArray, List.set_cons_zero, List.set_cons_succ, i64_w, i32_w]
                            rfl
                          refine join_ (σ := Value × Value) 2 #[true, true, true, true, false, false] (fun s_ => [(70, s_.1), (72, s_.2)]) (fun s_ w' => (w'.cell? ⟨gb205, 0, none⟩ = some (.int .i64 a1_0) ∧ w'.cell? ⟨gb205, 1, none⟩ = some (.int .i64 a1_1) ∧ w'.cell? ⟨gb205, 2, none⟩ = some (.slice Ao12 y206.length co12)) ∧ (Kd.N k39 39 w' w.heap.size (fun k_ => (P0_ k_ ∨ w.heap.size ≤ k_) ∧ some k_ ≠ (s_.2 : Value).ownBlock ∧ k_ ≠ gb205 ∧ k_ ≠ gb210) s_.1 y249) ∧ (Kd.N k39 39 w' w.heap.size (fun k_ => (P0_ k_ ∨ w.heap.size ≤ k_) ∧ some k_ ≠ (s_.1 : Value).ownBlock ∧ k_ ≠ gb205 ∧ k_ ≠ gb210) s_.2 y252) ∧ (Kd.V k39 39 w' w.heap.size (fun k_ => (P0_ k_ ∨ w.heap.size ≤ k_) ∧ some k_ ≠ (s_.1 : Value).ownBlock ∧ some k_ ≠ (s_.2 : Value).ownBlock ∧ k_ ≠ gb205 ∧ k_ ≠ gb210) (.slice (some ad209) l0.length c0) l0) ∧ (Kd.V (Kd.int .u8) 5 w' w.heap.size (fun k_ => (P0_ k_ ∨ w.heap.size ≤ k_) ∧ some k_ ≠ (s_.1 : Value).ownBlock ∧ some k_ ≠ (s_.2 : Value).ownBlock ∧ k_ ≠ gb205 ∧ k_ ≠ gb210) (.slice A209_2 ((rd_T39 l0 (ji5)).f2).length c209_2) ((rd_T39 l0 (ji5)).f2)) ∧ (w'.heap[gb205]? = some (.cells #[.int .i64 a1_0, .int .i64 a1_1, .slice Ao12 y206.length co12] 39 (0, 0))) ∧ (w'.heap[gb210]? = some (.cells #[.int .i64 ((rd_T39 l0 (ji5)).f0), .int .i64 ((rd_T39 l0 (ji5)).f1), .slice A209_2 ((rd_T39 l0 (ji5)).f2).length c209_2] 39 (0, 0))) ∧ (Below w.heap.size w w')) ?_ ?_
                          rotate_left
                          · intro hCont
                            refine two_ (i := 1) (j := 3) (Ni := some 70) (Nj := some 72) #[true, true, true, false, false, false] #[true, false, true, true, false, false] rfl rfl rfl rfl (by kernel_rfl) (by decide) (by decide) (fun K hK => ?_) (fun K hK => ?_)
                            · skip
                              refine Kd.N_append_rows_step k39 (w0 := w) w.heap.size (by rfl) (.const (.slice none 0 0)) (.tmp 69) 29 39 (.agg #[(.int .i64 0), (.int .i64 0), (.slice none 0 0)]) 40 rfl Try.underlying29 info39 rfl (by decide) (by omega) (.slice none 0 0) ([] : List (S39)) l0 _ _ _ (fun k_ => (P0_ k_ ∨ w.heap.size ≤ k_) ∧ some k_ ≠ (.slice Ao12 y206.length co12 : Value).ownBlock ∧ k_ ≠ gb205 ∧ k_ ≠ gb210) (fun k_ => ((fun k_ => (P0_ k_ ∨ w.heap.size ≤ k_) ∧ some k_ ≠ (.slice Ao12 y206.length co12 : Value).ownBlock ∧ k_ ≠ gb205 ∧ k_ ≠ gb210)) k_ ∧ some k_ ≠ (.slice none 0 0 : Value).ownBlock) rfl rfl ?aO ?aR (fun _ hk => hk) ?aF ?aB ?aS ?aL ?_
                              (case aR => exact (by skip; exact Kd.V_F (Kd.V_mono (ok' := (fun k_ => ((fun k_ => (P0_ k_ ∨ w.heap.size ≤ k_) ∧ some k_ ≠ (.slice Ao12 y206.length co12 : Value).ownBlock ∧ k_ ≠ gb205 ∧ k_ ≠ gb210)) k_ ∧ some k_ ≠ (.slice none 0 0 : Value).ownBlock)) (HO_0.out) (fun k_ hk => ⟨⟨hk.1, ⟨hk.2.1, ⟨hk.2.2.1, hk.2.2.2⟩⟩⟩, (by simp [Value.ownBlock])⟩))))
                              (case aB => exact (by repeat (first | (with_reducible first | exact HB.out | apply below_alloc | apply pw_below_drewN | apply below_drew1 | refine below_set ?_ GE205.out | refine below_set ?_ GE210.out) | exact HB.out)))
                              (case aF => exact (fun k_ hk => ⟨(.inr (Nat.le_trans (below_size (by repeat (first | (with_reducible first | exact HB.out | apply below_alloc | apply pw_below_drewN | apply below_drew1 | refine below_set ?_ GE205.out | refine below_set ?_ GE210.out) | exact HB.out))) hk)), Kd.fresh' (Kd.R_lt (by (with_reducible repeat (first | apply Kd.R_alloc | apply Kd.R_drewN | apply Kd.R_drew)); exact HO_206002.out)) k_ hk, Kd.freshB (g := gb205) (o := .cells #[.int .i64 a1_0, .int .i64 a1_1, .slice Ao12 y206.length co12] 39 (0, 0)) (by (with_reducible repeat (first | refine blk_drewN ?_ _ | refine blk_drew ?_ | refine blk_alloc ?_ _)); exact BK205.out) k_ hk, Kd.freshB (g := gb210) (o := .cells #[.int .i64 ((rd_T39 l0 (ji5)).f0), .int .i64 ((rd_T39 l0 (ji5)).f1), .slice A209_2 ((rd_T39 l0 (ji5)).f2).length c209_2] 39 (0, 0)) (by (with_reducible repeat (first | refine blk_drewN ?_ _ | refine blk_drew ?_ | refine blk_alloc ?_ _)); exact BK210.out) k_ hk⟩))
                              (case aO => exact ((Kd.N_nil _ _ _ _ (fun k_ => (P0_ k_ ∨ w.heap.size ≤ k_) ∧ some k_ ≠ (.slice Ao12 y206.length co12 : Value).ownBlock ∧ k_ ≠ gb205 ∧ k_ ≠ gb210))))
                              (case aS => exact (below_size (by repeat (first | (with_reducible first | exact HB.out | apply below_alloc | apply pw_below_drewN | apply below_drew1 | refine below_set ?_ GE205.out | refine below_set ?_ GE210.out) | exact HB.out))))
                              (case aL => have := LMc79.out; omega)
                              intro v250 w82 ho hb hg hat
                              rw [← Ny249.out] at ho
                              have n0_ := Aside0.mk (Kd.V_afterv (Kd.V_apart_nil (by (with_reducible repeat (first | apply Kd.V_alloc | apply Kd.V_drewN | apply Kd.V_drew)); exact HO_0.out)) hg hat)
                              have n1_ := Aside0.mk (Kd.R_grown (by (with_reducible repeat (first | apply Kd.R_alloc | apply Kd.R_drewN | apply Kd.R_drew)); exact HO_206002.out) hg (fun _ _ => by simp [Value.ownBlock]))
                              have n2_ := Aside0.mk (Kd.V_afterv (Kd.V_apart_nil (by (with_reducible repeat (first | apply Kd.V_alloc | apply Kd.V_drewN | apply Kd.V_drew)); exact HO_211002.out)) hg hat)
                              have n3_ := Aside0.mk (blk_grown (g := gb205) (o := .cells #[.int .i64 a1_0, .int .i64 a1_1, .slice Ao12 y206.length co12] 39 (0, 0)) (by (with_reducible repeat (first | refine blk_drewN ?_ _ | refine blk_drew ?_ | refine blk_alloc ?_ _)); exact BK205.out) hg (by simp [Value.ownBlock]))
                              have n4_ := Aside0.mk (blk_grown (g := gb210) (o := .cells #[.int .i64 ((rd_T39 l0 (ji5)).f0), .int .i64 ((rd_T39 l0 (ji5)).f1), .slice A209_2 ((rd_T39 l0 (ji5)).f2).length c209_2] 39 (0, 0)) (by (with_reducible repeat (first | refine blk_drewN ?_ _ | refine blk_drew ?_ | refine blk_alloc ?_ _)); exact BK210.out) hg (by simp [Value.ownBlock]))
                              have n5_ := Aside0.mk (hb)
                              have n6_ := Aside0.mk (ho)
                              clear HO_0
                              clear HO_206002
                              clear HO_211002
                              clear BK205
                              clear BK210
                              clear HB
                              have HO_0 := n0_
                              have HO_206002 := n1_
                              have HO_211002 := n2_
                              have BK205 := n3_
                              have BK210 := n4_
                              have HB := n5_
                              have HO251 := n6_
                              clear n0_ n1_ n2_ n3_ n4_ n5_ n6_
                              clear ho hb hg hat
                              refine hK.out _ _ ⟨(blk_cell BK205.out 0).trans rfl, (blk_cell BK205.out 1).trans rfl, (blk_cell BK205.out 2).trans rfl⟩ (fun hHeld => ?_)
                              clear hK K
                              refine norm_ (a' := ?_) ?_ ?_
                              rotate_left
                              · show Act.put _ (some 70) _ = _
                                simp only [Act.put, List.setIfInBounds_toArray, List.set_cons_zero, List.set_cons_succ, i64_w, i32_w]
                                rfl
                              refine one_ (i := 3) (N := some 72) #[true, true, true, true, false, false] rfl rfl (by kernel_rfl) (by decide) (fun K hK => ?_)
                              refine Kd.N_lit_step k39 _ 39 ?hg (N' := 72) ?hd (xs := ([(⟨a1_0, a1_1, y206⟩ : S39)] : List (S39))) (inner := [.int .i64 a1_0, .int .i64 a1_1, .slice Ao12 y206.length co12]) (ok := (fun k_ => (P0_ k_ ∨ w.heap.size ≤ k_) ∧ some k_ ≠ (v250 : Value).ownBlock ∧ k_ ≠ gb205 ∧ k_ ≠ gb210)) (okp := (fun k_ => (P0_ k_ ∨ w.heap.size ≤ k_) ∧ some k_ ≠ (v250 : Value).ownBlock ∧ k_ ≠ gb205 ∧ k_ ≠ gb210)) ?hr ?hp (fun _ hk => hk) ((show ∀ k_, w82.heap.size ≤ k_ → (fun k_ => (P0_ k_ ∨ w.heap.size ≤ k_) ∧ some k_ ≠ (v250 : Value).ownBlock ∧ k_ ≠ gb205 ∧ k_ ≠ gb210) k_ from fun k_ hk => ⟨(.inr (Nat.le_trans (below_size (by repeat (first | (with_reducible first | exact HB.out | apply below_alloc | apply pw_below_drewN | apply below_drew1 | refine below_set ?_ GE205.out | refine below_set ?_ GE210.out) | exact HB.out))) hk)), Kd.fresh' (Kd.N_lt (by (with_reducible repeat (first | apply Kd.N_alloc | apply Kd.N_drewN | apply Kd.N_drew)); exact HO251.out)) k_ hk, Kd.freshB (g := gb205) (o := .cells #[.int .i64 a1_0, .int .i64 a1_1, .slice Ao12 y206.length co12] 39 (0, 0)) (by (with_reducible repeat (first | refine blk_drewN ?_ _ | refine blk_drew ?_ | refine blk_alloc ?_ _)); exact BK205.out) k_ hk, Kd.freshB (g := gb210) (o := .cells #[.int .i64 ((rd_T39 l0 (ji5)).f0), .int .i64 ((rd_T39 l0 (ji5)).f1), .slice A209_2 ((rd_T39 l0 (ji5)).f2).length c209_2] 39 (0, 0)) (by (with_reducible repeat (first | refine blk_drewN ?_ _ | refine blk_drew ?_ | refine blk_alloc ?_ _)); exact BK210.out) k_ hk⟩) _ (Nat.le_refl _)) (Below.refl _ _) (Nat.le_refl _) (by simp) ?_; (case hd => rfl); (case hg => rfl); (case hr => first | (go_simp; done) | (go_simp; rfl)); (case hp => exact (Reps.c3 (show Kd.FK k39 _ _ (⟨a1_0, a1_1, y206⟩ : S39) [.int .i64 a1_0, .int .i64 a1_1, .slice Ao12 y206.length co12] from (k39_mkF _ _ (⟨a1_0, a1_1, y206⟩ : S39) (Kd.R_reads' (Kd.R_mono (ok' := (fun k_ => (P0_ k_ ∨ w.heap.size ≤ k_) ∧ some k_ ≠ (v250 : Value).ownBlock ∧ k_ ≠ gb205 ∧ k_ ≠ gb210)) (Kd.R_types (Kd.R_types (Kd.R_apart' (HO_206002.out) (Kd.N_typed HO251.out) (by decide)) BK205.out (by decide)) BK210.out (by decide)) (fun k_ hk => ⟨(.inr (hk.1.1.1)), ⟨hk.1.1.2, ⟨hk.1.2, hk.2⟩⟩⟩))).2.1 (Kd.R_F (Kd.R_mono (ok' := (fun k_ => (P0_ k_ ∨ w.heap.size ≤ k_) ∧ some k_ ≠ (v250 : Value).ownBlock ∧ k_ ≠ gb205 ∧ k_ ≠ gb210)) (Kd.R_types (Kd.R_types (Kd.R_apart' (HO_206002.out) (Kd.N_typed HO251.out) (by decide)) BK205.out (by decide)) BK210.out (by decide)) (fun k_ hk => ⟨(.inr (hk.1.1.1)), ⟨hk.1.1.2, ⟨hk.1.2, hk.2⟩⟩⟩))))) (Reps.none _ _)))
                              intro v253 w83 ho84 hb hg_ hnew_
                              clear hg_ hnew_
                              (first | rw [← Ny252.out] at ho84 | (simp only [Int.reduceToNat] at ho84; rw [← Ny252.out] at ho84))
                              have n0_ := Aside0.mk (Kd.V_elder' (by (with_reducible repeat (first | apply Kd.V_alloc | apply Kd.V_drewN | apply Kd.V_drew)); exact HO_0.out) (Kd.N_base ho84) hb)
                              have n1_ := Aside0.mk (Kd.V_elder' (by (with_reducible repeat (first | apply Kd.V_alloc | apply Kd.V_drewN | apply Kd.V_drew)); exact HO_211002.out) (Kd.N_base ho84) hb)
                              have n2_ := Aside0.mk (Kd.N_elder' (by (with_reducible repeat (first | apply Kd.N_alloc | apply Kd.N_drewN | apply Kd.N_drew)); exact HO251.out) (Kd.N_base ho84) hb)
                              have n3_ := Aside0.mk (Kd.N_lower ho84 (below_size (by repeat (first | (with_reducible first | exact HB.out | apply below_alloc | apply pw_below_drewN | apply below_drew1 | refine below_set ?_ GE205.out | refine below_set ?_ GE210.out) | exact HB.out))))
                              have n4_ := Aside0.mk (blk_below (g := gb205) (o := .cells #[.int .i64 a1_0, .int .i64 a1_1, .slice Ao12 y206.length co12] 39 (0, 0)) (by (with_reducible repeat (first | refine blk_drewN ?_ _ | refine blk_drew ?_ | refine blk_alloc ?_ _)); exact BK205.out) hb)
                              have n5_ := Aside0.mk (blk_below (g := gb210) (o := .cells #[.int .i64 ((rd_T39 l0 (ji5)).f0), .int .i64 ((rd_T39 l0 (ji5)).f1), .slice A209_2 ((rd_T39 l0 (ji5)).f2).length c209_2] 39 (0, 0)) (by (with_reducible repeat (first | refine blk_drewN ?_ _ | refine blk_drew ?_ | refine blk_alloc ?_ _)); exact BK210.out) hb)
                              have n6_ := Aside0.mk (below_step (by repeat (first | (with_reducible first | exact HB.out | apply below_alloc | apply pw_below_drewN | apply below_drew1 | refine below_set ?_ GE205.out | refine below_set ?_ GE210.out) | exact HB.out)) hb)
                              clear HO_0
                              clear HO_211002
                              clear HO251
                              clear BK205
                              clear BK210
                              clear HB
                              clear HO_206002
                              have HO_0 := n0_
                              have HO_211002 := n1_
                              have HO251 := n2_
                              have HO254 := n3_
                              have BK205 := n4_
                              have BK210 := n5_
                              have HB := n6_
                              clear n0_ n1_ n2_ n3_ n4_ n5_ n6_
                              clear hb ho84
                              refine hK.out _ _ ⟨(blk_cell BK205.out 0).trans rfl, (blk_cell BK205.out 1).trans rfl, (blk_cell BK205.out 2).trans rfl⟩ (fun hHeld => ?_)
                              clear hK K
                              refine norm_ (a' := ?_) ?_ ?_
                              rotate_left
                              · show Act.put _ (some 72) _ = _
                                simp only [Act.put, List.setIfInBounds_toArray, List.set_cons_zero, List.set_cons_succ, i64_w, i32_w]
                                rfl
                              exact norm_ (by simp only [putAll, Act.put, List.setIfInBounds_toArray, List.set_cons_zero, List.set_cons_succ]) (hCont (v250, v253) _ ⟨hHeld, (by (with_reducible repeat (first | apply Kd.N_alloc | apply Kd.N_drewN | apply Kd.N_drew)); exact Kd.N_mono HO251.out (fun _ hk => ⟨hk.1.1, ⟨hk.2, ⟨hk.1.2.2.1, hk.1.2.2.2⟩⟩⟩)), (by (with_reducible repeat (first | apply Kd.N_alloc | apply Kd.N_drewN | apply Kd.N_drew)); exact HO254.out), (by (with_reducible repeat (first | apply Kd.V_alloc | apply Kd.V_drewN | apply Kd.V_drew)); exact Kd.V_mono HO_0.out (fun _ hk => ⟨hk.1.1.1, ⟨hk.1.2, ⟨hk.2, ⟨hk.1.1.2.2.1, hk.1.1.2.2.2⟩⟩⟩⟩)), (by (with_reducible repeat (first | apply Kd.V_alloc | apply Kd.V_drewN | apply Kd.V_drew)); exact Kd.V_mono HO_211002.out (fun _ hk => ⟨hk.1.1.1, ⟨hk.1.2, ⟨hk.2, ⟨hk.1.1.2.2.1, hk.1.1.2.2.2⟩⟩⟩⟩)), (by (with_reducible repeat (first | refine blk_drewN ?_ _ | refine blk_drew ?_ | refine blk_alloc ?_ _)); exact BK205.out), (by (with_reducible repeat (first | refine blk_drewN ?_ _ | refine blk_drew ?_ | refine blk_alloc ?_ _)); exact BK210.out), (by repeat (first | (with_reducible first | exact HB.out | apply below_alloc | apply pw_below_drewN | apply below_drew1 | refine below_set ?_ GE205.out | refine below_set ?_ GE210.out) | exact HB.out))⟩)
                            · skip
                              refine Kd.N_lit_step k39 _ 39 ?hg (N' := 72) ?hd (xs := ([(⟨a1_0, a1_1, y206⟩ : S39)] : List (S39))) (inner := [.int .i64 a1_0, .int .i64 a1_1, .slice Ao12 y206.length co12]) (ok := (fun k_ => (P0_ k_ ∨ w.heap.size ≤ k_) ∧ k_ ≠ gb205 ∧ k_ ≠ gb210)) (okp := (fun k_ => (P0_ k_ ∨ w.heap.size ≤ k_) ∧ k_ ≠ gb205 ∧ k_ ≠ gb210)) ?hr ?hp (fun _ hk => hk) ((show ∀ k_, w81.heap.size ≤ k_ → (fun k_ => (P0_ k_ ∨ w.heap.size ≤ k_) ∧ k_ ≠ gb205 ∧ k_ ≠ gb210) k_ from fun k_ hk => ⟨(.inr (Nat.le_trans (below_size (by repeat (first | (with_reducible first | exact HB.out | apply below_alloc | apply pw_below_drewN | apply below_drew1 | refine below_set ?_ GE205.out | refine below_set ?_ GE210.out) | exact HB.out))) hk)), Kd.freshB (g := gb205) (o := .cells #[.int .i64 a1_0, .int .i64 a1_1, .slice Ao12 y206.length co12] 39 (0, 0)) (by (with_reducible repeat (first | refine blk_drewN ?_ _ | refine blk_drew ?_ | refine blk_alloc ?_ _)); exact BK205.out) k_ hk, Kd.freshB (g := gb210) (o := .cells #[.int .i64 ((rd_T39 l0 (ji5)).f0), .int .i64 ((rd_T39 l0 (ji5)).f1), .slice A209_2 ((rd_T39 l0 (ji5)).f2).length c209_2] 39 (0, 0)) (by (with_reducible repeat (first | refine blk_drewN ?_ _ | refine blk_drew ?_ | refine blk_alloc ?_ _)); exact BK210.out) k_ hk⟩) _ (Nat.le_refl _)) (Below.refl _ _) (Nat.le_refl _) (by simp) ?_; (case hd => rfl); (case hg => rfl); (case hr => first | (go_simp; done) | (go_simp; rfl)); (case hp => exact (Reps.c3 (show Kd.FK k39 _ _ (⟨a1_0, a1_1, y206⟩ : S39) [.int .i64 a1_0, .int .i64 a1_1, .slice Ao12 y206.length co12] from (k39_mkF _ _ (⟨a1_0, a1_1, y206⟩ : S39) (Kd.R_reads' (Kd.R_mono (ok' := (fun k_ => (P0_ k_ ∨ w.heap.size ≤ k_) ∧ k_ ≠ gb205 ∧ k_ ≠ gb210)) (Kd.R_types (Kd.R_types (HO_206002.out) BK205.out (by decide)) BK210.out (by decide)) (fun k_ hk => ⟨(.inr (hk.1.1)), ⟨hk.1.2, hk.2⟩⟩))).2.1 (Kd.R_F (Kd.R_mono (ok' := (fun k_ => (P0_ k_ ∨ w.heap.size ≤ k_) ∧ k_ ≠ gb205 ∧ k_ ≠ gb210)) (Kd.R_types (Kd.R_types (HO_206002.out) BK205.out (by decide)) BK210.out (by decide)) (fun k_ hk => ⟨(.inr (hk.1.1)), ⟨hk.1.2, hk.2⟩⟩))))) (Reps.none _ _)))
                              intro v253 w82 ho83 hb hg_ hnew_
                              clear hg_ hnew_
                              (first | rw [← Ny252.out] at ho83 | (simp only [Int.reduceToNat] at ho83; rw [← Ny252.out] at ho83))
                              have n0_ := Aside0.mk (Kd.V_elder' (by (with_reducible repeat (first | apply Kd.V_alloc | apply Kd.V_drewN | apply Kd.V_drew)); exact HO_0.out) (Kd.N_base ho83) hb)
                              have n1_ := Aside0.mk (Kd.V_elder' (by (with_reducible repeat (first | apply Kd.V_alloc | apply Kd.V_drewN | apply Kd.V_drew)); exact HO_211002.out) (Kd.N_base ho83) hb)
                              have n2_ := Aside0.mk (Kd.N_lower ho83 (below_size (by repeat (first | (with_reducible first | exact HB.out | apply below_alloc | apply pw_below_drewN | apply below_drew1 | refine below_set ?_ GE205.out | refine below_set ?_ GE210.out) | exact HB.out))))
                              have n3_ := Aside0.mk (blk_below (g := gb205) (o := .cells #[.int .i64 a1_0, .int .i64 a1_1, .slice Ao12 y206.length co12] 39 (0, 0)) (by (with_reducible repeat (first | refine blk_drewN ?_ _ | refine blk_drew ?_ | refine blk_alloc ?_ _)); exact BK205.out) hb)
                              have n4_ := Aside0.mk (blk_below (g := gb210) (o := .cells #[.int .i64 ((rd_T39 l0 (ji5)).f0), .int .i64 ((rd_T39 l0 (ji5)).f1), .slice A209_2 ((rd_T39 l0 (ji5)).f2).length c209_2] 39 (0, 0)) (by (with_reducible repeat (first | refine blk_drewN ?_ _ | refine blk_drew ?_ | refine blk_alloc ?_ _)); exact BK210.out) hb)
                              have n5_ := Aside0.mk (Kd.C_below (by repeat (first | (with_reducible exact HR209_2.out) | (with_reducible refine Kd.C_alloc ?_ _) | (with_reducible refine Kd.C_drewN ?_ _) | (with_reducible refine Kd.C_drew ?_) | exact HR209_2.out)) hb)
                              have n6_ := Aside0.mk (below_step (by repeat (first | (with_reducible first | exact HB.out | apply below_alloc | apply pw_below_drewN | apply below_drew1 | refine below_set ?_ GE205.out | refine below_set ?_ GE210.out) | exact HB.out)) hb)
                              clear HO_0
                              clear HO_211002
                              clear BK205
                              clear BK210
                              clear HR209_2
                              clear HB
                              clear HO_206002
                              have HO_0 := n0_
                              have HO_211002 := n1_
                              have HO254 := n2_
                              have BK205 := n3_
                              have BK210 := n4_
                              have HR209_2 := n5_
                              have HB := n6_
                              clear n0_ n1_ n2_ n3_ n4_ n5_ n6_
                              clear hb ho83
                              refine hK.out _ _ ⟨(blk_cell BK205.out 0).trans rfl, (blk_cell BK205.out 1).trans rfl, (blk_cell BK205.out 2).trans rfl⟩ (fun hHeld => ?_)
                              clear hK K
                              refine norm_ (a' := ?_) ?_ ?_
                              rotate_left
                              · show Act.put _ (some 72) _ = _
                                simp only [Act.put, List.setIfInBounds_toArray, List.set_cons_zero, List.set_cons_succ, i64_w, i32_w]
                                rfl
                              refine one_ (i := 1) (N := some 70) #[true, true, true, true, false, false] rfl rfl (by kernel_rfl) (by decide) (fun K hK => ?_)
                              refine Kd.N_append_rows_step k39 (w0 := w) w.heap.size (by rfl) (.const (.slice none 0 0)) (.tmp 69) 29 39 (.agg #[(.int .i64 0), (.int .i64 0), (.slice none 0 0)]) 40 rfl Try.underlying29 info39 rfl (by decide) (by omega) (.slice none 0 0) ([] : List (S39)) l0 _ _ _ (fun k_ => (P0_ k_ ∨ w.heap.size ≤ k_) ∧ some k_ ≠ (v253 : Value).ownBlock ∧ k_ ≠ gb205 ∧ k_ ≠ gb210) (fun k_ => ((fun k_ => (P0_ k_ ∨ w.heap.size ≤ k_) ∧ some k_ ≠ (v253 : Value).ownBlock ∧ k_ ≠ gb205 ∧ k_ ≠ gb210)) k_ ∧ some k_ ≠ (.slice none 0 0 : Value).ownBlock) rfl rfl ?aO ?aR (fun _ hk => hk) ?aF ?aB ?aS ?aL ?_
                              (case aR => exact (by skip; exact Kd.V_F (Kd.V_mono (ok' := (fun k_ => ((fun k_ => (P0_ k_ ∨ w.heap.size ≤ k_) ∧ some k_ ≠ (v253 : Value).ownBlock ∧ k_ ≠ gb205 ∧ k_ ≠ gb210)) k_ ∧ some k_ ≠ (.slice none 0 0 : Value).ownBlock)) (HO_0.out) (fun k_ hk => ⟨⟨hk.1.1, ⟨hk.2, ⟨hk.1.2.2.1, hk.1.2.2.2⟩⟩⟩, (by simp [Value.ownBlock])⟩))))
                              (case aB => exact (by repeat (first | (with_reducible first | exact HB.out | apply below_alloc | apply pw_below_drewN | apply below_drew1 | refine below_set ?_ GE205.out | refine below_set ?_ GE210.out) | exact HB.out)))
                              (case aF => exact (fun k_ hk => ⟨(.inr (Nat.le_trans (below_size (by repeat (first | (with_reducible first | exact HB.out | apply below_alloc | apply pw_below_drewN | apply below_drew1 | refine below_set ?_ GE205.out | refine below_set ?_ GE210.out) | exact HB.out))) hk)), Kd.fresh' (Kd.N_lt (by (with_reducible repeat (first | apply Kd.N_alloc | apply Kd.N_drewN | apply Kd.N_drew)); exact HO254.out)) k_ hk, Kd.freshB (g := gb205) (o := .cells #[.int .i64 a1_0, .int .i64 a1_1, .slice Ao12 y206.length co12] 39 (0, 0)) (by (with_reducible repeat (first | refine blk_drewN ?_ _ | refine blk_drew ?_ | refine blk_alloc ?_ _)); exact BK205.out) k_ hk, Kd.freshB (g := gb210) (o := .cells #[.int .i64 ((rd_T39 l0 (ji5)).f0), .int .i64 ((rd_T39 l0 (ji5)).f1), .slice A209_2 ((rd_T39 l0 (ji5)).f2).length c209_2] 39 (0, 0)) (by (with_reducible repeat (first | refine blk_drewN ?_ _ | refine blk_drew ?_ | refine blk_alloc ?_ _)); exact BK210.out) k_ hk⟩))
                              (case aO => exact ((Kd.N_nil _ _ _ _ (fun k_ => (P0_ k_ ∨ w.heap.size ≤ k_) ∧ some k_ ≠ (v253 : Value).ownBlock ∧ k_ ≠ gb205 ∧ k_ ≠ gb210))))
                              (case aS => exact (below_size (by repeat (first | (with_reducible first | exact HB.out | apply below_alloc | apply pw_below_drewN | apply below_drew1 | refine below_set ?_ GE205.out | refine below_set ?_ GE210.out) | exact HB.out))))
                              (case aL => have := LMc79.out; omega)
                              intro v250 w84 ho hb hg hat
                              rw [← Ny249.out] at ho
                              have n0_ := Aside0.mk (Kd.V_afterv (Kd.V_apart_nil (by (with_reducible repeat (first | apply Kd.V_alloc | apply Kd.V_drewN | apply Kd.V_drew)); exact HO_0.out)) hg hat)
                              have n1_ := Aside0.mk (Kd.V_afterv (Kd.V_apart_nil (by (with_reducible repeat (first | apply Kd.V_alloc | apply Kd.V_drewN | apply Kd.V_drew)); exact HO_211002.out)) hg hat)
                              have n2_ := Aside0.mk (blk_grown (g := gb205) (o := .cells #[.int .i64 a1_0, .int .i64 a1_1, .slice Ao12 y206.length co12] 39 (0, 0)) (by (with_reducible repeat (first | refine blk_drewN ?_ _ | refine blk_drew ?_ | refine blk_alloc ?_ _)); exact BK205.out) hg (by simp [Value.ownBlock]))
                              have n3_ := Aside0.mk (blk_grown (g := gb210) (o := .cells #[.int .i64 ((rd_T39 l0 (ji5)).f0), .int .i64 ((rd_T39 l0 (ji5)).f1), .slice A209_2 ((rd_T39 l0 (ji5)).f2).length c209_2] 39 (0, 0)) (by (with_reducible repeat (first | refine blk_drewN ?_ _ | refine blk_drew ?_ | refine blk_alloc ?_ _)); exact BK210.out) hg (by simp [Value.ownBlock]))
                              have n4_ := Aside0.mk (Kd.N_afterv (Kd.N_apart_nil (by (with_reducible repeat (first | apply Kd.N_alloc | apply Kd.N_drewN | apply Kd.N_drew)); exact HO254.out)) hg hat)
                              have n5_ := Aside0.mk (hb)
                              have n6_ := Aside0.mk (ho)
                              clear HO_0
                              clear HO_211002
                              clear BK205
                              clear BK210
                              clear HO254
                              clear HB
                              have HO_0 := n0_
                              have HO_211002 := n1_
                              have BK205 := n2_
                              have BK210 := n3_
                              have HO254 := n4_
                              have HB := n5_
                              have HO251 := n6_
                              clear n0_ n1_ n2_ n3_ n4_ n5_ n6_
                              clear ho hb hg hat
                              refine hK.out _ _ ⟨(blk_cell BK205.out 0).trans rfl, (blk_cell BK205.out 1).trans rfl, (blk_cell BK205.out 2).trans rfl⟩ (fun hHeld => ?_)
                              clear hK K
                              refine norm_ (a' := ?_) ?_ ?_
                              rotate_left
                              · show Act.put _ (some 70) _ = _
                                simp only [Act.put, List.setIfInBounds_toArray, List.set_cons_zero, List.set_cons_succ, i64_w, i32_w]
                                rfl
                              exact norm_ (by simp only [putAll, Act.put, List.setIfInBounds_toArray, List.set_cons_zero, List.set_cons_succ]) (hCont (v250, v253) _ ⟨hHeld, (by (with_reducible repeat (first | apply Kd.N_alloc | apply Kd.N_drewN | apply Kd.N_drew)); exact HO251.out), (by (with_reducible repeat (first | apply Kd.N_alloc | apply Kd.N_drewN | apply Kd.N_drew)); exact Kd.N_mono HO254.out (fun _ hk => ⟨hk.1.1, ⟨hk.2, ⟨hk.1.2.1, hk.1.2.2⟩⟩⟩)), (by (with_reducible repeat (first | apply Kd.V_alloc | apply Kd.V_drewN | apply Kd.V_drew)); exact Kd.V_mono HO_0.out (fun _ hk => ⟨hk.1.1.1, ⟨hk.2, ⟨hk.1.2, ⟨hk.1.1.2.2.1, hk.1.1.2.2.2⟩⟩⟩⟩)), (by (with_reducible repeat (first | apply Kd.V_alloc | apply Kd.V_drewN | apply Kd.V_drew)); exact Kd.V_mono HO_211002.out (fun _ hk => ⟨hk.1.1.1, ⟨hk.2, ⟨hk.1.2, ⟨hk.1.1.2.2.1, hk.1.1.2.2.2⟩⟩⟩⟩)), (by (with_reducible repeat (first | refine blk_drewN ?_ _ | refine blk_drew ?_ | refine blk_alloc ?_ _)); exact BK205.out), (by (with_reducible repeat (first | refine blk_drewN ?_ _ | refine blk_drew ?_ | refine blk_alloc ?_ _)); exact BK210.out), (by repeat (first | (with_reducible first | exact HB.out | apply below_alloc | apply pw_below_drewN | apply below_drew1 | refine below_set ?_ GE205.out | refine below_set ?_ GE210.out) | exact HB.out))⟩)
                          rintro ⟨v250, v253⟩ w85 ⟨hS_, h0_, h1_, h2_, h3_, h4_, h5_, h6_⟩
                          have n0_ : Aside0 (Kd.N k39 39 w85 w.heap.size (fun k_ => (P0_ k_ ∨ w.heap.size ≤ k_) ∧ some k_ ≠ (v253 : Value).ownBlock ∧ k_ ≠ gb205 ∧ k_ ≠ gb210) v250 y249) := ⟨h0_⟩
                          have n1_ : Aside0 (Kd.N k39 39 w85 w.heap.size (fun k_ => (P0_ k_ ∨ w.heap.size ≤ k_) ∧ some k_ ≠ (v250 : Value).ownBlock ∧ k_ ≠ gb205 ∧ k_ ≠ gb210) v253 y252) := ⟨h1_⟩
                          have n2_ : Aside0 (Kd.V k39 39 w85 w.heap.size (fun k_ => (P0_ k_ ∨ w.heap.size ≤ k_) ∧ some k_ ≠ (v250 : Value).ownBlock ∧ some k_ ≠ (v253 : Value).ownBlock ∧ k_ ≠ gb205 ∧ k_ ≠ gb210) (.slice (some ad209) l0.length c0) l0) := ⟨h2_⟩
                          have n3_ : Aside0 (Kd.V (Kd.int .u8) 5 w85 w.heap.size (fun k_ => (P0_ k_ ∨ w.heap.size ≤ k_) ∧ some k_ ≠ (v250 : Value).ownBlock ∧ some k_ ≠ (v253 : Value).ownBlock ∧ k_ ≠ gb205 ∧ k_ ≠ gb210) (.slice A209_2 ((rd_T39 l0 (ji5)).f2).length c209_2) ((rd_T39 l0 (ji5)).f2)) := ⟨h3_⟩
                          have n4_ : Aside0 (w85.heap[gb205]? = some (.cells #[.int .i64 a1_0, .int .i64 a1_1, .slice Ao12 y206.length co12] 39 (0, 0))) := ⟨h4_⟩
                          have n5_ : Aside0 (w85.heap[gb210]? = some (.cells #[.int .i64 ((rd_T39 l0 (ji5)).f0), .int .i64 ((rd_T39 l0 (ji5)).f1), .slice A209_2 ((rd_T39 l0 (ji5)).f2).length c209_2] 39 (0, 0))) := ⟨h5_⟩
                          have n6_ : Aside0 (Below w.heap.size w w85) := ⟨h6_⟩
                          clear HO_0
                          clear HO_206002
                          clear HO_211002
                          clear BK205
                          clear BK210
                          clear HR209_2
                          clear HB
                          clear h0_ h1_ h2_ h3_ h4_ h5_ h6_
                          have HO251 := n0_
                          have HO254 := n1_
                          have HO_0 := n2_
                          have HO_211002 := n3_
                          have BK205 := n4_
                          have BK210 := n5_
                          have HB := n6_
                          clear n0_ n1_ n2_ n3_ n4_ n5_ n6_
                          have hHeld : w85.cell? ⟨gb205, 0, none⟩ = some (.int .i64 a1_0) ∧ w85.cell? ⟨gb205, 1, none⟩ = some (.int .i64 a1_1) ∧ w85.cell? ⟨gb205, 2, none⟩ = some (.slice Ao12 y206.length co12) := hS_
                          obtain ⟨Ao87, co87, eo87⟩ := Kd.N_slice HO254.out
                          (first | subst eo87 | (injection eo87 with f1_ f2_ f3_; have f4_ := f1_.symm; have f5_ := f3_.symm; clear f1_ f2_ f3_; subst f4_; subst f5_))
                          refine norm_ (a' := ?_) ?_ ?_
                          rotate_left
                          · simp only [putAll, Act.put, List.setIfInBounds_toArray, List.set_cons_zero, List.set_cons_succ]
                            rfl
                          refine one_ (i := 4) (N := some 73) #[true, true, true, true, true, false] rfl rfl (by kernel_rfl) (by decide) (fun K hK => ?_)
                          refine Kd.N_append_rows_step k39 (w0 := w) w.heap.size (by rfl) (.tmp 70) (.tmp 72) 29 39 (.agg #[(.int .i64 0), (.int .i64 0), (.slice none 0 0)]) 40 rfl Try.underlying29 info39 rfl (by decide) (by omega) v250 y249 y252 _ _ _ (fun k_ => (P0_ k_ ∨ w.heap.size ≤ k_) ∧ k_ ≠ gb205 ∧ k_ ≠ gb210) (fun k_ => ((fun k_ => (P0_ k_ ∨ w.heap.size ≤ k_) ∧ k_ ≠ gb205 ∧ k_ ≠ gb210)) k_ ∧ some k_ ≠ (v250 : Value).ownBlock) rfl rfl ?aO ?aR (fun _ hk => hk) ?aF ?aB ?aS ?aL ?_
                          (case aR => exact (by skip; exact Kd.N_F (Kd.N_mono (ok' := (fun k_ => ((fun k_ => (P0_ k_ ∨ w.heap.size ≤ k_) ∧ k_ ≠ gb205 ∧ k_ ≠ gb210)) k_ ∧ some k_ ≠ (v250 : Value).ownBlock)) (HO254.out) (fun k_ hk => ⟨⟨hk.1, ⟨hk.2.2.1, hk.2.2.2⟩⟩, hk.2.1⟩))))
                          (case aB => exact (by repeat (first | (with_reducible first | exact HB.out | apply below_alloc | apply pw_below_drewN | apply below_drew1 | refine below_set ?_ GE205.out | refine below_set ?_ GE210.out) | exact HB.out)))
                          (case aF => exact (fun k_ hk => ⟨(.inr (Nat.le_trans (below_size (by repeat (first | (with_reducible first | exact HB.out | apply below_alloc | apply pw_below_drewN | apply below_drew1 | refine below_set ?_ GE205.out | refine below_set ?_ GE210.out) | exact HB.out))) hk)), Kd.freshB (g := gb205) (o := .cells #[.int .i64 a1_0, .int .i64 a1_1, .slice Ao12 y206.length co12] 39 (0, 0)) (by (with_reducible repeat (first | refine blk_drewN ?_ _ | refine blk_drew ?_ | refine blk_alloc ?_ _)); exact BK205.out) k_ hk, Kd.freshB (g := gb210) (o := .cells #[.int .i64 ((rd_T39 l0 (ji5)).f0), .int .i64 ((rd_T39 l0 (ji5)).f1), .slice A209_2 ((rd_T39 l0 (ji5)).f2).length c209_2] 39 (0, 0)) (by (with_reducible repeat (first | refine blk_drewN ?_ _ | refine blk_drew ?_ | refine blk_alloc ?_ _)); exact BK210.out) k_ hk⟩))
                          (case aO => exact (by (with_reducible repeat (first | apply Kd.N_alloc | apply Kd.N_drewN | apply Kd.N_drew)); exact Kd.N_mono HO251.out (fun _ hk => ⟨hk.1, ⟨hk.2.2.1, hk.2.2.2⟩⟩)))
                          (case aS => exact (below_size (by repeat (first | (with_reducible first | exact HB.out | apply below_alloc | apply pw_below_drewN | apply below_drew1 | refine below_set ?_ GE205.out | refine below_set ?_ GE210.out) | exact HB.out))))
                          (case aL => have := LMc80.out; omega)
                          intro v256 w86 ho hb hg hat
                          rw [← Ny255.out] at ho
                          have n0_ := Aside0.mk (Kd.V_afterv (ok := (fun k_ => (P0_ k_ ∨ w.heap.size ≤ k_) ∧ some k_ ≠ (.slice Ao87 y252.length co87 : Value).ownBlock ∧ k_ ≠ gb205 ∧ k_ ≠ gb210)) (by (with_reducible repeat (first | apply Kd.V_alloc | apply Kd.V_drewN | apply Kd.V_drew)); exact Kd.V_mono HO_0.out (fun _ hk => ⟨⟨hk.1, ⟨hk.2.2.1, ⟨hk.2.2.2.1, hk.2.2.2.2⟩⟩⟩, hk.2.1⟩)) hg hat)
                          have n1_ := Aside0.mk (Kd.V_afterv (ok := (fun k_ => (P0_ k_ ∨ w.heap.size ≤ k_) ∧ some k_ ≠ (.slice Ao87 y252.length co87 : Value).ownBlock ∧ k_ ≠ gb205 ∧ k_ ≠ gb210)) (by (with_reducible repeat (first | apply Kd.V_alloc | apply Kd.V_drewN | apply Kd.V_drew)); exact Kd.V_mono HO_211002.out (fun _ hk => ⟨⟨hk.1, ⟨hk.2.2.1, ⟨hk.2.2.2.1, hk.2.2.2.2⟩⟩⟩, hk.2.1⟩)) hg hat)
                          have n2_ := Aside0.mk (blk_grown (g := gb205) (o := .cells #[.int .i64 a1_0, .int .i64 a1_1, .slice Ao12 y206.length co12] 39 (0, 0)) (by (with_reducible repeat (first | refine blk_drewN ?_ _ | refine blk_drew ?_ | refine blk_alloc ?_ _)); exact BK205.out) hg (Kd.N_away HO251.out (fun _ hk => hk.2.2.1)))
                          have n3_ := Aside0.mk (blk_grown (g := gb210) (o := .cells #[.int .i64 ((rd_T39 l0 (ji5)).f0), .int .i64 ((rd_T39 l0 (ji5)).f1), .slice A209_2 ((rd_T39 l0 (ji5)).f2).length c209_2] 39 (0, 0)) (by (with_reducible repeat (first | refine blk_drewN ?_ _ | refine blk_drew ?_ | refine blk_alloc ?_ _)); exact BK210.out) hg (Kd.N_away HO251.out (fun _ hk => hk.2.2.2)))
                          have n4_ := Aside0.mk (Kd.N_afterv (ok := (fun k_ => (P0_ k_ ∨ w.heap.size ≤ k_) ∧ k_ ≠ gb205 ∧ k_ ≠ gb210)) (by (with_reducible repeat (first | apply Kd.N_alloc | apply Kd.N_drewN | apply Kd.N_drew)); exact Kd.N_mono HO254.out (fun _ hk => ⟨⟨hk.1, ⟨hk.2.2.1, hk.2.2.2⟩⟩, hk.2.1⟩)) hg hat)
                          have n5_ := Aside0.mk (hb)
                          have n6_ := Aside0.mk (ho)
                          clear HO_0
                          clear HO_211002
                          clear BK205
                          clear BK210
                          clear HO254
                          clear HB
                          clear HO251
                          have HO_0 := n0_
                          have HO_211002 := n1_
                          have BK205 := n2_
                          have BK210 := n3_
                          have HO254 := n4_
                          have HB := n5_
                          have HO257 := n6_
                          clear n0_ n1_ n2_ n3_ n4_ n5_ n6_
                          clear ho hb hg hat
                          refine hK.out _ _ ⟨(blk_cell BK205.out 0).trans rfl, (blk_cell BK205.out 1).trans rfl, (blk_cell BK205.out 2).trans rfl⟩ (fun hHeld => ?_)
                          clear hK K
                          refine norm_ (a' := ?_) ?_ ?_
                          rotate_left
                          · show Act.put _ (some 73) _ = _
                            simp only [Act.put, List.setIfInBounds_toArray, List.set_cons_zero, List.set_cons_succ, i64_w, i32_w]
                            rfl
                          refine pure_ (i := 5) (N := some 4) (v := ?_) (a' := ?_) #[true, true, true, true, true, true] rfl rfl (by kernel_rfl) (fun _ _ _ h => h) (Or.inl ⟨by rfl, ?_⟩) ?_ ?_
                          rotate_left
                          · intro w'
                            go_simp
                            with_reducible rfl
                          rotate_left
                          · simp only [Act.put, List.setIfInBounds_toArray, List.set_cons_zero, List.set_cons_succ, i64_w, i32_w]
                            rfl
                          refine done_ (by kernel_rfl) ?_
                          try go_wp2
                          go_ret
                          exact ⟨_, by first | rfl | (simp [errW_none, errW_some] <;> rfl) | (simp only [← hji5]; first | rfl | (simp [errW_none, errW_some] <;> rfl)) | (simp [*, errW_none, errW_some] <;> rfl), by (with_reducible repeat (first | apply Kd.N_alloc | apply Kd.N_drewN | apply Kd.N_drew)); exact Kd.N_mono HO257.out (fun _ hk => hk.1), by repeat (first | (with_reducible first | exact HB.out | apply below_alloc | apply pw_below_drewN | apply below_drew1 | refine below_set ?_ GE205.out | refine below_set ?_ GE210.out) | exact HB.out)⟩
                        · rw [if_neg c80] at H
                          exact absurd H (by simp)
                      · rw [if_neg c79] at H
                        exact absurd H (by simp)
        · rw [if_neg c7] at H
          exact absurd H (by simp)
      · rw [if_neg c6] at H
        exact absurd H (by simp)
    · rw [if_neg c4] at H
      have c4b0 : decide (0 ≤ (wrap64 ((l0.length : Int) - 1))) = false := decide_eq_false c4
      clear c4
      by_cases c88 : ([] : List (S39)).length + l0.length < 3518437208883
      · rw [if_pos c88] at H
        have LMc88 := Aside0.mk c88
        clear c88
        obtain ⟨y258, hy258⟩ : ∃ y_ : List (S39), y_ = (([] : List (S39)) ++ l0) := ⟨_, rfl⟩
        replace H : ((some (([(⟨a1_0, a1_1, y206⟩ : S39)] : List (S39)) : List (S39))).bind fun y261 => (if y258.length + y261.length < 3518437208883 then (some (y258 ++ y261)) else (none))) = some r := by first | (rw [hy258]; with_reducible exact H) | (have H2_ := (Option.bind_some _ _).symm.trans H; rw [hy258]; with_reducible exact H2_) | (have H2_ := (Option.bind_some _ _).symm.trans H; with_reducible exact H2_) | with_reducible exact H | (rw [hy258]; exact H) | exact H
        have Ny258 := Aside0.mk hy258
        clear hy258
        obtain ⟨y261, hy261⟩ : ∃ y_ : List (S39), y_ = (([(⟨a1_0, a1_1, y206⟩ : S39)] : List (S39))) := ⟨_, rfl⟩
        replace H : (if y258.length + y261.length < 3518437208883 then (some (y258 ++ y261)) else (none)) = some r := by first | (rw [hy261]; with_reducible exact H) | (have H2_ := (Option.bind_some _ _).symm.trans H; rw [hy261]; with_reducible exact H2_) | (have H2_ := (Option.bind_some _ _).symm.trans H; with_reducible exact H2_) | with_reducible exact H | (rw [hy261]; exact H) | exact H
        have Ny261 := Aside0.mk hy261
        clear hy261
        by_cases c89 : y258.length + y261.length < 3518437208883
        · rw [if_pos c89] at H
          have LMc89 := Aside0.mk c89
          clear c89
          obtain ⟨y264, hy264⟩ : ∃ y_ : List (S39), y_ = (y258 ++ y261) := ⟨_, rfl⟩
          replace H : (some y264) = some r := by first | (rw [hy264]; with_reducible exact H) | (have H2_ := (Option.bind_some _ _).symm.trans H; rw [hy264]; with_reducible exact H2_) | (have H2_ := (Option.bind_some _ _).symm.trans H; with_reducible exact H2_) | with_reducible exact H | (rw [hy264]; exact H) | exact H
          have Ny264 := Aside0.mk hy264
          clear hy264
          obtain rfl := Option.some.inj H
          go_enter Try.func46, Try.ntmps46
          try go_wp2_with (first | ((with_reducible refine gate_dst (N := 3) rfl ?_); refine box_event ?hg (N := 3) ?hd (cs := #[.int .i64 a1_0, .int .i64 a1_1, .slice A1_2 l1_2.length c1_2]) (t := 39) ?hr ?_; (case hd => rfl); (case hg => rfl); (case hr => first | (go_simp; done) | (go_simp; rfl)); intro gb205 hg w90 hbox hb; have n0_ := Aside0.mk (Kd.V_below (Kd.V_elderB (by (with_reducible repeat (first | apply Kd.V_alloc | apply Kd.V_drewN | apply Kd.V_drew)); exact HO0.out) gb205 (Nat.le_of_eq hg.symm)) hb); have n1_ := Aside0.mk (below_step (by repeat (first | (with_reducible first | exact HB.out | apply below_alloc | apply pw_below_drewN | apply below_drew1) | exact HB.out)) hb); have n2_ := Aside0.mk (hbox); have n3_ := Aside0.mk ((by rw [hg]; exact (below_size (by repeat (first | (with_reducible first | exact HB.out | apply below_alloc | apply pw_below_drewN | apply below_drew1) | exact HB.out))) : w.heap.size ≤ gb205)); have n4_ := Aside0.mk ((by rw [hg]; exact (below_size (by repeat (first | (with_reducible first | exact HB.out | apply below_alloc | apply pw_below_drewN | apply below_drew1) | exact HB.out))) : w.heap.size ≤ gb205)); clear HO0; clear HB; have HO0 := n0_; have HB := n1_; have BK205 := n2_; have GW205 := n3_; have GE205 := n4_; clear n0_ n1_ n2_ n3_ n4_; clear hb hbox hg; have hcz91_0 : w90.cell? ⟨gb205, 0, none⟩ = some (.int .i64 a1_0) := (blk_cell BK205.out 0).trans rfl; have hcz91_1 : w90.cell? ⟨gb205, 1, none⟩ = some (.int .i64 a1_1) := (blk_cell BK205.out 1).trans rfl; have hcz91_2 : w90.cell? ⟨gb205, 2, none⟩ = some (.slice A1_2 l1_2.length c1_2) := (blk_cell BK205.out 2).trans rfl; have hfz91_0 := blk_frozen BK205.out 0; have hfz91_1 := blk_frozen BK205.out 1; have hfz91_2 := blk_frozen BK205.out 2) | ((with_reducible refine gate_builtin (b := .append) (xs := #[.const (.slice none 0 0), .tmp 8]) rfl ?_); at_builtin; refine Kd.R_append_rows (Kd.int .u8) (w0 := w) w.heap.size rfl (.const (.slice none 0 0)) (.tmp 8) 26 5 (.int .u8 0) 1 rfl Try.underlying26 info5 rfl (by decide) (by omega) (.slice none 0 0) ([] : List Int) l1_2 _ _ _ (fun k_ => (w.heap.size ≤ k_)) (fun _ => False) rfl rfl ?aO ?aR (fun _ _ h => h) (fun _ h => h.elim) ?aF ?aB ?aS ?aL ?_; (case aR => repeat (first | exact (Kd.C_below HR1_2.out HB.out) | (with_reducible refine Kd.C_alloc ?_ _) | (with_reducible refine Kd.C_drewN ?_ _) | (with_reducible refine Kd.C_drew ?_))); (case aB => exact (by repeat (first | (with_reducible first | exact HB.out | apply below_alloc | apply pw_below_drewN | apply below_drew1 | refine below_set ?_ GE205.out) | exact HB.out))); (case aF => exact (fun k_ hk => (Nat.le_trans (below_size (by repeat (first | (with_reducible first | exact HB.out | apply below_alloc | apply pw_below_drewN | apply below_drew1 | refine below_set ?_ GE205.out) | exact HB.out))) hk))); (case aO => exact ((Kd.R_nil _ _ _ _ (fun k_ => (w.heap.size ≤ k_))))); (case aS => exact (below_size (by repeat (first | (with_reducible first | exact HB.out | apply below_alloc | apply pw_below_drewN | apply below_drew1 | refine below_set ?_ GE205.out) | exact HB.out)))); (case aL => have := LMc3.out; omega); intro v207 w92 ho hb hg hat; rw [← Ny206.out] at ho; have n0_ := Aside0.mk (Kd.V_afterv (Kd.V_apart_nil (by (with_reducible repeat (first | apply Kd.V_alloc | apply Kd.V_drewN | apply Kd.V_drew)); exact HO0.out)) hg hat); have n1_ := Aside0.mk (blk_grown (g := gb205) (o := .cells #[.int .i64 a1_0, .int .i64 a1_1, .slice A1_2 l1_2.length c1_2] 39 (0, 0)) (by (with_reducible repeat (first | refine blk_drewN ?_ _ | refine blk_drew ?_ | refine blk_alloc ?_ _)); exact BK205.out) hg (by simp [Value.ownBlock])); have n2_ := Aside0.mk (hb); have n3_ := Aside0.mk (ho); clear HO0; clear BK205; clear HB; have HO0 := n0_; have BK205 := n1_; have HB := n2_; have HO208 := n3_; clear n0_ n1_ n2_ n3_; clear ho hb hg hat; obtain ⟨Ao93, co93, eo93⟩ := Kd.R_slice HO208.out; subst eo93; have hcz94_0 : w92.cell? ⟨gb205, 0, none⟩ = some (.int .i64 a1_0) := (blk_cell BK205.out 0).trans rfl; have hcz94_1 : w92.cell? ⟨gb205, 1, none⟩ = some (.int .i64 a1_1) := (blk_cell BK205.out 1).trans rfl; have hcz94_2 : w92.cell? ⟨gb205, 2, none⟩ = some (.slice A1_2 l1_2.length c1_2) := (blk_cell BK205.out 2).trans rfl; have hfz94_0 := blk_frozen BK205.out 0; have hfz94_1 := blk_frozen BK205.out 1; have hfz94_2 := blk_frozen BK205.out 2))
          have n0_ : Aside0 (Kd.V k39 39 (w92.setCell ⟨gb205, 2, none⟩ (.slice Ao93 y206.length co93)) w.heap.size (fun k_ => (P0_ k_ ∨ w.heap.size ≤ k_) ∧ some k_ ≠ (.slice Ao93 y206.length co93 : Value).ownBlock ∧ k_ ≠ gb205) (.slice A0 l0.length c0) l0) := ⟨by (with_reducible repeat (first | apply Kd.V_alloc | apply Kd.V_drewN | apply Kd.V_drew)); exact Kd.V_mono (Kd.V_far (p := ⟨gb205, 2, none⟩) (Kd.V_mono HO0.out (fun k_ hk => (⟨hk, hk.1.2⟩ : _ ∧ k_ ≠ gb205))) (fun _ hk => hk.2) (.slice Ao93 y206.length co93)) (fun _ hk => ⟨hk.1.1.1, ⟨hk.1.2, hk.1.1.2⟩⟩)⟩
          have n1_ : Aside0 (Kd.R (Kd.int .u8) 5 (w92.setCell ⟨gb205, 2, none⟩ (.slice Ao93 y206.length co93)) w.heap.size (fun k_ => (w.heap.size ≤ k_)) (.slice Ao93 y206.length co93) y206) := ⟨by (with_reducible repeat (first | apply Kd.R_alloc | apply Kd.R_drewN | apply Kd.R_drew)); exact Kd.R_mono (Kd.R_far (p := ⟨gb205, 2, none⟩) (Kd.R_types HO208.out BK205.out (by decide)) (fun _ hk => hk.2) (.slice Ao93 y206.length co93)) (fun _ hk => hk.1)⟩
          have n2_ : Aside0 ((w92.setCell ⟨gb205, 2, none⟩ (.slice Ao93 y206.length co93)).heap[gb205]? = some (.cells #[.int .i64 a1_0, .int .i64 a1_1, .slice Ao93 y206.length co93] 39 (0, 0))) := ⟨by (with_reducible repeat (first | refine blk_drewN ?_ _ | refine blk_drew ?_ | refine blk_alloc ?_ _)); refine blk_put (cs := #[.int .i64 a1_0, .int .i64 a1_1, .slice A1_2 l1_2.length c1_2]) ?_ 2 _ rfl; (with_reducible repeat (first | refine blk_drewN ?_ _ | refine blk_drew ?_ | refine blk_alloc ?_ _)); exact BK205.out⟩
          have n3_ : Aside0 (Below w.heap.size w (w92.setCell ⟨gb205, 2, none⟩ (.slice Ao93 y206.length co93))) := ⟨by repeat (first | (with_reducible first | exact HB.out | apply below_alloc | apply pw_below_drewN | apply below_drew1 | refine below_set ?_ GE205.out) | exact HB.out)⟩
          (try clear HO0)
          (try clear HO208)
          (try clear BK205)
          (try clear HB)
          generalize (w92.setCell ⟨gb205, 2, none⟩ (.slice Ao93 y206.length co93)) = w95 at n0_ n1_ n2_ n3_ ⊢
          have HO0 := n0_
          have HO208 := n1_
          have BK205 := n2_
          have HB := n3_
          clear n0_ n1_ n2_ n3_
          have n0_ := Aside0.mk (Kd.V_drew HO0.out)
          have n1_ := Aside0.mk (Kd.R_drew HO208.out)
          have n2_ := Aside0.mk (blk_drew BK205.out)
          have n3_ := Aside0.mk (below_drew1 HB.out)
          clear HO0
          clear HO208
          clear BK205
          clear HB
          have HO0 := n0_
          have HO208 := n1_
          have BK205 := n2_
          have HB := n3_
          clear n0_ n1_ n2_ n3_
          refine start_ (n := 6) (S := fun w' => w'.cell? ⟨gb205, 0, none⟩ = some (.int .i64 a1_0) ∧ w'.cell? ⟨gb205, 1, none⟩ = some (.int .i64 a1_1) ∧ w'.cell? ⟨gb205, 2, none⟩ = some (.slice Ao93 y206.length co93)) (ds := []) #[false, false, false, false, false, false] (by kernel_rfl) rfl rfl ⟨(blk_cell BK205.out 0).trans rfl, (blk_cell BK205.out 1).trans rfl, (blk_cell BK205.out 2).trans rfl⟩ (fun hHeld => ?_)
          generalize w95.drew = w96 at HO0 HO208 BK205 HB hHeld ⊢
          refine pure_ (i := 0) (N := some 69) (v := ?_) (a' := ?_) #[true, false, false, false, false, false] rfl rfl (by kernel_rfl) (fun _ _ _ h => h) (Or.inl ⟨by rfl, ?_⟩) ?_ ?_
          rotate_left
          · intro w'
            go_simp
            with_reducible rfl
          rotate_left
          · simp only [Act.put, List.setIfInBounds_toArray, List.set_cons_zero, List.set_cons_succ, i64_w, i32_w]
            rfl
          refine take_ (i := 2) (N := some 71) (v := ?_) (a' := ?_) #[true, false, true, false, false, false] rfl rfl (by kernel_rfl) (fun _ _ _ h => h) (Or.inl ⟨by rfl, ?_⟩) hHeld ?_ ?_
          rotate_left
          · rintro w' ⟨s0, s1, s2⟩
            go_simp
            with_reducible rfl
          rotate_left
          · simp only [Act.put, List.setIfInBounds_toArray, List.set_cons_zero, List.set_cons_succ, i64_w, i32_w]
            rfl
          refine join_ (σ := Value × Value) 2 #[true, true, true, true, false, false] (fun s_ => [(70, s_.1), (72, s_.2)]) (fun s_ w' => (w'.cell? ⟨gb205, 0, none⟩ = some (.int .i64 a1_0) ∧ w'.cell? ⟨gb205, 1, none⟩ = some (.int .i64 a1_1) ∧ w'.cell? ⟨gb205, 2, none⟩ = some (.slice Ao93 y206.length co93)) ∧ (Kd.V k39 39 w' w.heap.size (fun k_ => (P0_ k_ ∨ w.heap.size ≤ k_) ∧ some k_ ≠ (s_.1 : Value).ownBlock ∧ some k_ ≠ (s_.2 : Value).ownBlock ∧ k_ ≠ gb205) (.slice A0 l0.length c0) l0) ∧ (Kd.N k39 39 w' w.heap.size (fun k_ => (P0_ k_ ∨ w.heap.size ≤ k_) ∧ some k_ ≠ (s_.2 : Value).ownBlock ∧ k_ ≠ gb205) s_.1 y258) ∧ (Kd.N k39 39 w' w.heap.size (fun k_ => (P0_ k_ ∨ w.heap.size ≤ k_) ∧ some k_ ≠ (s_.1 : Value).ownBlock ∧ k_ ≠ gb205) s_.2 y261) ∧ (w'.heap[gb205]? = some (.cells #[.int .i64 a1_0, .int .i64 a1_1, .slice Ao93 y206.length co93] 39 (0, 0))) ∧ (Below w.heap.size w w')) ?_ ?_
          rotate_left
          · intro hCont
            refine two_ (i := 1) (j := 3) (Ni := some 70) (Nj := some 72) #[true, true, true, false, false, false] #[true, false, true, true, false, false] rfl rfl rfl rfl (by kernel_rfl) (by decide) (by decide) (fun K hK => ?_) (fun K hK => ?_)
            · skip
              refine Kd.N_append_rows_step k39 (w0 := w) w.heap.size (by rfl) (.const (.slice none 0 0)) (.tmp 69) 29 39 (.agg #[(.int .i64 0), (.int .i64 0), (.slice none 0 0)]) 40 rfl Try.underlying29 info39 rfl (by decide) (by omega) (.slice none 0 0) ([] : List (S39)) l0 _ _ _ (fun k_ => (P0_ k_ ∨ w.heap.size ≤ k_) ∧ some k_ ≠ (.slice Ao93 y206.length co93 : Value).ownBlock ∧ k_ ≠ gb205) (fun k_ => ((fun k_ => (P0_ k_ ∨ w.heap.size ≤ k_) ∧ some k_ ≠ (.slice Ao93 y206.length co93 : Value).ownBlock ∧ k_ ≠ gb205)) k_ ∧ some k_ ≠ (.slice none 0 0 : Value).ownBlock) rfl rfl ?aO ?aR (fun _ hk => hk) ?aF ?aB ?aS ?aL ?_
              (case aR => exact (by skip; exact Kd.V_F (Kd.V_mono (ok' := (fun k_ => ((fun k_ => (P0_ k_ ∨ w.heap.size ≤ k_) ∧ some k_ ≠ (.slice Ao93 y206.length co93 : Value).ownBlock ∧ k_ ≠ gb205)) k_ ∧ some k_ ≠ (.slice none 0 0 : Value).ownBlock)) (HO0.out) (fun k_ hk => ⟨⟨hk.1, ⟨hk.2.1, hk.2.2⟩⟩, (by simp [Value.ownBlock])⟩))))
              (case aB => exact (by repeat (first | (with_reducible first | exact HB.out | apply below_alloc | apply pw_below_drewN | apply below_drew1 | refine below_set ?_ GE205.out) | exact HB.out)))
              (case aF => exact (fun k_ hk => ⟨(.inr (Nat.le_trans (below_size (by repeat (first | (with_reducible first | exact HB.out | apply below_alloc | apply pw_below_drewN | apply below_drew1 | refine below_set ?_ GE205.out) | exact HB.out))) hk)), Kd.fresh' (Kd.R_lt (by (with_reducible repeat (first | apply Kd.R_alloc | apply Kd.R_drewN | apply Kd.R_drew)); exact HO208.out)) k_ hk, Kd.freshB (g := gb205) (o := .cells #[.int .i64 a1_0, .int .i64 a1_1, .slice Ao93 y206.length co93] 39 (0, 0)) (by (with_reducible repeat (first | refine blk_drewN ?_ _ | refine blk_drew ?_ | refine blk_alloc ?_ _)); exact BK205.out) k_ hk⟩))
              (case aO => exact ((Kd.N_nil _ _ _ _ (fun k_ => (P0_ k_ ∨ w.heap.size ≤ k_) ∧ some k_ ≠ (.slice Ao93 y206.length co93 : Value).ownBlock ∧ k_ ≠ gb205))))
              (case aS => exact (below_size (by repeat (first | (with_reducible first | exact HB.out | apply below_alloc | apply pw_below_drewN | apply below_drew1 | refine below_set ?_ GE205.out) | exact HB.out))))
              (case aL => have := LMc88.out; omega)
              intro v259 w97 ho hb hg hat
              rw [← Ny258.out] at ho
              have n0_ := Aside0.mk (Kd.V_afterv (Kd.V_apart_nil (by (with_reducible repeat (first | apply Kd.V_alloc | apply Kd.V_drewN | apply Kd.V_drew)); exact HO0.out)) hg hat)
              have n1_ := Aside0.mk (blk_grown (g := gb205) (o := .cells #[.int .i64 a1_0, .int .i64 a1_1, .slice Ao93 y206.length co93] 39 (0, 0)) (by (with_reducible repeat (first | refine blk_drewN ?_ _ | refine blk_drew ?_ | refine blk_alloc ?_ _)); exact BK205.out) hg (by simp [Value.ownBlock]))
              have n2_ := Aside0.mk (Kd.R_grown (by (with_reducible repeat (first | apply Kd.R_alloc | apply Kd.R_drewN | apply Kd.R_drew)); exact HO208.out) hg (fun _ _ => by simp [Value.ownBlock]))
              have n3_ := Aside0.mk (hb)
              have n4_ := Aside0.mk (ho)
              clear HO0
              clear BK205
              clear HO208
              clear HB
              have HO0 := n0_
              have BK205 := n1_
              have HO208 := n2_
              have HB := n3_
              have HO260 := n4_
              clear n0_ n1_ n2_ n3_ n4_
              clear ho hb hg hat
              refine hK.out _ _ ⟨(blk_cell BK205.out 0).trans rfl, (blk_cell BK205.out 1).trans rfl, (blk_cell BK205.out 2).trans rfl⟩ (fun hHeld => ?_)
              clear hK K
              refine norm_ (a' := ?_) ?_ ?_
              rotate_left
              · show Act.put _ (some 70) _ = _
                simp only [Act.put, List.setIfInBounds_toArray, List.set_cons_zero, List.set_cons_succ, i64_w, i32_w]
                rfl
              refine one_ (i := 3) (N := some 72) #[true, true, true, true, false, false] rfl rfl (by kernel_rfl) (by decide) (fun K hK => ?_)
              refine Kd.N_lit_step k39 _ 39 ?hg (N' := 72) ?hd (xs := ([(⟨a1_0, a1_1, y206⟩ : S39)] : List (S39))) (inner := [.int .i64 a1_0, .int .i64 a1_1, .slice Ao93 y206.length co93]) (ok := (fun k_ => (P0_ k_ ∨ w.heap.size ≤ k_) ∧ some k_ ≠ (v259 : Value).ownBlock ∧ k_ ≠ gb205)) (okp := (fun k_ => (P0_ k_ ∨ w.heap.size ≤ k_) ∧ some k_ ≠ (v259 : Value).ownBlock ∧ k_ ≠ gb205)) ?hr ?hp (fun _ hk => hk) ((show ∀ k_, w97.heap.size ≤ k_ → (fun k_ => (P0_ k_ ∨ w.heap.size ≤ k_) ∧ some k_ ≠ (v259 : Value).ownBlock ∧ k_ ≠ gb205) k_ from fun k_ hk => ⟨(.inr (Nat.le_trans (below_size (by repeat (first | (with_reducible first | exact HB.out | apply below_alloc | apply pw_below_drewN | apply below_drew1 | refine below_set ?_ GE205.out) | exact HB.out))) hk)), Kd.fresh' (Kd.N_lt (by (with_reducible repeat (first | apply Kd.N_alloc | apply Kd.N_drewN | apply Kd.N_drew)); exact HO260.out)) k_ hk, Kd.freshB (g := gb205) (o := .cells #[.int .i64 a1_0, .int .i64 a1_1, .slice Ao93 y206.length co93] 39 (0, 0)) (by (with_reducible repeat (first | refine blk_drewN ?_ _ | refine blk_drew ?_ | refine blk_alloc ?_ _)); exact BK205.out) k_ hk⟩) _ (Nat.le_refl _)) (Below.refl _ _) (Nat.le_refl _) (by simp) ?_; (case hd => rfl); (case hg => rfl); (case hr => first | (go_simp; done) | (go_simp; rfl)); (case hp => exact (Reps.c3 (show Kd.FK k39 _ _ (⟨a1_0, a1_1, y206⟩ : S39) [.int .i64 a1_0, .int .i64 a1_1, .slice Ao93 y206.length co93] from (k39_mkF _ _ (⟨a1_0, a1_1, y206⟩ : S39) (Kd.R_reads' (Kd.R_mono (ok' := (fun k_ => (P0_ k_ ∨ w.heap.size ≤ k_) ∧ some k_ ≠ (v259 : Value).ownBlock ∧ k_ ≠ gb205)) (Kd.R_types (Kd.R_apart' (HO208.out) (Kd.N_typed HO260.out) (by decide)) BK205.out (by decide)) (fun k_ hk => ⟨(.inr (hk.1.1)), ⟨hk.1.2, hk.2⟩⟩))).2.1 (Kd.R_F (Kd.R_mono (ok' := (fun k_ => (P0_ k_ ∨ w.heap.size ≤ k_) ∧ some k_ ≠ (v259 : Value).ownBlock ∧ k_ ≠ gb205)) (Kd.R_types (Kd.R_apart' (HO208.out) (Kd.N_typed HO260.out) (by decide)) BK205.out (by decide)) (fun k_ hk => ⟨(.inr (hk.1.1)), ⟨hk.1.2, hk.2⟩⟩))))) (Reps.none _ _)))
              intro v262 w98 ho99 hb hg_ hnew_
              clear hg_ hnew_
              (first | rw [← Ny261.out] at ho99 | (simp only [Int.reduceToNat] at ho99; rw [← Ny261.out] at ho99))
              have n0_ := Aside0.mk (Kd.V_elder' (by (with_reducible repeat (first | apply Kd.V_alloc | apply Kd.V_drewN | apply Kd.V_drew)); exact HO0.out) (Kd.N_base ho99) hb)
              have n1_ := Aside0.mk (Kd.N_elder' (by (with_reducible repeat (first | apply Kd.N_alloc | apply Kd.N_drewN | apply Kd.N_drew)); exact HO260.out) (Kd.N_base ho99) hb)
              have n2_ := Aside0.mk (Kd.N_lower ho99 (below_size (by repeat (first | (with_reducible first | exact HB.out | apply below_alloc | apply pw_below_drewN | apply below_drew1 | refine below_set ?_ GE205.out) | exact HB.out))))
              have n3_ := Aside0.mk (blk_below (g := gb205) (o := .cells #[.int .i64 a1_0, .int .i64 a1_1, .slice Ao93 y206.length co93] 39 (0, 0)) (by (with_reducible repeat (first | refine blk_drewN ?_ _ | refine blk_drew ?_ | refine blk_alloc ?_ _)); exact BK205.out) hb)
              have n4_ := Aside0.mk (below_step (by repeat (first | (with_reducible first | exact HB.out | apply below_alloc | apply pw_below_drewN | apply below_drew1 | refine below_set ?_ GE205.out) | exact HB.out)) hb)
              clear HO0
              clear HO260
              clear BK205
              clear HB
              clear HO208
              have HO0 := n0_
              have HO260 := n1_
              have HO263 := n2_
              have BK205 := n3_
              have HB := n4_
              clear n0_ n1_ n2_ n3_ n4_
              clear hb ho99
              refine hK.out _ _ ⟨(blk_cell BK205.out 0).trans rfl, (blk_cell BK205.out 1).trans rfl, (blk_cell BK205.out 2).trans rfl⟩ (fun hHeld => ?_)
              clear hK K
              refine norm_ (a' := ?_) ?_ ?_
              rotate_left
              · show Act.put _ (some 72) _ = _
                simp only [Act.put, List.setIfInBounds_toArray, List.set_cons_zero, List.set_cons_succ, i64_w, i32_w]
                rfl
              exact norm_ (by simp only [putAll, Act.put, List.setIfInBounds_toArray, List.set_cons_zero, List.set_cons_succ]) (hCont (v259, v262) _ ⟨hHeld, (by (with_reducible repeat (first | apply Kd.V_alloc | apply Kd.V_drewN | apply Kd.V_drew)); exact Kd.V_mono HO0.out (fun _ hk => ⟨hk.1.1.1, ⟨hk.1.2, ⟨hk.2, hk.1.1.2.2⟩⟩⟩)), (by (with_reducible repeat (first | apply Kd.N_alloc | apply Kd.N_drewN | apply Kd.N_drew)); exact Kd.N_mono HO260.out (fun _ hk => ⟨hk.1.1, ⟨hk.2, hk.1.2.2⟩⟩)), (by (with_reducible repeat (first | apply Kd.N_alloc | apply Kd.N_drewN | apply Kd.N_drew)); exact HO263.out), (by (with_reducible repeat (first | refine blk_drewN ?_ _ | refine blk_drew ?_ | refine blk_alloc ?_ _)); exact BK205.out), (by repeat (first | (with_reducible first | exact HB.out | apply below_alloc | apply pw_below_drewN | apply below_drew1 | refine below_set ?_ GE205.out) | exact HB.out))⟩)
            · skip
              refine Kd.N_lit_step k39 _ 39 ?hg (N' := 72) ?hd (xs := ([(⟨a1_0, a1_1, y206⟩ : S39)] : List (S39))) (inner := [.int .i64 a1_0, .int .i64 a1_1, .slice Ao93 y206.length co93]) (ok := (fun k_ => (P0_ k_ ∨ w.heap.size ≤ k_) ∧ k_ ≠ gb205)) (okp := (fun k_ => (P0_ k_ ∨ w.heap.size ≤ k_) ∧ k_ ≠ gb205)) ?hr ?hp (fun _ hk => hk) ((show ∀ k_, w96.heap.size ≤ k_ → (fun k_ => (P0_ k_ ∨ w.heap.size ≤ k_) ∧ k_ ≠ gb205) k_ from fun k_ hk => ⟨(.inr (Nat.le_trans (below_size (by repeat (first | (with_reducible first | exact HB.out | apply below_alloc | apply pw_below_drewN | apply below_drew1 | refine below_set ?_ GE205.out) | exact HB.out))) hk)), Kd.freshB (g := gb205) (o := .cells #[.int .i64 a1_0, .int .i64 a1_1, .slice Ao93 y206.length co93] 39 (0, 0)) (by (with_reducible repeat (first | refine blk_drewN ?_ _ | refine blk_drew ?_ | refine blk_alloc ?_ _)); exact BK205.out) k_ hk⟩) _ (Nat.le_refl _)) (Below.refl _ _) (Nat.le_refl _) (by simp) ?_; (case hd => rfl); (case hg => rfl); (case hr => first | (go_simp; done) | (go_simp; rfl)); (case hp => exact (Reps.c3 (show Kd.FK k39 _ _ (⟨a1_0, a1_1, y206⟩ : S39) [.int .i64 a1_0, .int .i64 a1_1, .slice Ao93 y206.length co93] from (k39_mkF _ _ (⟨a1_0, a1_1, y206⟩ : S39) (Kd.R_reads' (Kd.R_mono (ok' := (fun k_ => (P0_ k_ ∨ w.heap.size ≤ k_) ∧ k_ ≠ gb205)) (Kd.R_types (HO208.out) BK205.out (by decide)) (fun k_ hk => ⟨(.inr (hk.1)), hk.2⟩))).2.1 (Kd.R_F (Kd.R_mono (ok' := (fun k_ => (P0_ k_ ∨ w.heap.size ≤ k_) ∧ k_ ≠ gb205)) (Kd.R_types (HO208.out) BK205.out (by decide)) (fun k_ hk => ⟨(.inr (hk.1)), hk.2⟩))))) (Reps.none _ _)))
              intro v262 w97 ho98 hb hg_ hnew_
              clear hg_ hnew_
              (first | rw [← Ny261.out] at ho98 | (simp only [Int.reduceToNat] at ho98; rw [← Ny261.out] at ho98))
              have n0_ := Aside0.mk (Kd.V_elder' (by (with_reducible repeat (first | apply Kd.V_alloc | apply Kd.V_drewN | apply Kd.V_drew)); exact HO0.out) (Kd.N_base ho98) hb)
              have n1_ := Aside0.mk (Kd.N_lower ho98 (below_size (by repeat (first | (with_reducible first | exact HB.out | apply below_alloc | apply pw_below_drewN | apply below_drew1 | refine below_set ?_ GE205.out) | exact HB.out))))
              have n2_ := Aside0.mk (blk_below (g := gb205) (o := .cells #[.int .i64 a1_0, .int .i64 a1_1, .slice Ao93 y206.length co93] 39 (0, 0)) (by (with_reducible repeat (first | refine blk_drewN ?_ _ | refine blk_drew ?_ | refine blk_alloc ?_ _)); exact BK205.out) hb)
              have n3_ := Aside0.mk (below_step (by repeat (first | (with_reducible first | exact HB.out | apply below_alloc | apply pw_below_drewN | apply below_drew1 | refine below_set ?_ GE205.out) | exact HB.out)) hb)
              clear HO0
              clear BK205
              clear HB
              clear HO208
              have HO0 := n0_
              have HO263 := n1_
              have BK205 := n2_
              have HB := n3_
              clear n0_ n1_ n2_ n3_
              clear hb ho98
              refine hK.out _ _ ⟨(blk_cell BK205.out 0).trans rfl, (blk_cell BK205.out 1).trans rfl, (blk_cell BK205.out 2).trans rfl⟩ (fun hHeld => ?_)
              clear hK K
              refine norm_ (a' := ?_) ?_ ?_
              rotate_left
              · show Act.put _ (some 72) _ = _
                simp only [Act.put, List.setIfInBounds_toArray, List.set_cons_zero, List.set_cons_succ, i64_w, i32_w]
                rfl
              refine one_ (i := 1) (N := some 70) #[true, true, true, true, false, false] rfl rfl (by kernel_rfl) (by decide) (fun K hK => ?_)
              refine Kd.N_append_rows_step k39 (w0 := w) w.heap.size (by rfl) (.const (.slice none 0 0)) (.tmp 69) 29 39 (.agg #[(.int .i64 0), (.int .i64 0), (.slice none 0 0)]) 40 rfl Try.underlying29 info39 rfl (by decide) (by omega) (.slice none 0 0) ([] : List (S39)) l0 _ _ _ (fun k_ => (P0_ k_ ∨ w.heap.size ≤ k_) ∧ some k_ ≠ (v262 : Value).ownBlock ∧ k_ ≠ gb205) (fun k_ => ((fun k_ => (P0_ k_ ∨ w.heap.size ≤ k_) ∧ some k_ ≠ (v262 : Value).ownBlock ∧ k_ ≠ gb205)) k_ ∧ some k_ ≠ (.slice none 0 0 : Value).ownBlock) rfl rfl ?aO ?aR (fun _ hk => hk) ?aF ?aB ?aS ?aL ?_
              (case aR => exact (by skip; exact Kd.V_F (Kd.V_mono (ok' := (fun k_ => ((fun k_ => (P0_ k_ ∨ w.heap.size ≤ k_) ∧ some k_ ≠ (v262 : Value).ownBlock ∧ k_ ≠ gb205)) k_ ∧ some k_ ≠ (.slice none 0 0 : Value).ownBlock)) (HO0.out) (fun k_ hk => ⟨⟨hk.1.1, ⟨hk.2, hk.1.2.2⟩⟩, (by simp [Value.ownBlock])⟩))))
              (case aB => exact (by repeat (first | (with_reducible first | exact HB.out | apply below_alloc | apply pw_below_drewN | apply below_drew1 | refine below_set ?_ GE205.out) | exact HB.out)))
              (case aF => exact (fun k_ hk => ⟨(.inr (Nat.le_trans (below_size (by repeat (first | (with_reducible first | exact HB.out | apply below_alloc | apply pw_below_drewN | apply below_drew1 | refine below_set ?_ GE205.out) | exact HB.out))) hk)), Kd.fresh' (Kd.N_lt (by (with_reducible repeat (first | apply Kd.N_alloc | apply Kd.N_drewN | apply Kd.N_drew)); exact HO263.out)) k_ hk, Kd.freshB (g := gb205) (o := .cells #[.int .i64 a1_0, .int .i64 a1_1, .slice Ao93 y206.length co93] 39 (0, 0)) (by (with_reducible repeat (first | refine blk_drewN ?_ _ | refine blk_drew ?_ | refine blk_alloc ?_ _)); exact BK205.out) k_ hk⟩))
              (case aO => exact ((Kd.N_nil _ _ _ _ (fun k_ => (P0_ k_ ∨ w.heap.size ≤ k_) ∧ some k_ ≠ (v262 : Value).ownBlock ∧ k_ ≠ gb205))))
              (case aS => exact (below_size (by repeat (first | (with_reducible first | exact HB.out | apply below_alloc | apply pw_below_drewN | apply below_drew1 | refine below_set ?_ GE205.out) | exact HB.out))))
              (case aL => have := LMc88.out; omega)
              intro v259 w99 ho hb hg hat
              rw [← Ny258.out] at ho
              have n0_ := Aside0.mk (Kd.V_afterv (Kd.V_apart_nil (by (with_reducible repeat (first | apply Kd.V_alloc | apply Kd.V_drewN | apply Kd.V_drew)); exact HO0.out)) hg hat)
              have n1_ := Aside0.mk (blk_grown (g := gb205) (o := .cells #[.int .i64 a1_0, .int .i64 a1_1, .slice Ao93 y206.length co93] 39 (0, 0)) (by (with_reducible repeat (first | refine blk_drewN ?_ _ | refine blk_drew ?_ | refine blk_alloc ?_ _)); exact BK205.out) hg (by simp [Value.ownBlock]))
              have n2_ := Aside0.mk (Kd.N_afterv (Kd.N_apart_nil (by (with_reducible repeat (first | apply Kd.N_alloc | apply Kd.N_drewN | apply Kd.N_drew)); exact HO263.out)) hg hat)
              have n3_ := Aside0.mk (hb)
              have n4_ := Aside0.mk (ho)
              clear HO0
              clear BK205
              clear HO263
              clear HB
              have HO0 := n0_
              have BK205 := n1_
              have HO263 := n2_
              have HB := n3_
              have HO260 := n4_
              clear n0_ n1_ n2_ n3_ n4_
              clear ho hb hg hat
              refine hK.out _ _ ⟨(blk_cell BK205.out 0).trans rfl, (blk_cell BK205.out 1).trans rfl, (blk_cell BK205.out 2).trans rfl⟩ (fun hHeld => ?_)
              clear hK K
              refine norm_ (a' := ?_) ?_ ?_
              rotate_left
              · show Act.put _ (some 70) _ = _
                simp only [Act.put, List.setIfInBounds_toArray, List.set_cons_zero, List.set_cons_succ, i64_w, i32_w]
                rfl
              exact norm_ (by simp only [putAll, Act.put, List.setIfInBounds_toArray, List.set_cons_zero, List.set_cons_succ]) (hCont (v259, v262) _ ⟨hHeld, (by (with_reducible repeat (first | apply Kd.V_alloc | apply Kd.V_drewN | apply Kd.V_drew)); exact Kd.V_mono HO0.out (fun _ hk => ⟨hk.1.1.1, ⟨hk.2, ⟨hk.1.2, hk.1.1.2.2⟩⟩⟩)), (by (with_reducible repeat (first | apply Kd.N_alloc | apply Kd.N_drewN | apply Kd.N_drew)); exact HO260.out), (by (with_reducible repeat (first | apply Kd.N_alloc | apply Kd.N_drewN | apply Kd.N_drew)); exact Kd.N_mono HO263.out (fun _ hk => ⟨hk.1.1, ⟨hk.2, hk.1.2⟩⟩)), (by (with_reducible repeat (first | refine blk_drewN ?_ _ | refine blk_drew ?_ | refine blk_alloc ?_ _)); exact BK205.out), (by repeat (first | (with_reducible first | exact HB.out | apply below_alloc | apply pw_below_drewN | apply below_drew1 | refine below_set ?_ GE205.out) | exact HB.out))⟩)
          rintro ⟨v259, v262⟩ w100 ⟨hS_, h0_, h1_, h2_, h3_, h4_⟩
          have n0_ : Aside0 (Kd.V k39 39 w100 w.heap.size (fun k_ => (P0_ k_ ∨ w.heap.size ≤ k_) ∧ some k_ ≠ (v259 : Value).ownBlock ∧ some k_ ≠ (v262 : Value).ownBlock ∧ k_ ≠ gb205) (.slice A0 l0.length c0) l0) := ⟨h0_⟩
          have n1_ : Aside0 (Kd.N k39 39 w100 w.heap.size (fun k_ => (P0_ k_ ∨ w.heap.size ≤ k_) ∧ some k_ ≠ (v262 : Value).ownBlock ∧ k_ ≠ gb205) v259 y258) := ⟨h1_⟩
          have n2_ : Aside0 (Kd.N k39 39 w100 w.heap.size (fun k_ => (P0_ k_ ∨ w.heap.size ≤ k_) ∧ some k_ ≠ (v259 : Value).ownBlock ∧ k_ ≠ gb205) v262 y261) := ⟨h2_⟩
          have n3_ : Aside0 (w100.heap[gb205]? = some (.cells #[.int .i64 a1_0, .int .i64 a1_1, .slice Ao93 y206.length co93] 39 (0, 0))) := ⟨h3_⟩
          have n4_ : Aside0 (Below w.heap.size w w100) := ⟨h4_⟩
          clear HO0
          clear HO208
          clear BK205
          clear HB
          clear h0_ h1_ h2_ h3_ h4_
          have HO0 := n0_
          have HO260 := n1_
          have HO263 := n2_
          have BK205 := n3_
          have HB := n4_
          clear n0_ n1_ n2_ n3_ n4_
          have hHeld : w100.cell? ⟨gb205, 0, none⟩ = some (.int .i64 a1_0) ∧ w100.cell? ⟨gb205, 1, none⟩ = some (.int .i64 a1_1) ∧ w100.cell? ⟨gb205, 2, none⟩ = some (.slice Ao93 y206.length co93) := hS_
          obtain ⟨Ao102, co102, eo102⟩ := Kd.N_slice HO263.out
          (first | subst eo102 | (injection eo102 with f1_ f2_ f3_; have f4_ := f1_.symm; have f5_ := f3_.symm; clear f1_ f2_ f3_; subst f4_; subst f5_))
          refine norm_ (a' := ?_) ?_ ?_
          rotate_left
          · simp only [putAll, Act.put, List.setIfInBounds_toArray, List.set_cons_zero, List.set_cons_succ]
            rfl
          refine one_ (i := 4) (N := some 73) #[true, true, true, true, true, false] rfl rfl (by kernel_rfl) (by decide) (fun K hK => ?_)
          refine Kd.N_append_rows_step k39 (w0 := w) w.heap.size (by rfl) (.tmp 70) (.tmp 72) 29 39 (.agg #[(.int .i64 0), (.int .i64 0), (.slice none 0 0)]) 40 rfl Try.underlying29 info39 rfl (by decide) (by omega) v259 y258 y261 _ _ _ (fun k_ => (P0_ k_ ∨ w.heap.size ≤ k_) ∧ k_ ≠ gb205) (fun k_ => ((fun k_ => (P0_ k_ ∨ w.heap.size ≤ k_) ∧ k_ ≠ gb205)) k_ ∧ some k_ ≠ (v259 : Value).ownBlock) rfl rfl ?aO ?aR (fun _ hk => hk) ?aF ?aB ?aS ?aL ?_
          (case aR => exact (by skip; exact Kd.N_F (Kd.N_mono (ok' := (fun k_ => ((fun k_ => (P0_ k_ ∨ w.heap.size ≤ k_) ∧ k_ ≠ gb205)) k_ ∧ some k_ ≠ (v259 : Value).ownBlock)) (HO263.out) (fun k_ hk => ⟨⟨hk.1, hk.2.2⟩, hk.2.1⟩))))
          (case aB => exact (by repeat (first | (with_reducible first | exact HB.out | apply below_alloc | apply pw_below_drewN | apply below_drew1 | refine below_set ?_ GE205.out) | exact HB.out)))
          (case aF => exact (fun k_ hk => ⟨(.inr (Nat.le_trans (below_size (by repeat (first | (with_reducible first | exact HB.out | apply below_alloc | apply pw_below_drewN | apply below_drew1 | refine below_set ?_ GE205.out) | exact HB.out))) hk)), Kd.freshB (g := gb205) (o := .cells #[.int .i64 a1_0, .int .i64 a1_1, .slice Ao93 y206.length co93] 39 (0, 0)) (by (with_reducible repeat (first | refine blk_drewN ?_ _ | refine blk_drew ?_ | refine blk_alloc ?_ _)); exact BK205.out) k_ hk⟩))
          (case aO => exact (by (with_reducible repeat (first | apply Kd.N_alloc | apply Kd.N_drewN | apply Kd.N_drew)); exact Kd.N_mono HO260.out (fun _ hk => ⟨hk.1, hk.2.2⟩)))
          (case aS => exact (below_size (by repeat (first | (with_reducible first | exact HB.out | apply below_alloc | apply pw_below_drewN | apply below_drew1 | refine below_set ?_ GE205.out) | exact HB.out))))
          (case aL => have := LMc89.out; omega)
          intro v265 w101 ho hb hg hat
          rw [← Ny264.out] at ho
          have n0_ := Aside0.mk (Kd.V_afterv (ok := (fun k_ => (P0_ k_ ∨ w.heap.size ≤ k_) ∧ some k_ ≠ (.slice Ao102 y261.length co102 : Value).ownBlock ∧ k_ ≠ gb205)) (by (with_reducible repeat (first | apply Kd.V_alloc | apply Kd.V_drewN | apply Kd.V_drew)); exact Kd.V_mono HO0.out (fun _ hk => ⟨⟨hk.1, ⟨hk.2.2.1, hk.2.2.2⟩⟩, hk.2.1⟩)) hg hat)
          have n1_ := Aside0.mk (blk_grown (g := gb205) (o := .cells #[.int .i64 a1_0, .int .i64 a1_1, .slice Ao93 y206.length co93] 39 (0, 0)) (by (with_reducible repeat (first | refine blk_drewN ?_ _ | refine blk_drew ?_ | refine blk_alloc ?_ _)); exact BK205.out) hg (Kd.N_away HO260.out (fun _ hk => hk.2.2)))
          have n2_ := Aside0.mk (Kd.N_afterv (ok := (fun k_ => (P0_ k_ ∨ w.heap.size ≤ k_) ∧ k_ ≠ gb205)) (by (with_reducible repeat (first | apply Kd.N_alloc | apply Kd.N_drewN | apply Kd.N_drew)); exact Kd.N_mono HO263.out (fun _ hk => ⟨⟨hk.1, hk.2.2⟩, hk.2.1⟩)) hg hat)
          have n3_ := Aside0.mk (hb)
          have n4_ := Aside0.mk (ho)
          clear HO0
          clear BK205
          clear HO263
          clear HB
          clear HO260
          have HO0 := n0_
          have BK205 := n1_
          have HO263 := n2_
          have HB := n3_
          have HO266 := n4_
          clear n0_ n1_ n2_ n3_ n4_
          clear ho hb hg hat
          refine hK.out _ _ ⟨(blk_cell BK205.out 0).trans rfl, (blk_cell BK205.out 1).trans rfl, (blk_cell BK205.out 2).trans rfl⟩ (fun hHeld => ?_)
          clear hK K
          refine norm_ (a' := ?_) ?_ ?_
          rotate_left
          · show Act.put _ (some 73) _ = _
            simp only [Act.put, List.setIfInBounds_toArray, List.set_cons_zero, List.set_cons_succ, i64_w, i32_w]
            rfl
          refine pure_ (i := 5) (N := some 4) (v := ?_) (a' := ?_) #[true, true, true, true, true, true] rfl rfl (by kernel_rfl) (fun _ _ _ h => h) (Or.inl ⟨by rfl, ?_⟩) ?_ ?_
          rotate_left
          · intro w'
            go_simp
            with_reducible rfl
          rotate_left
          · simp only [Act.put, List.setIfInBounds_toArray, List.set_cons_zero, List.set_cons_succ, i64_w, i32_w]
            rfl
          refine done_ (by kernel_rfl) ?_
          try go_wp2
          go_ret
          exact ⟨_, by first | rfl | (simp [errW_none, errW_some] <;> rfl) | (simp [*, errW_none, errW_some] <;> rfl), by (with_reducible repeat (first | apply Kd.N_alloc | apply Kd.N_drewN | apply Kd.N_drew)); exact Kd.N_mono HO266.out (fun _ hk => hk.1), by repeat (first | (with_reducible first | exact HB.out | apply below_alloc | apply pw_below_drewN | apply below_drew1 | refine below_set ?_ GE205.out) | exact HB.out)⟩
        · rw [if_neg c89] at H
          exact absurd H (by simp)
      · rw [if_neg c88] at H
        exact absurd H (by simp)
  · rw [if_neg c3] at H
    exact absurd H (by simp)

end Go.Proofs.Ytjckjcekapkkjaa.P
