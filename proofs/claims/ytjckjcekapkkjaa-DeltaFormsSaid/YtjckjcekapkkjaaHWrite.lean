/- The contracts of the writer's method write: a literal is added, or the last one grows. -/
import Derived.Test.YtjckjcekapkkjaaPx0
import Derived.Test.YtjckjcekapkkjaaHOps
import Derived.Test.YtjckjcekapkkjaaHWriter
import Derived.Lib.Hide
import Derived.Outline
import Derived.Deep.DeepMust
import Derived.OneCell
namespace Go.Proofs.Ytjckjcekapkkjaa.P
open Go.RowKit Go.Proofs.YtjckjcekapkkjaaW.PrintWords Go.Proofs.YtjckjcekapkkjaaW.PrintLast Go.Proofs.YtjckjcekapkkjaaW.PrintMore
set_option linter.unusedVariables false
set_option linter.unusedSimpArgs false

theorem wr_old {P : Nat → Prop} {W : World} {base g : Nat} {v : Value} {l : List Dop} (hS : Kd.S k39 39 W base (fun k => k ≠ g ∧ P k) v l) (N : Nat) (hN : W.heap.size ≤ N) : Kd.S k39 39 W base (fun k => (k ≠ g ∧ P k) ∧ ¬ N ≤ k) v l :=
  Kd.S_mono (Kd.S_bound hS) (fun k hk => ⟨hk.1, by have := hk.2.2.1; omega⟩)

set_option maxRecDepth 100000 in
set_option maxHeartbeats 4000000 in
theorem writer_write_nil (P : Nat → Prop) (base g : Nat) (A : Option Addr) (c : Nat) (bs : List Int) (w : World) (hr : Kd.C (Kd.int .u8) w A bs.length bs) (hP : ∀ k, w.heap.size ≤ k → P k) (h : WrStP P w base g ([] : List Dop)) (hbs : bs.length < 1000000000) :
    Calls Try.prog 43 #[.pointer (some ⟨g, 0, none⟩), .slice A bs.length c] w fun e w' => e = .returned (.tuple #[]) ∧ WrStP P w' base g (([] : List Dop) ++ [⟨0, 0, bs⟩]) ∧ Below base w w' ∧ ∀ i, i < w.heap.size → i ≠ g → ¬ P i → w'.heap[i]? = w.heap[i]? := by
  obtain ⟨v, hg, hb, hS⟩ := id h
  obtain ⟨A0, c0, rfl, hl, hC⟩ := Kd.S_reads hS
  simp only [List.length_nil] at *
  clear hC hl
  have hlt := lt_of_block hg
  have hcell := cell_of_one hg
  have HG := Lib.hid hg
  have HS := Lib.hid hS
  have HC := Lib.hid hr
  clear hg hS hr h
  go_enter Try.func43, Try.ntmps43
  go_wp2_with fail
  refine start_ (n := 13) (S := fun w' => w'.cell? ⟨g, 0, none⟩ = some (.slice A0 0 c0)) (ds := [12]) #[false, false, false, false, false, false, false, false, false, false, false, false, false] (by kernel_rfl) rfl rfl (hcell) (fun hHeld => ?_)
  refine pure_ (i := 0) (N := some 44) (v := ?_) (a' := ?_) #[true, false, false, false, false, false, false, false, false, false, false, false, false] rfl rfl (by kernel_rfl) (fun _ _ _ h => h) (Or.inl ⟨by rfl, ?_⟩) ?_ ?_
  rotate_left
  · intro w'
    go_simp
    with_reducible rfl
  rotate_left
  · simp only [Act.put, List.setIfInBounds_toArray, List.set_cons_zero, List.set_cons_succ, i64_w, i32_w]
    rfl
  refine pure_ (i := 1) (N := some 45) (v := ?_) (a' := ?_) #[true, true, false, false, false, false, false, false, false, false, false, false, false] rfl rfl (by kernel_rfl) (fun _ _ _ h => h) (Or.inl ⟨by rfl, ?_⟩) ?_ ?_
  rotate_left
  · intro w'
    go_simp
    with_reducible rfl
  rotate_left
  · simp only [Act.put, List.setIfInBounds_toArray, List.set_cons_zero, List.set_cons_succ, i64_w, i32_w]
    rfl
  refine pure_ (i := 2) (N := some 46) (v := ?_) (a' := ?_) #[true, true, true, false, false, false, false, false, false, false, false, false, false] rfl rfl (by kernel_rfl) (fun _ _ _ h => h) (Or.inl ⟨by rfl, ?_⟩) ?_ ?_
  rotate_left
  · intro w'
    go_simp
    with_reducible rfl
  rotate_left
  · simp only [Act.put, List.setIfInBounds_toArray, List.set_cons_zero, List.set_cons_succ, i64_w, i32_w]
    rfl
  refine pure_ (i := 3) (N := some 47) (v := ?_) (a' := ?_) #[true, true, true, true, false, false, false, false, false, false, false, false, false] rfl rfl (by kernel_rfl) (fun _ _ _ h => h) (Or.inl ⟨by rfl, ?_⟩) ?_ ?_
  rotate_left
  · intro w'
    go_simp
    with_reducible rfl
  rotate_left
  · simp only [Act.put, List.setIfInBounds_toArray, List.set_cons_zero, List.set_cons_succ, i64_w, i32_w]
    rfl
  refine pure_ (i := 5) (N := some 49) (v := ?_) (a' := ?_) #[true, true, true, true, false, true, false, false, false, false, false, false, false] rfl rfl (by kernel_rfl) (fun _ _ _ h => h) (Or.inl ⟨by rfl, ?_⟩) ?_ ?_
  rotate_left
  · intro w'
    go_simp
    with_reducible rfl
  rotate_left
  · simp only [Act.put, List.setIfInBounds_toArray, List.set_cons_zero, List.set_cons_succ, i64_w, i32_w]
    rfl
  refine take_ (i := 4) (N := some 48) (v := ?_) (a' := ?_) #[true, true, true, true, true, true, false, false, false, false, false, false, false] rfl rfl (by kernel_rfl) (fun _ _ _ h => h) (Or.inl ⟨by rfl, ?_⟩) hHeld ?_ ?_
  rotate_left
  · intro w' s0
    go_simp
    with_reducible rfl
  rotate_left
  · simp only [Act.put, List.setIfInBounds_toArray, List.set_cons_zero, List.set_cons_succ, i64_w, i32_w]
    rfl
  refine one_ (i := 6) (N := some 50) #[true, true, true, true, true, true, true, false, false, false, false, false, false] rfl rfl (by kernel_rfl) (by decide) (fun K hK => ?_)
  refine Kd.R_append_rows_step (Kd.int .u8) (w0 := w) base (by rfl) (.const (.slice none 0 0)) (.tmp 49) 26 5 (.int .u8 0) 1 rfl Try.underlying26 info5 rfl (by decide) (by omega) (.slice none 0 0) [] bs _ _ _ (fun k => w.heap.size ≤ k) (fun _ => False) rfl rfl ?aO ?aR (fun _ _ h => h) (fun _ h => h.elim) ?aF ?aB ?aS ?aL ?_
  (case aO => exact Kd.R_nil _ _ _ _ _)
  (case aR => exact Kd.C_below HC.out (pw_below_drewN (Below.refl _ _) 1))
  (case aF => exact fun k hk => hk)
  (case aB => exact (pw_below_drewN (Below.refl _ _) 1))
  (case aS => exact (by simp; omega))
  (case aL => exact (by simp; omega))
  intro v2 w2 hR2 hB2 hg2 _
  obtain ⟨A2, c2, rfl⟩ := Kd.R_slice hR2
  have hg2 : w.grownBy w2 none := ⟨hg2.os, hg2.tape, hg2.output, hg2.size, hg2.block⟩
  have HG2 := Lib.hid ((hg2.block g hlt (by simp)).trans HG.out)
  have HS2 := Lib.hid (Kd.S_grown (wr_old HS.out w.heap.size (Nat.le_refl _)) hg2 (fun _ _ => by simp))
  have hz2 := hg2.size
  have HR2 := Lib.hid hR2
  have hc2 := cell_of_one HG2.out
  have HF2 := Lib.hid (fun i (hi : i < w.heap.size) => hg2.block i hi (by simp))
  clear hg2 hR2
  refine hK.out _ _ (hc2) (fun hHeld => ?_)
  clear hK K
  refine norm_ (a' := ?_) ?_ ?_
  rotate_left
  · show Act.put _ (some 50) _ = _
    simp only [Act.put, List.setIfInBounds_toArray, List.set_cons_zero, List.set_cons_succ, i64_w, i32_w]
    rfl
  refine pure_ (i := 7) (N := some 51) (v := ?_) (a' := ?_) #[true, true, true, true, true, true, true, true, false, false, false, false, false] rfl rfl (by kernel_rfl) (fun _ _ _ h => h) (Or.inl ⟨by rfl, ?_⟩) ?_ ?_
  rotate_left
  · intro w'
    go_simp
    with_reducible rfl
  rotate_left
  · simp only [Act.put, List.setIfInBounds_toArray, List.set_cons_zero, List.set_cons_succ, i64_w, i32_w]
    rfl
  refine one_ (i := 8) (N := some 52) #[true, true, true, true, true, true, true, true, true, false, false, false, false] rfl rfl (by kernel_rfl) (by decide) (fun K hK => ?_)
  refine value_ (w1 := ?_) (v := ?_) (by rfl) rfl ?_ ?_
  rotate_left 2
  · go_simp
    constructor
    · rfl
    · rfl
  refine hK.out _ _ ((World.cell?_alloc_lt _ _ _ (World.block_lt_of_cell? _ _ (hHeld))).trans (hHeld)) (fun hHeld => ?_)
  clear hK K
  refine norm_ (a' := ?_) ?_ ?_
  rotate_left
  · show Act.put _ (some 52) _ = _
    simp only [Act.put, List.setIfInBounds_toArray, List.set_cons_zero, List.set_cons_succ, i64_w, i32_w]
    rfl
  refine one_ (i := 9) (N := some 53) #[true, true, true, true, true, true, true, true, true, true, false, false, false] rfl rfl (by kernel_rfl) (by decide) (fun K hK => ?_)
  refine Kd.S_append_step k39 (w0 := w) base (by rfl) (.tmp 48) (.tmp 52) 29 39 (.agg #[.int .i64 0, .int .i64 0, .slice none 0 0]) 40 rfl Try.underlying29 info3op rfl (by decide) (by decide) (.slice A0 0 c0) ([] : List Dop) (⟨0, 0, bs⟩ : Dop) [.int .i64 0, .int .i64 0, .slice A2 bs.length c2] (fun k => k ≠ g ∧ P k) (fun k => w.heap.size ≤ k) rfl rfl (k39_mkM _ _ _ (⟨0, 0, bs⟩ : Dop) (by simpa using HR2.out)) (fun k hk => ⟨⟨by omega, hP k hk⟩, fun he => by have := Kd.S_lt HS.out k he.symm; omega⟩) ?cF ?cO ?cB ?cZ ?cL ?_
  (case cF => exact fun k hk => ⟨by have := HG2.out; have := lt_of_block this; omega, hP k (by omega)⟩)
  (case cO => exact HS2.out)
  (case cB => exact hB2)
  (case cZ => exact (by have := HG2.out; have := lt_of_block this; omega))
  (case cL => exact (by simp))
  intro v3 w3 hS3 hB3 hg3 _
  obtain ⟨A3, c3, rfl⟩ := Kd.S_slice hS3
  have HG3 := Lib.hid ((hg3.block g (by have := HG2.out; exact lt_of_block this) (wr_ne HS.out)).trans HG2.out)
  have HS3 := Lib.hid hS3
  have hc3 := cell_of_one HG3.out
  have hf3 := free_of_one HG3.out
  have HF3 := Lib.hid (fun i (hi : i < w.heap.size) hn => (hg3.block i (by omega) (wr_neP (i := i) HS.out hn)).trans (HF2.out i hi))
  clear hg3 hS3
  refine hK.out _ _ (hc3) (fun hHeld => ?_)
  clear hK K
  refine norm_ (a' := ?_) ?_ ?_
  rotate_left
  · show Act.put _ (some 53) _ = _
    simp only [Act.put, List.setIfInBounds_toArray, List.set_cons_zero, List.set_cons_succ, i64_w, i32_w]
    rfl
  refine pure_ (i := 10) (N := some 54) (v := ?_) (a' := ?_) #[true, true, true, true, true, true, true, true, true, true, true, false, false] rfl rfl (by kernel_rfl) (fun _ _ _ h => h) (Or.inl ⟨by rfl, ?_⟩) ?_ ?_
  rotate_left
  · intro w'
    go_simp
    with_reducible rfl
  rotate_left
  · simp only [Act.put, List.setIfInBounds_toArray, List.set_cons_zero, List.set_cons_succ, i64_w, i32_w]
    rfl
  refine pure_ (i := 11) (N := some 55) (v := ?_) (a' := ?_) #[true, true, true, true, true, true, true, true, true, true, true, true, false] rfl rfl (by kernel_rfl) (fun _ _ _ h => h) (Or.inl ⟨by rfl, ?_⟩) ?_ ?_
  rotate_left
  · intro w'
    go_simp
    with_reducible rfl
  rotate_left
  · simp only [Act.put, List.setIfInBounds_toArray, List.set_cons_zero, List.set_cons_succ, i64_w, i32_w]
    rfl
  refine last_ (i := 12) (N := none) #[true, true, true, true, true, true, true, true, true, true, true, true, true] rfl rfl (by kernel_rfl) (by decide) (fun K hK => ?_)
  refine skip_ (w1 := ?_) (by rfl) rfl ?_ ?_
  rotate_left
  · go_simp
    rfl
  refine hK.out _ _ ?_
  clear hK K
  refine done_ (by kernel_rfl) ?_

  try go_wp2
  go_end0
  exact ⟨rfl, WrStP.put HG3.out hb (by simpa using HS3.out), hB3.setCell hb _, fun i hi hng hn => (Below.heap_setCell _ ⟨g, 0, none⟩ _ i hng).trans (HF3.out i hi hn)⟩

set_option maxRecDepth 100000 in
set_option maxHeartbeats 4000000 in
theorem writer_write_new (P : Nat → Prop) (base g : Nat) (A : Option Addr) (c : Nat) (bs : List Int) (init : List Dop) (la : Dop) (w : World) (hr : Kd.C (Kd.int .u8) w A bs.length bs) (hP : ∀ k, w.heap.size ≤ k → P k) (h : WrStP P w base g (init ++ [la])) (hm : init.length < 1000000) (hno : la.f2 = []) (hbs : bs.length < 1000000000) :
    Calls Try.prog 43 #[.pointer (some ⟨g, 0, none⟩), .slice A bs.length c] w fun e w' => e = .returned (.tuple #[]) ∧ WrStP P w' base g ((init ++ [la]) ++ [⟨0, 0, bs⟩]) ∧ Below base w w' ∧ ∀ i, i < w.heap.size → i ≠ g → ¬ P i → w'.heap[i]? = w.heap[i]? := by
  obtain ⟨b, cap, hg, hb, hne, hPb, hS⟩ := wr_form h
  obtain ⟨A2, c2, e0, e1, e2⟩ := wr_last hS
  have q0 : decide ((0 : Int) < (init.length : Int) + 1) = true := by simp
  rw [hno] at e2
  simp only [List.length_nil] at e2
  have hlt := lt_of_block hg
  have hcell := cell_of_one hg
  have HG := Lib.hid hg
  have HS := Lib.hid hS
  have HC := Lib.hid hr
  clear hg hS hr h
  go_enter Try.func43, Try.ntmps43
  go_wp2_with fail
  refine start_ (n := 13) (S := fun w' => w'.cell? ⟨g, 0, none⟩ = some (.slice (some ⟨b, 0, none⟩) (init.length + 1) cap)) (ds := [12]) #[false, false, false, false, false, false, false, false, false, false, false, false, false] (by kernel_rfl) rfl rfl (hcell) (fun hHeld => ?_)
  refine pure_ (i := 0) (N := some 44) (v := ?_) (a' := ?_) #[true, false, false, false, false, false, false, false, false, false, false, false, false] rfl rfl (by kernel_rfl) (fun _ _ _ h => h) (Or.inl ⟨by rfl, ?_⟩) ?_ ?_
  rotate_left
  · intro w'
    go_simp
    with_reducible rfl
  rotate_left
  · simp only [Act.put, List.setIfInBounds_toArray, List.set_cons_zero, List.set_cons_succ, i64_w, i32_w]
    rfl
  refine pure_ (i := 1) (N := some 45) (v := ?_) (a' := ?_) #[true, true, false, false, false, false, false, false, false, false, false, false, false] rfl rfl (by kernel_rfl) (fun _ _ _ h => h) (Or.inl ⟨by rfl, ?_⟩) ?_ ?_
  rotate_left
  · intro w'
    go_simp
    with_reducible rfl
  rotate_left
  · simp only [Act.put, List.setIfInBounds_toArray, List.set_cons_zero, List.set_cons_succ, i64_w, i32_w]
    rfl
  refine pure_ (i := 2) (N := some 46) (v := ?_) (a' := ?_) #[true, true, true, false, false, false, false, false, false, false, false, false, false] rfl rfl (by kernel_rfl) (fun _ _ _ h => h) (Or.inl ⟨by rfl, ?_⟩) ?_ ?_
  rotate_left
  · intro w'
    go_simp
    with_reducible rfl
  rotate_left
  · simp only [Act.put, List.setIfInBounds_toArray, List.set_cons_zero, List.set_cons_succ, i64_w, i32_w]
    rfl
  refine pure_ (i := 3) (N := some 47) (v := ?_) (a' := ?_) #[true, true, true, true, false, false, false, false, false, false, false, false, false] rfl rfl (by kernel_rfl) (fun _ _ _ h => h) (Or.inl ⟨by rfl, ?_⟩) ?_ ?_
  rotate_left
  · intro w'
    go_simp
    with_reducible rfl
  rotate_left
  · simp only [Act.put, List.setIfInBounds_toArray, List.set_cons_zero, List.set_cons_succ, i64_w, i32_w]
    rfl
  refine pure_ (i := 5) (N := some 49) (v := ?_) (a' := ?_) #[true, true, true, true, false, true, false, false, false, false, false, false, false] rfl rfl (by kernel_rfl) (fun _ _ _ h => h) (Or.inl ⟨by rfl, ?_⟩) ?_ ?_
  rotate_left
  · intro w'
    go_simp
    with_reducible rfl
  rotate_left
  · simp only [Act.put, List.setIfInBounds_toArray, List.set_cons_zero, List.set_cons_succ, i64_w, i32_w]
    rfl
  refine take_ (i := 4) (N := some 48) (v := ?_) (a' := ?_) #[true, true, true, true, true, true, false, false, false, false, false, false, false] rfl rfl (by kernel_rfl) (fun _ _ _ h => h) (Or.inl ⟨by rfl, ?_⟩) hHeld ?_ ?_
  rotate_left
  · intro w' s0
    go_simp
    with_reducible rfl
  rotate_left
  · simp only [Act.put, List.setIfInBounds_toArray, List.set_cons_zero, List.set_cons_succ, i64_w, i32_w]
    rfl
  refine one_ (i := 6) (N := some 50) #[true, true, true, true, true, true, true, false, false, false, false, false, false] rfl rfl (by kernel_rfl) (by decide) (fun K hK => ?_)
  refine Kd.R_append_rows_step (Kd.int .u8) (w0 := w) base (by rfl) (.const (.slice none 0 0)) (.tmp 49) 26 5 (.int .u8 0) 1 rfl Try.underlying26 info5 rfl (by decide) (by omega) (.slice none 0 0) [] bs _ _ _ (fun k => w.heap.size ≤ k) (fun _ => False) rfl rfl ?aO ?aR (fun _ _ h => h) (fun _ h => h.elim) ?aF ?aB ?aS ?aL ?_
  (case aO => exact Kd.R_nil _ _ _ _ _)
  (case aR => exact Kd.C_below HC.out (pw_below_drewN (Below.refl _ _) 1))
  (case aF => exact fun k hk => hk)
  (case aB => exact (pw_below_drewN (Below.refl _ _) 1))
  (case aS => exact (by simp; omega))
  (case aL => exact (by simp; omega))
  intro v2 w2 hR2 hB2 hg2 _
  obtain ⟨A2, c2, rfl⟩ := Kd.R_slice hR2
  have hg2 : w.grownBy w2 none := ⟨hg2.os, hg2.tape, hg2.output, hg2.size, hg2.block⟩
  have HG2 := Lib.hid ((hg2.block g hlt (by simp)).trans HG.out)
  have HS2 := Lib.hid (Kd.S_grown (wr_old HS.out w.heap.size (Nat.le_refl _)) hg2 (fun _ _ => by simp))
  have hz2 := hg2.size
  have HR2 := Lib.hid hR2
  have hc2 := cell_of_one HG2.out
  have HF2 := Lib.hid (fun i (hi : i < w.heap.size) => hg2.block i hi (by simp))
  clear hg2 hR2
  refine hK.out _ _ (hc2) (fun hHeld => ?_)
  clear hK K
  refine norm_ (a' := ?_) ?_ ?_
  rotate_left
  · show Act.put _ (some 50) _ = _
    simp only [Act.put, List.setIfInBounds_toArray, List.set_cons_zero, List.set_cons_succ, i64_w, i32_w]
    rfl
  refine pure_ (i := 7) (N := some 51) (v := ?_) (a' := ?_) #[true, true, true, true, true, true, true, true, false, false, false, false, false] rfl rfl (by kernel_rfl) (fun _ _ _ h => h) (Or.inl ⟨by rfl, ?_⟩) ?_ ?_
  rotate_left
  · intro w'
    go_simp
    with_reducible rfl
  rotate_left
  · simp only [Act.put, List.setIfInBounds_toArray, List.set_cons_zero, List.set_cons_succ, i64_w, i32_w]
    rfl
  refine one_ (i := 8) (N := some 52) #[true, true, true, true, true, true, true, true, true, false, false, false, false] rfl rfl (by kernel_rfl) (by decide) (fun K hK => ?_)
  refine value_ (w1 := ?_) (v := ?_) (by rfl) rfl ?_ ?_
  rotate_left 2
  · go_simp
    constructor
    · rfl
    · rfl
  refine hK.out _ _ ((World.cell?_alloc_lt _ _ _ (World.block_lt_of_cell? _ _ (hHeld))).trans (hHeld)) (fun hHeld => ?_)
  clear hK K
  refine norm_ (a' := ?_) ?_ ?_
  rotate_left
  · show Act.put _ (some 52) _ = _
    simp only [Act.put, List.setIfInBounds_toArray, List.set_cons_zero, List.set_cons_succ, i64_w, i32_w]
    rfl
  refine one_ (i := 9) (N := some 53) #[true, true, true, true, true, true, true, true, true, true, false, false, false] rfl rfl (by kernel_rfl) (by decide) (fun K hK => ?_)
  refine Kd.S_append_step k39 (w0 := w) base (by rfl) (.tmp 48) (.tmp 52) 29 39 (.agg #[.int .i64 0, .int .i64 0, .slice none 0 0]) 40 rfl Try.underlying29 info3op rfl (by decide) (by decide) (.slice (some ⟨b, 0, none⟩) (init.length + 1) cap) (init ++ [la]) (⟨0, 0, bs⟩ : Dop) [.int .i64 0, .int .i64 0, .slice A2 bs.length c2] (fun k => k ≠ g ∧ P k) (fun k => w.heap.size ≤ k) rfl rfl (k39_mkM _ _ _ (⟨0, 0, bs⟩ : Dop) (by simpa using HR2.out)) (fun k hk => ⟨⟨by omega, hP k hk⟩, fun he => by have := Kd.S_lt HS.out k he.symm; omega⟩) ?cF ?cO ?cB ?cZ ?cL ?_
  (case cF => exact fun k hk => ⟨by have := HG2.out; have := lt_of_block this; omega, hP k (by omega)⟩)
  (case cO => exact HS2.out)
  (case cB => exact hB2)
  (case cZ => exact (by have := HG2.out; have := lt_of_block this; omega))
  (case cL => exact (by simp; omega))
  intro v3 w3 hS3 hB3 hg3 _
  obtain ⟨A3, c3, rfl⟩ := Kd.S_slice hS3
  have HG3 := Lib.hid ((hg3.block g (by have := HG2.out; exact lt_of_block this) (wr_ne HS.out)).trans HG2.out)
  have HS3 := Lib.hid hS3
  have hc3 := cell_of_one HG3.out
  have hf3 := free_of_one HG3.out
  have HF3 := Lib.hid (fun i (hi : i < w.heap.size) hn => (hg3.block i (by omega) (wr_neP (i := i) HS.out hn)).trans (HF2.out i hi))
  clear hg3 hS3
  refine hK.out _ _ (hc3) (fun hHeld => ?_)
  clear hK K
  refine norm_ (a' := ?_) ?_ ?_
  rotate_left
  · show Act.put _ (some 53) _ = _
    simp only [Act.put, List.setIfInBounds_toArray, List.set_cons_zero, List.set_cons_succ, i64_w, i32_w]
    rfl
  refine pure_ (i := 10) (N := some 54) (v := ?_) (a' := ?_) #[true, true, true, true, true, true, true, true, true, true, true, false, false] rfl rfl (by kernel_rfl) (fun _ _ _ h => h) (Or.inl ⟨by rfl, ?_⟩) ?_ ?_
  rotate_left
  · intro w'
    go_simp
    with_reducible rfl
  rotate_left
  · simp only [Act.put, List.setIfInBounds_toArray, List.set_cons_zero, List.set_cons_succ, i64_w, i32_w]
    rfl
  refine pure_ (i := 11) (N := some 55) (v := ?_) (a' := ?_) #[true, true, true, true, true, true, true, true, true, true, true, true, false] rfl rfl (by kernel_rfl) (fun _ _ _ h => h) (Or.inl ⟨by rfl, ?_⟩) ?_ ?_
  rotate_left
  · intro w'
    go_simp
    with_reducible rfl
  rotate_left
  · simp only [Act.put, List.setIfInBounds_toArray, List.set_cons_zero, List.set_cons_succ, i64_w, i32_w]
    rfl
  refine last_ (i := 12) (N := none) #[true, true, true, true, true, true, true, true, true, true, true, true, true] rfl rfl (by kernel_rfl) (by decide) (fun K hK => ?_)
  refine skip_ (w1 := ?_) (by rfl) rfl ?_ ?_
  rotate_left
  · go_simp
    rfl
  refine hK.out _ _ ?_
  clear hK K
  refine done_ (by kernel_rfl) ?_

  try go_wp2
  go_end0
  exact ⟨rfl, WrStP.put HG3.out hb (by simpa using HS3.out), hB3.setCell hb _, fun i hi hng hn => (Below.heap_setCell _ ⟨g, 0, none⟩ _ i hng).trans (HF3.out i hi hn)⟩

theorem wr_data {P : Nat → Prop} {W : World} {base g b cap : Nat} {okI : Nat → Prop} {init : List Dop} {la : Dop} {v2 v3 : Value} {ys : List Int} (hg : W.heap[g]? = some (.cells #[.slice (some ⟨b, 0, none⟩) (init.length + 1) cap] 63 (0, 0))) (hb : base ≤ g) (hne : b ≠ g)
    (hH : Kd.H k39 39 W base (fun k => k ≠ g ∧ P k) (.slice (some ⟨b, 0, none⟩) (init.length + 1) cap) (init ++ [la]) (init.length : Int) okI [.int .i64 la.f0, .int .i64 la.f1, v2]) (hR : Kd.R (Kd.int .u8) 5 W base okI v3 ys) (hI : ∀ k, okI k → k ≠ b) (h1 : v3.oneCell' = true) :
    WrStP P (W.setCell ⟨b, init.length * 3 + 2, none⟩ v3) base g (init ++ [⟨la.f0, la.f1, ys⟩]) := by
  obtain ⟨h3, h4⟩ := Kd.H_seg hH (seg := [v3]) (j := 2) (by omega) (by omega) (by rw [show (k39).sz = 3 from rfl]; simp) (fun q hq => by rw [List.mem_singleton.1 hq]; exact h1)
  rw [setCells_sing, show (k39).sz = 3 from rfl, Int.toNat_natCast] at h3 h4
  have h5 := Kd.H_back (x' := (⟨la.f0, la.f1, ys⟩ : Dop)) (okp := okI) h3 (k39_mkM _ _ _ (⟨la.f0, la.f1, ys⟩ : Dop) (Kd.R_far (p := ⟨b, init.length * 3 + 2, none⟩) hR hI _)) (fun _ hk => hk)
  have e2 : (init ++ [la]).set (init.length : Int).toNat (⟨la.f0, la.f1, ys⟩ : Dop) = init ++ [⟨la.f0, la.f1, ys⟩] := by simp
  rw [e2] at h5
  exact ⟨_, (h4.block g (lt_of_block hg) (fun e => hne (Option.some.inj e).symm)).trans hg, hb, h5⟩

set_option maxRecDepth 100000 in
set_option maxHeartbeats 4000000 in
theorem writer_write_join (P : Nat → Prop) (base g : Nat) (A : Option Addr) (c : Nat) (bs : List Int) (init : List Dop) (la : Dop) (w : World) (hr : Kd.C (Kd.int .u8) w A bs.length bs) (hP : ∀ k, w.heap.size ≤ k → P k) (h : WrStP P w base g (init ++ [la])) (hm : init.length < 1000000) (hno : 0 < la.f2.length) (hla : la.f2.length < 1000000000) (hbs : bs.length < 1000000000) :
    Calls Try.prog 43 #[.pointer (some ⟨g, 0, none⟩), .slice A bs.length c] w fun e w' => e = .returned (.tuple #[]) ∧ WrStP P w' base g (init ++ [⟨la.f0, la.f1, la.f2 ++ bs⟩]) ∧ Below base w w' ∧ ∀ i, i < w.heap.size → i ≠ g → ¬ P i → w'.heap[i]? = w.heap[i]? := by
  obtain ⟨b, cap, hg, hb, hne, hPb, hS⟩ := wr_form h
  have hlt := lt_of_block hg
  have hcell := cell_of_one hg
  have hbb : base ≤ b := Kd.S_base hS b rfl
  have hblt : b < w.heap.size := Kd.S_lt hS b rfl
  obtain ⟨oki, cc, hcc, hM, hce, hfr, hoki, hH⟩ := Kd.S_elem hS z39 (init.length : Int) (by omega) (by omega)
  have e : (init ++ [la]).getD (init.length : Int).toNat z39 = la := by simp [List.getD_eq_getElem?_getD]
  rw [e] at hM
  obtain ⟨v2, rfl, hR⟩ := k39_openM hM
  obtain ⟨A2, c2, rfl⟩ := Kd.R_slice hR
  rw [show (k39).sz = 3 from rfl, Int.toNat_natCast] at hce hfr
  have e2 := hce 2 _ rfl
  have hfr := hfr 2
  have HG := Lib.hid hg
  have HC := Lib.hid hr
  have Hoki := Lib.hid hoki
  have HR0 := Lib.hid hR
  have HR := Lib.hid (Kd.R_mono (ok' := fun k => oki k ∨ (k ≠ g ∧ P k) ∧ w.heap.size ≤ k) hR (fun k hk => .inl hk))
  have HH := Lib.hid (Kd.H_widen hH)
  have HI := Lib.hid (show ∀ k, oki k ∨ (k ≠ g ∧ P k) ∧ w.heap.size ≤ k → k ≠ b from fun k hk => by
    rcases hk with hk | hk
    · exact (hoki k hk).2
    · have := hk.2; omega)
  clear hg hr h hS hM hR hH hoki hce hcc
  generalize hn2 : la.f2.length = n2 at *
  have q1 : decide ((0 : Int) < (n2 : Int)) = true := by simp; omega
  have q0 : decide ((0 : Int) < (init.length : Int) + 1) = true := by simp
  have N2 := Lib.hid hn2
  clear hn2
  go_enter Try.func43, Try.ntmps43
  go_wp2_with fail
  have s0 : wrap64 (init.length : Int) = (init.length : Int) := by unfold wrap64; omega
  have s4 := eq_true (show (init.length : Int) < (init.length : Int) + 1 by omega)
  refine start_ (n := 20) (S := fun w' => w'.cell? ⟨g, 0, none⟩ = some (.slice (some ⟨b, 0, none⟩) (init.length + 1) cap) ∧ w'.cell? ⟨b, init.length * 3 + 2, none⟩ = some (.slice A2 n2 c2)) (ds := [19]) #[false, false, false, false, false, false, false, false, false, false, false, false, false, false, false, false, false, false, false, false] (by kernel_rfl) rfl rfl ⟨hcell, e2⟩ (fun hHeld => ?_)
  refine pure_ (i := 0) (N := some 25) (v := ?_) (a' := ?_) #[true, false, false, false, false, false, false, false, false, false, false, false, false, false, false, false, false, false, false, false] rfl rfl (by kernel_rfl) (fun _ _ _ h => h) (Or.inl ⟨by rfl, ?_⟩) ?_ ?_
  rotate_left
  · intro w'
    go_simp
    with_reducible rfl
  rotate_left
  · simp only [Act.put, List.setIfInBounds_toArray, List.set_cons_zero, List.set_cons_succ, i64_w, i32_w]
    rfl
  refine pure_ (i := 1) (N := some 26) (v := ?_) (a' := ?_) #[true, true, false, false, false, false, false, false, false, false, false, false, false, false, false, false, false, false, false, false] rfl rfl (by kernel_rfl) (fun _ _ _ h => h) (Or.inl ⟨by rfl, ?_⟩) ?_ ?_
  rotate_left
  · intro w'
    go_simp
    with_reducible rfl
  rotate_left
  · simp only [Act.put, List.setIfInBounds_toArray, List.set_cons_zero, List.set_cons_succ, i64_w, i32_w]
    rfl
  refine pure_ (i := 2) (N := some 27) (v := ?_) (a' := ?_) #[true, true, true, false, false, false, false, false, false, false, false, false, false, false, false, false, false, false, false, false] rfl rfl (by kernel_rfl) (fun _ _ _ h => h) (Or.inl ⟨by rfl, ?_⟩) ?_ ?_
  rotate_left
  · intro w'
    go_simp
    with_reducible rfl
  rotate_left
  · simp only [Act.put, List.setIfInBounds_toArray, List.set_cons_zero, List.set_cons_succ, i64_w, i32_w]
    rfl
  refine pure_ (i := 4) (N := some 29) (v := ?_) (a' := ?_) #[true, true, true, false, true, false, false, false, false, false, false, false, false, false, false, false, false, false, false, false] rfl rfl (by kernel_rfl) (fun _ _ _ h => h) (Or.inl ⟨by rfl, ?_⟩) ?_ ?_
  rotate_left
  · intro w'
    go_simp
    with_reducible rfl
  rotate_left
  · simp only [Act.put, List.setIfInBounds_toArray, List.set_cons_zero, List.set_cons_succ, i64_w, i32_w]
    rfl
  refine pure_ (i := 5) (N := some 30) (v := ?_) (a' := ?_) #[true, true, true, false, true, true, false, false, false, false, false, false, false, false, false, false, false, false, false, false] rfl rfl (by kernel_rfl) (fun _ _ _ h => h) (Or.inl ⟨by rfl, ?_⟩) ?_ ?_
  rotate_left
  · intro w'
    go_simp
    with_reducible rfl
  rotate_left
  · simp only [Act.put, List.setIfInBounds_toArray, List.set_cons_zero, List.set_cons_succ, i64_w, i32_w]
    rfl
  refine pure_ (i := 6) (N := some 31) (v := ?_) (a' := ?_) #[true, true, true, false, true, true, true, false, false, false, false, false, false, false, false, false, false, false, false, false] rfl rfl (by kernel_rfl) (fun _ _ _ h => h) (Or.inl ⟨by rfl, ?_⟩) ?_ ?_
  rotate_left
  · intro w'
    go_simp
    with_reducible rfl
  rotate_left
  · simp only [Act.put, List.setIfInBounds_toArray, List.set_cons_zero, List.set_cons_succ, i64_w, i32_w]
    rfl
  refine pure_ (i := 7) (N := some 32) (v := ?_) (a' := ?_) #[true, true, true, false, true, true, true, true, false, false, false, false, false, false, false, false, false, false, false, false] rfl rfl (by kernel_rfl) (fun _ _ _ h => h) (Or.inl ⟨by rfl, ?_⟩) ?_ ?_
  rotate_left
  · intro w'
    go_simp
    with_reducible rfl
  rotate_left
  · simp only [Act.put, List.setIfInBounds_toArray, List.set_cons_zero, List.set_cons_succ, i64_w, i32_w]
    rfl
  refine pure_ (i := 8) (N := some 33) (v := ?_) (a' := ?_) #[true, true, true, false, true, true, true, true, true, false, false, false, false, false, false, false, false, false, false, false] rfl rfl (by kernel_rfl) (fun _ _ _ h => h) (Or.inl ⟨by rfl, ?_⟩) ?_ ?_
  rotate_left
  · intro w'
    go_simp
    with_reducible rfl
  rotate_left
  · simp only [Act.put, List.setIfInBounds_toArray, List.set_cons_zero, List.set_cons_succ, i64_w, i32_w]
    rfl
  refine pure_ (i := 10) (N := some 35) (v := ?_) (a' := ?_) #[true, true, true, false, true, true, true, true, true, false, true, false, false, false, false, false, false, false, false, false] rfl rfl (by kernel_rfl) (fun _ _ _ h => h) (Or.inl ⟨by rfl, ?_⟩) ?_ ?_
  rotate_left
  · intro w'
    go_simp
    with_reducible rfl
  rotate_left
  · simp only [Act.put, List.setIfInBounds_toArray, List.set_cons_zero, List.set_cons_succ, i64_w, i32_w]
    rfl
  refine pure_ (i := 11) (N := some 36) (v := ?_) (a' := ?_) #[true, true, true, false, true, true, true, true, true, false, true, true, false, false, false, false, false, false, false, false] rfl rfl (by kernel_rfl) (fun _ _ _ h => h) (Or.inl ⟨by rfl, ?_⟩) ?_ ?_
  rotate_left
  · intro w'
    go_simp
    with_reducible rfl
  rotate_left
  · simp only [Act.put, List.setIfInBounds_toArray, List.set_cons_zero, List.set_cons_succ, i64_w, i32_w]
    rfl
  refine pure_ (i := 15) (N := some 40) (v := ?_) (a' := ?_) #[true, true, true, false, true, true, true, true, true, false, true, true, false, false, false, true, false, false, false, false] rfl rfl (by kernel_rfl) (fun _ _ _ h => h) (Or.inl ⟨by rfl, ?_⟩) ?_ ?_
  rotate_left
  · intro w'
    go_simp
    with_reducible rfl
  rotate_left
  · simp only [Act.put, List.setIfInBounds_toArray, List.set_cons_zero, List.set_cons_succ, i64_w, i32_w]
    rfl
  refine take_ (i := 3) (N := some 28) (v := ?_) (a' := ?_) #[true, true, true, true, true, true, true, true, true, false, true, true, false, false, false, true, false, false, false, false] rfl rfl (by kernel_rfl) (fun _ _ _ h => h) (Or.inl ⟨by rfl, ?_⟩) hHeld ?_ ?_
  rotate_left
  · rintro w' ⟨s0, s1⟩
    go_simp
    with_reducible rfl
  rotate_left
  · simp only [Act.put, List.setIfInBounds_toArray, List.set_cons_zero, List.set_cons_succ, i64_w, i32_w]
    rfl
  refine take_ (i := 9) (N := some 34) (v := ?_) (a' := ?_) #[true, true, true, true, true, true, true, true, true, true, true, true, false, false, false, true, false, false, false, false] rfl rfl (by kernel_rfl) (fun _ _ _ h => h) (Or.inl ⟨by rfl, ?_⟩) hHeld ?_ ?_
  rotate_left
  · rintro w' ⟨s0, s1⟩
    go_simp
    with_reducible rfl
  rotate_left
  · simp only [Act.put, List.setIfInBounds_toArray, List.set_cons_zero, List.set_cons_succ, i64_w, i32_w]
    rfl
  refine pure_ (i := 12) (N := some 37) (v := ?_) (a' := ?_) #[true, true, true, true, true, true, true, true, true, true, true, true, true, false, false, true, false, false, false, false] rfl rfl (by kernel_rfl) (fun _ _ _ h => h) (Or.inl ⟨by rfl, ?_⟩) ?_ ?_
  rotate_left
  · intro w'
    go_simp
    with_reducible rfl
  rotate_left
  · simp only [Act.put, List.setIfInBounds_toArray, List.set_cons_zero, List.set_cons_succ, i64_w, i32_w]
    rfl
  refine pure_ (i := 13) (N := some 38) (v := ?_) (a' := ?_) #[true, true, true, true, true, true, true, true, true, true, true, true, true, true, false, true, false, false, false, false] rfl rfl (by kernel_rfl) (fun _ _ _ h => h) (Or.inl ⟨by rfl, ?_⟩) ?_ ?_
  rotate_left
  · intro w'
    go_simp
    with_reducible rfl
  rotate_left
  · simp only [Act.put, List.setIfInBounds_toArray, List.set_cons_zero, List.set_cons_succ, i64_w, i32_w]
    rfl
  refine take_ (i := 14) (N := some 39) (v := ?_) (a' := ?_) #[true, true, true, true, true, true, true, true, true, true, true, true, true, true, true, true, false, false, false, false] rfl rfl (by kernel_rfl) (fun _ _ _ h => h) (Or.inl ⟨by rfl, ?_⟩) hHeld ?_ ?_
  rotate_left
  · rintro w' ⟨s0, s1⟩
    go_simp
    with_reducible rfl
  rotate_left
  · simp only [Act.put, List.setIfInBounds_toArray, List.set_cons_zero, List.set_cons_succ, i64_w, i32_w]
    rfl
  refine one_ (i := 16) (N := some 41) #[true, true, true, true, true, true, true, true, true, true, true, true, true, true, true, true, true, false, false, false] rfl rfl (by kernel_rfl) (by decide) (fun K hK => ?_)
  refine Kd.R_append_rows_step (Kd.int .u8) (w0 := w) base (by rfl) (.tmp 39) (.tmp 40) 26 5 (.int .u8 0) 1 rfl Try.underlying26 info5 rfl (by decide) (by omega) (.slice A2 n2 c2) la.f2 bs _ _ _ (fun k => oki k ∨ (k ≠ g ∧ P k) ∧ w.heap.size ≤ k) (fun _ => False) rfl rfl ?aO ?aR (fun _ _ h => h) (fun _ h => h.elim) ?aF ?aB ?aS ?aL ?_
  (case aO => exact Kd.R_drew HR.out)
  (case aR => exact Kd.C_below HC.out (pw_below_drewN (Below.refl _ _) 1))
  (case aF => exact fun k hk => .inr ⟨⟨by have : w.heap.size ≤ k := hk; omega, hP k hk⟩, hk⟩)
  (case aB => exact (pw_below_drewN (Below.refl _ _) 1))
  (case aS => exact (show base ≤ w.heap.size by omega))
  (case aL => exact (by have := N2.out; omega))
  intro v3 w2 hR2 hB2 hg2 _
  obtain ⟨A3, c3, rfl⟩ := Kd.R_slice hR2
  have hg2 : w.grownBy w2 (Value.slice A2 n2 c2).ownBlock := ⟨hg2.os, hg2.tape, hg2.output, hg2.size, hg2.block⟩
  have HR2 := Lib.hid hR2
  have HG2 := Lib.hid ((hg2.block g hlt (fun e => (Hoki.out g (HR0.out.1 g e.symm)).1.1 rfl)).trans HG.out)
  have HB2 := Lib.hid (hg2.block b hblt (fun e => (Hoki.out b (HR0.out.1 b e.symm)).2 rfl))
  have HH2 := Lib.hid (Kd.H_grown HH.out hg2 (fun k hk => .inl (HR0.out.1 k hk)))
  have hc2 := cell_of_one HG2.out
  have hd2 := (World.cell?_of_block (a := ⟨b, init.length * 3 + 2, none⟩) HB2.out).trans e2
  have hf2 := (World.frozen?_of_block (a := ⟨b, init.length * 3 + 2, none⟩) HB2.out).trans hfr
  have HF2 := Lib.hid (fun i (hi : i < w.heap.size) (hn : ¬ P i) => hg2.block i hi (fun e => hn (Hoki.out i (HR0.out.1 i e.symm)).1.2))
  clear hg2 hR2
  refine hK.out _ _ ⟨hc2, hd2⟩ (fun hHeld => ?_)
  clear hK K
  refine norm_ (a' := ?_) ?_ ?_
  rotate_left
  · show Act.put _ (some 41) _ = _
    simp only [Act.put, List.setIfInBounds_toArray, List.set_cons_zero, List.set_cons_succ, i64_w, i32_w]
    rfl
  refine pure_ (i := 17) (N := some 42) (v := ?_) (a' := ?_) #[true, true, true, true, true, true, true, true, true, true, true, true, true, true, true, true, true, true, false, false] rfl rfl (by kernel_rfl) (fun _ _ _ h => h) (Or.inl ⟨by rfl, ?_⟩) ?_ ?_
  rotate_left
  · intro w'
    go_simp
    with_reducible rfl
  rotate_left
  · simp only [Act.put, List.setIfInBounds_toArray, List.set_cons_zero, List.set_cons_succ, i64_w, i32_w]
    rfl
  refine pure_ (i := 18) (N := some 43) (v := ?_) (a' := ?_) #[true, true, true, true, true, true, true, true, true, true, true, true, true, true, true, true, true, true, true, false] rfl rfl (by kernel_rfl) (fun _ _ _ h => h) (Or.inl ⟨by rfl, ?_⟩) ?_ ?_
  rotate_left
  · intro w'
    go_simp
    with_reducible rfl
  rotate_left
  · simp only [Act.put, List.setIfInBounds_toArray, List.set_cons_zero, List.set_cons_succ, i64_w, i32_w]
    rfl
  refine last_ (i := 19) (N := none) #[true, true, true, true, true, true, true, true, true, true, true, true, true, true, true, true, true, true, true, true] rfl rfl (by kernel_rfl) (by decide) (fun K hK => ?_)
  refine skip_ (w1 := ?_) (by rfl) rfl ?_ ?_
  rotate_left
  · go_simp
    rfl
  refine hK.out _ _ ?_
  clear hK K
  refine done_ (by kernel_rfl) ?_

  try go_wp2
  refine bodyPost_ret (results_none rfl _ _ _) rfl ?_
  exact ⟨rfl, by simpa using wr_data HG2.out hb hne HH2.out HR2.out HI.out rfl, hB2.setCell hbb _, fun i hi hng hn => (Below.heap_setCell _ ⟨b, _, none⟩ _ i (fun e => hn (e ▸ hPb))).trans (HF2.out i hi hn)⟩
end Go.Proofs.Ytjckjcekapkkjaa.P
