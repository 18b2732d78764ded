/- The writer of normal deltas: what its variable holds, and the contract of its method copy. -/
import Derived.Test.YtjckjcekapkkjaaPx0
import Derived.Test.YtjckjcekapkkjaaHOps
import Derived.Lib.Hide
import Derived.Outline
import Derived.Deep.DeepMust
import Derived.OneCell
namespace Go.Proofs.Ytjckjcekapkkjaa.P
open Go.RowKit Go.Proofs.YtjckjcekapkkjaaW.PrintWords Go.Proofs.YtjckjcekapkkjaaW.PrintLast Go.Proofs.YtjckjcekapkkjaaW.PrintMore
set_option linter.unusedVariables false
set_option linter.unusedSimpArgs false

/-- The writer's variable (block g) holds the ops l, in memory from block base on; its rows lie where P says. -/
def WrStP (P : Nat → Prop) (W : World) (base g : Nat) (l : List Dop) : Prop := ∃ v, W.heap[g]? = some (.cells #[v] 63 (0, 0)) ∧ base ≤ g ∧ Kd.S k39 39 W base (fun k => k ≠ g ∧ P k) v l
abbrev WrSt (W : World) (base g : Nat) (l : List Dop) : Prop := WrStP (fun _ => True) W base g l
theorem WrStP.below {P : Nat → Prop} {W W1 : World} {base g : Nat} {l : List Dop} (h : WrStP P W base g l) (hb : Below W.heap.size W W1) : WrStP P W1 base g l := by
  obtain ⟨v, hg, hbg, hS⟩ := h
  exact ⟨v, (hb.block g (lt_of_block hg)).trans hg, hbg, Kd.S_below hS hb⟩
theorem WrSt.below {W W1 : World} {base g : Nat} {l : List Dop} (h : WrSt W base g l) (hb : Below W.heap.size W W1) : WrSt W1 base g l := WrStP.below h hb
theorem WrStP.mono {P Q : Nat → Prop} {W : World} {base g : Nat} {l : List Dop} (h : WrStP P W base g l) (hq : ∀ k, k < W.heap.size → P k → Q k) : WrStP Q W base g l := by
  obtain ⟨v, hg, hbg, hS⟩ := h
  exact ⟨v, hg, hbg, Kd.S_mono (Kd.S_bound hS) (fun k hk => ⟨hk.1.1, hq k hk.2.2.1 hk.1.2⟩)⟩
theorem WrStP.put {P : Nat → Prop} {W : World} {base g : Nat} {v v' : Value} {l : List Dop} (hg : W.heap[g]? = some (.cells #[v] 63 (0, 0))) (hb : base ≤ g) (hS : Kd.S k39 39 W base (fun k => k ≠ g ∧ P k) v' l) : WrStP P (W.setCell ⟨g, 0, none⟩ v') base g l :=
  ⟨v', one_setCell hg, hb, Kd.S_far (p := ⟨g, 0, none⟩) hS (fun k hk => hk.1) v'⟩
theorem wr_start {W : World} {base : Nat} (h : base ≤ W.heap.size) : WrSt (W.alloc (.cells #[.slice none 0 0] 63)) base W.heap.size [] :=
  ⟨_, heap_alloc_new W _, h, Kd.S_nil _ _ _ _ _⟩
theorem wr_end {P : Nat → Prop} {W : World} {base g : Nat} {l : List Dop} (h : WrStP P W base g l) : ∃ A c, W.cell? ⟨g, 0, none⟩ = some (.slice A l.length c) ∧ Kd.S k39 39 W base (fun _ => True) (.slice A l.length c) l := by
  obtain ⟨v, hg, hb, hS⟩ := h
  obtain ⟨A, c, rfl⟩ := Kd.S_slice hS
  exact ⟨A, c, cell_of_one hg, Kd.S_mono hS (fun _ _ => trivial)⟩
theorem wr_ne {P : Nat → Prop} {v : Value} {W : World} {base g : Nat} {l : List Dop} (hS : Kd.S k39 39 W base (fun k => k ≠ g ∧ P k) v l) : some g ≠ v.ownBlock := fun h => Kd.S_away hS (fun _ hk => hk.1) h
theorem wr_neP {P : Nat → Prop} {v : Value} {W : World} {base g i : Nat} {l : List Dop} (hS : Kd.S k39 39 W base (fun k => k ≠ g ∧ P k) v l) (hn : ¬ P i) : some i ≠ v.ownBlock := fun h => Kd.S_away hS (g := i) (fun k hk e => hn (e ▸ hk.2)) h
theorem info3op : (Try.prog.info? 39).map (fun i => (i.zero, i.size, i.bytes)) = some (some (.agg #[.int .i64 0, .int .i64 0, .slice none 0 0]), 3, 40) := by kernel_rfl
set_option maxRecDepth 100000 in
set_option maxHeartbeats 2000000 in
theorem writer_copy_nil (P : Nat → Prop) (base g : Nat) (from_ size : Int) (w : World) (hP : ∀ k, w.heap.size ≤ k → P k) (h : WrStP P w base g []) :
    Calls Try.prog 44 #[.pointer (some ⟨g, 0, none⟩), .int .i64 from_, .int .i64 size] w fun e w' => e = .returned (.tuple #[]) ∧ WrStP P w' base g [⟨from_, size, []⟩] ∧ Below base w w' ∧ ∀ i, i < w.heap.size → i ≠ g → ¬ P i → w'.heap[i]? = w.heap[i]? := by
  obtain ⟨v, hg, hb, hS⟩ := h
  obtain ⟨A, c, rfl, hl, hC⟩ := Kd.S_reads hS
  have hlt := lt_of_block hg
  have hcell := cell_of_one hg
  have hfr := free_of_one hg
  have HG := Lib.hid hg
  have HS := Lib.hid hS
  simp only [List.length_nil] at *
  clear hg hS hC hl
  go_enter Try.func44, Try.ntmps44
  go_wp2_with fail
  go_quiet (fail)
  go_wp2_with ((with_reducible refine gate_builtin (b := .append) (xs := #[.tmp 67, .tmp 71]) rfl ?_); at_builtin; go_must (refine Kd.S_append k39 (w0 := w) base rfl (.tmp 67) (.tmp 71) 29 39 (.agg #[.int .i64 0, .int .i64 0, .slice none 0 0]) 40 rfl Try.underlying29 info3op rfl (by decide) (by decide) (.slice A 0 c) [] ⟨from_, size, []⟩ [.int .i64 from_, .int .i64 size, .slice none 0 0] (fun k => k ≠ g ∧ P k) (fun _ => False) rfl rfl (k39_mkM _ _ _ _ (Kd.R_nil _ _ _ _ _)) (fun _ hk => hk.elim) ?cF ?cO ?cB ?cZ ?cL ?_))
  case cF => exact fun k hk => ⟨by simp at hk; omega, hP k (by simpa using hk)⟩
  case cO => exact Kd.S_mono (Kd.S_drewN HS.out _) (fun _ hk => ⟨hk, fun h => h⟩)
  case cB => exact pw_below_drewN (Below.refl _ _) _
  case cZ => simp; omega
  case cL => simp
  intro v1 w1 hS1 hB1 hgr _
  obtain ⟨A1, c1, rfl⟩ := Kd.S_slice hS1
  have HS1 := Lib.hid hS1
  clear hS1
  have hg1 := Lib.hid ((hgr.block g (by simpa using hlt) (wr_ne HS.out)).trans (show (w.drewN _).heap[g]? = _ from HG.out))
  have hc1 := cell_of_one hg1.out
  have hf1 := free_of_one hg1.out
  have HF := Lib.hid (fun i hi hn => (hgr.block i (by simpa using hi) (wr_neP (i := i) HS.out hn)).trans (show (w.drewN _).heap[i]? = w.heap[i]? from rfl))
  clear hgr hcell hfr
  go_wp2
  all_goals go_end0
  all_goals exact ⟨rfl, WrStP.put hg1.out hb (by simpa using HS1.out), hB1.setCell hb _, fun i hi hng hn => (Below.heap_setCell _ ⟨g, 0, none⟩ _ i hng).trans (HF.out i hi hn)⟩

/-- The last op of a row, cell by cell. -/
theorem wr_last {W : World} {base b cap : Nat} {ok : Nat → Prop} {init : List Dop} {la : Dop} (hS : Kd.S k39 39 W base ok (.slice (some ⟨b, 0, none⟩) (init.length + 1) cap) (init ++ [la])) :
    ∃ A2 c2, W.cell? ⟨b, init.length * 3, none⟩ = some (.int .i64 la.f0) ∧ W.cell? ⟨b, init.length * 3 + 1, none⟩ = some (.int .i64 la.f1) ∧ W.cell? ⟨b, init.length * 3 + 2, none⟩ = some (.slice A2 la.f2.length c2) := by
  obtain ⟨oki, c, hc, hM, hcell, _⟩ := Kd.S_elem hS z39 (init.length : Int) (by omega) (by omega)
  have e : (init ++ [la]).getD (init.length : Int).toNat z39 = la := by simp [List.getD_eq_getElem?_getD]
  rw [e] at hM
  obtain ⟨v2, rfl, hR⟩ := k39_openM hM
  obtain ⟨A2, c2, rfl⟩ := Kd.R_slice hR
  rw [show (k39).sz = 3 from rfl] at hcell
  refine ⟨A2, c2, ?_, ?_, ?_⟩
  · simpa using hcell 0 _ rfl
  · simpa using hcell 1 _ rfl
  · simpa using hcell 2 _ rfl
theorem wr_form {P : Nat → Prop} {W : World} {base g : Nat} {init : List Dop} {la : Dop} (h : WrStP P W base g (init ++ [la])) :
    ∃ b cap, W.heap[g]? = some (.cells #[.slice (some ⟨b, 0, none⟩) (init.length + 1) cap] 63 (0, 0)) ∧ base ≤ g ∧ b ≠ g ∧ P b ∧ Kd.S k39 39 W base (fun k => k ≠ g ∧ P k) (.slice (some ⟨b, 0, none⟩) (init.length + 1) cap) (init ++ [la]) := by
  obtain ⟨v, hg, hb, hS⟩ := h
  obtain ⟨b, cap, rfl, _⟩ := Kd.S_form hS (by simp)
  have hne := wr_ne hS
  simp only [List.length_append, List.length_singleton] at hg hS hne
  exact ⟨b, cap, hg, hb, fun e => hne (by simp [Value.ownBlock, e]), Classical.byContradiction (fun hn => wr_neP hS hn (by simp [Value.ownBlock])), hS⟩

set_option maxRecDepth 100000 in
set_option maxHeartbeats 4000000 in
theorem writer_copy_new (P : Nat → Prop) (base g : Nat) (from_ size : Int) (init : List Dop) (la : Dop) (w : World) (hP : ∀ k, w.heap.size ≤ k → P k) (h : WrStP P w base g (init ++ [la])) (hm : init.length < 1000000) (b0 : 0 ≤ la.f0 ∧ la.f0 ≤ 1000000000000) (b1 : 0 ≤ la.f1 ∧ la.f1 ≤ 1000000000000)
    (hno : 0 < la.f2.length ∨ la.f2.length = 0 ∧ la.f0 + la.f1 ≠ from_) :
    Calls Try.prog 44 #[.pointer (some ⟨g, 0, none⟩), .int .i64 from_, .int .i64 size] w fun e w' => e = .returned (.tuple #[]) ∧ WrStP P w' base g (init ++ [la] ++ [⟨from_, size, []⟩]) ∧ Below base w w' ∧ ∀ i, i < w.heap.size → i ≠ g → ¬ P i → w'.heap[i]? = w.heap[i]? := by
  obtain ⟨b, cap, hg, hb, hne, hPb, hS⟩ := wr_form h
  obtain ⟨A2, c2, e0, e1, e2⟩ := wr_last hS
  have hlt := lt_of_block hg
  have hcell := cell_of_one hg
  have hfr := free_of_one hg
  have HG := Lib.hid hg
  have HS := Lib.hid hS
  have q0 : decide ((0 : Int) < (init.length : Int) + 1) = true := by simp
  clear hg hS h
  rcases hno with hno | ⟨hno, hno2⟩
  all_goals
    first
      | (rw [hno] at e2
         have q2 : (la.f0 + la.f1 == from_) = false := by simpa using hno2
         clear hno hno2)
      | (generalize la.f2.length = n2 at *
         have q1 : ((n2 : Int) == 0) = false := by simp; omega)
    go_enter Try.func44, Try.ntmps44
    go_wp2_with fail
    have s1 : IntKind.i64.wrap ((init.length : Int) + 1 - 1) = (init.length : Int) := by rw [show (init.length : Int) + 1 - 1 = init.length by omega]; exact IntWalk.i64_in _ (by omega)
    have s2 : IntKind.i64.wrap (la.f0 + la.f1) = la.f0 + la.f1 := IntWalk.i64_in _ (by omega)
    have s0 : IntKind.i64.wrap (init.length : Int) = (init.length : Int) := IntWalk.i64_in _ (by omega)
    have s3 : (0 : Int) ≤ (init.length : Int) := by omega
    have s4 : ((init.length : Int) < (init.length : Int) + 1) := by omega
    go_quiet (fail)
    clear e0 e1 e2 s0 s1 s2
    go_wp2_with ((with_reducible refine gate_builtin (b := .append) (xs := #[.tmp 67, .tmp 71]) rfl ?_); at_builtin; go_must (refine Kd.S_append k39 (w0 := w) base rfl (.tmp 67) (.tmp 71) 29 39 (.agg #[.int .i64 0, .int .i64 0, .slice none 0 0]) 40 rfl Try.underlying29 info3op rfl (by decide) (by decide) (.slice (some ⟨b, 0, none⟩) (init.length + 1) cap) (init ++ [la]) ⟨from_, size, []⟩ [.int .i64 from_, .int .i64 size, .slice none 0 0] (fun k => k ≠ g ∧ P k) (fun _ => False) rfl rfl (k39_mkM _ _ _ _ (Kd.R_nil _ _ _ _ _)) (fun _ hk => hk.elim) ?cF ?cO ?cB ?cZ ?cL ?_))
    case cF => exact fun k hk => ⟨by simp at hk; omega, hP k (by simpa using hk)⟩
    case cO => exact Kd.S_mono (Kd.S_drewN HS.out _) (fun _ hk => ⟨hk, fun h => h⟩)
    case cB => exact pw_below_drewN (Below.refl _ _) _
    case cZ => simp; omega
    case cL => simp; omega
    intro v1 w1 hS1 hB1 hgr _
    obtain ⟨A1, c1, rfl⟩ := Kd.S_slice hS1
    have HS1 := Lib.hid hS1
    clear hS1
    have hg1 := Lib.hid ((hgr.block g (by simpa using hlt) (wr_ne HS.out)).trans (show (w.drewN _).heap[g]? = _ from HG.out))
    have hc1 := cell_of_one hg1.out
    have hf1 := free_of_one hg1.out
    have HF := Lib.hid (fun i hi hn => (hgr.block i (by simpa using hi) (wr_neP (i := i) HS.out hn)).trans (show (w.drewN _).heap[i]? = w.heap[i]? from rfl))
    clear hgr hcell hfr
    go_wp2
    all_goals go_end0
    all_goals exact ⟨rfl, WrStP.put hg1.out hb (by simpa using HS1.out), hB1.setCell hb _, fun i hi hng hn => (Below.heap_setCell _ ⟨g, 0, none⟩ _ i hng).trans (HF.out i hi hn)⟩

theorem setCells_sing (W : World) (b o : Nat) (u : Value) : W.setCells b o [u] = W.setCell ⟨b, o, none⟩ u := by
  first | rfl | simp [World.setCells]

/-- The last op's size grows. -/
theorem wr_size {P : Nat → Prop} {W : World} {base g b cap : Nat} {init : List Dop} {la : Dop} {s : Int} (hg : W.heap[g]? = some (.cells #[.slice (some ⟨b, 0, none⟩) (init.length + 1) cap] 63 (0, 0))) (hb : base ≤ g) (hne : b ≠ g)
    (hS : Kd.S k39 39 W base (fun k => k ≠ g ∧ P k) (.slice (some ⟨b, 0, none⟩) (init.length + 1) cap) (init ++ [la])) :
    WrStP P (W.setCell ⟨b, init.length * 3 + 1, none⟩ (.int .i64 s)) base g (init ++ [⟨la.f0, s, la.f2⟩]) := by
  obtain ⟨oki, c, hc, hM, hcell, _, hoki, hH⟩ := Kd.S_elem hS z39 (init.length : Int) (by omega) (by omega)
  have e : (init ++ [la]).getD (init.length : Int).toNat z39 = la := by simp [List.getD_eq_getElem?_getD]
  rw [e] at hM
  obtain ⟨v2, rfl, hR⟩ := k39_openM hM
  obtain ⟨h1, h2⟩ := Kd.S_seg (okg := fun _ => False) (okp := oki) (ok := fun k => k ≠ g ∧ P k) (seg := [.int .i64 s]) (j := 1) (x' := (⟨la.f0, s, la.f2⟩ : Dop)) (Kd.H_mono hH (fun k hk => ⟨hk, fun h => h⟩)) (by omega) (by omega)
    (by rw [show (k39).sz = 3 from rfl]; simp) (k39_mkM _ _ _ _ hR) (fun k hk => .inl hk) (fun k hk => hk.elim)
  rw [setCells_sing, show (k39).sz = 3 from rfl, Int.toNat_natCast] at h1 h2
  have e2 : (init ++ [la]).set init.length (⟨la.f0, s, la.f2⟩ : Dop) = init ++ [⟨la.f0, s, la.f2⟩] := by simp
  rw [e2] at h1
  exact ⟨_, (h2.block g (lt_of_block hg) (fun e => hne (Option.some.inj e).symm)).trans hg, hb, h1⟩

set_option maxRecDepth 100000 in
set_option maxHeartbeats 4000000 in
theorem writer_copy_join (P : Nat → Prop) (base g : Nat) (from_ size : Int) (init : List Dop) (la : Dop) (w : World) (hP : ∀ k, w.heap.size ≤ k → P k) (h : WrStP P w base g (init ++ [la])) (hm : init.length < 1000000) (b0 : 0 ≤ la.f0 ∧ la.f0 ≤ 1000000000000) (b1 : 0 ≤ la.f1 ∧ la.f1 ≤ 1000000000000) (b2 : 0 ≤ size ∧ size ≤ 1000000000000)
    (hno : la.f2 = []) (hno2 : la.f0 + la.f1 = from_) :
    Calls Try.prog 44 #[.pointer (some ⟨g, 0, none⟩), .int .i64 from_, .int .i64 size] w fun e w' => e = .returned (.tuple #[]) ∧ WrStP P w' base g (init ++ [⟨la.f0, la.f1 + size, []⟩]) ∧ Below base w w' ∧ ∀ i, i < w.heap.size → i ≠ g → ¬ P i → w'.heap[i]? = w.heap[i]? := by
  obtain ⟨b, cap, hg, hb, hne, hPb, hS⟩ := wr_form h
  obtain ⟨A2, c2, e0, e1, e2⟩ := wr_last hS
  have hlt := lt_of_block hg
  have hcell := cell_of_one hg
  have hbb : base ≤ b := Kd.S_base hS b rfl
  obtain ⟨_, _, _, _, _, hfr, _, _⟩ := Kd.S_elem hS z39 (init.length : Int) (by omega) (by omega)
  have hfr := hfr 1
  rw [show (k39).sz = 3 from rfl, Int.toNat_natCast] at hfr
  have HG := Lib.hid hg
  have HS := Lib.hid hS
  have HE := Lib.hid hno
  have q0 : decide ((0 : Int) < (init.length : Int) + 1) = true := by simp
  have q2 : (la.f0 + la.f1 == from_) = true := by simpa using hno2
  have HZ := Lib.hid (show ∀ n, WrStP P ((w.drewN n).setCell ⟨b, init.length * 3 + 1, none⟩ (.int .i64 (la.f1 + size))) base g (init ++ [⟨la.f0, la.f1 + size, []⟩]) from fun n => by
    have := wr_size (W := w.drewN n) (s := la.f1 + size) (show (w.drewN n).heap[g]? = _ from HG.out) hb hne (Kd.S_drewN HS.out n)
    rwa [HE.out] at this)
  have HBz := Lib.hid (show ∀ n, Below base w ((w.drewN n).setCell ⟨b, init.length * 3 + 1, none⟩ (.int .i64 (la.f1 + size))) from fun n => (pw_below_drewN (Below.refl _ _) n).setCell hbb _)
  rw [hno] at e2
  simp only [List.length_nil] at e2
  clear hg hS h hno hno2
  go_enter Try.func44, Try.ntmps44
  go_wp2_with fail
  have s1 : IntKind.i64.wrap ((init.length : Int) + 1 - 1) = (init.length : Int) := by rw [show (init.length : Int) + 1 - 1 = init.length by omega]; exact IntWalk.i64_in _ (by omega)
  have s2 : IntKind.i64.wrap (la.f0 + la.f1) = la.f0 + la.f1 := IntWalk.i64_in _ (by omega)
  have s0 : IntKind.i64.wrap (init.length : Int) = (init.length : Int) := IntWalk.i64_in _ (by omega)
  have s3 : (0 : Int) ≤ (init.length : Int) := by omega
  have s4 : ((init.length : Int) < (init.length : Int) + 1) := by omega
  go_quiet (fail)
  clear s0 s1 s2
  go_wp2
  all_goals refine bodyPost_ret (results_none rfl _ _ _) rfl ?_
  all_goals exact ⟨rfl, HZ.out _, HBz.out _, fun i hi hng hn => Below.heap_setCell _ ⟨b, _, none⟩ _ i (fun e => hn (e ▸ hPb))⟩
end Go.Proofs.Ytjckjcekapkkjaa.P
