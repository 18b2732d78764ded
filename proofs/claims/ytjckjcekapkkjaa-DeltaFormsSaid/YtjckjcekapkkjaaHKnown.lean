/- The contract of the statements' sanity check: the example of the chapter holds. -/
-- HAND stockyard/stockyardlaw26.known
import Derived.Test.YtjckjcekapkkjaaPx0
import Derived.Test.YtjckjcekapkkjaaPx2
import Derived.Test.YtjckjcekapkkjaaHEncode
import Derived.Test.YtjckjcekapkkjaaHMake
import Derived.Test.YtjckjcekapkkjaaHMakeEv
import Derived.Test.YtjckjcekapkkjaaHOps
import Derived.Test.YtjckjcekapkkjaaHPutUint
import Derived.Test.YtjckjcekapkkjaaHSame
import Derived.Lib.Hide
import Derived.Outline
import Derived.Deep.DeepMust
import Derived.Lib.SlBytesConst
namespace Go.Proofs.Ytjckjcekapkkjaa.P
open Go.RowKit Go.Proofs.YtjckjcekapkkjaaW.PrintWords Go.Proofs.YtjckjcekapkkjaaW.PrintLast Go.Proofs.YtjckjcekapkkjaaW.PrintMore
set_option linter.unusedVariables false
set_option linter.unusedSimpArgs false

def law26_known.f : Option Bool := some true
theorem known_make : delta_Make.f [97, 98, 99, 100, 101, 102] [97, 98, 99, 100, 88, 97, 98, 99, 100, 101, 102] = some ([⟨0, 4, []⟩, ⟨0, 0, [88]⟩, ⟨0, 6, []⟩], 0) := by
  have h : makeS [97, 98, 99, 100, 101, 102] [97, 98, 99, 100, 88, 97, 98, 99, 100, 101, 102] = [⟨0, 4, []⟩, ⟨0, 0, [88]⟩, ⟨0, 6, []⟩] := by kernel_rfl
  unfold delta_Make.f
  rw [if_pos (by decide +kernel), if_pos (by decide +kernel), h]
theorem known_encode : delta_Encode.f 5000 6 [⟨0, 4, []⟩, ⟨0, 0, [88]⟩, ⟨0, 6, []⟩] = some ([3, 9, 0, 2, 88, 13, 0], 0) := by
  rw [encode_eq (by decide +kernel) _ (by omega)]
  have h : (checkS 6 [⟨0, 4, []⟩, ⟨0, 0, [88]⟩, ⟨0, 6, []⟩]).2 = 0 := by decide +kernel
  unfold encS
  rw [if_pos h]
  simp [encOps, encOp, opCp, encU_small]
/-- A block whose cells are known reads as a row of bytes. -/
theorem C_lit {W : World} {b : Nat} {fr : Nat × Nat} {l : List Int} (hb : l.length ≤ 1000) (h : W.heap[b]? = some (.cells (l.map (Value.int .u8)).toArray 5 fr)) : Kd.C (Kd.int .u8) W (some ⟨b, 0, none⟩) l.length l := by
  refine ⟨rfl, by omega, fun _ => ⟨_, rfl, fun j p hj => ⟨[.int .u8 p], rfl, rfl, fun i u hu => ?_⟩⟩⟩
  have hi0 : i = 0 := by
    rcases i with _ | i
    · rfl
    · simp at hu
  subst hi0
  simp only [List.getElem?_cons_zero, Option.some.injEq] at hu
  subst hu
  rw [show (Kd.int IntKind.u8).sz = 1 from rfl, Nat.mul_one, Nat.add_zero]
  have e : (⟨b, 0, none⟩ : Addr).add j = ⟨b, j, none⟩ := by
    unfold Addr.add
    by_cases h0 : j = 0 <;> simp [h0]
  rw [e]
  unfold World.cell?
  simp [h, hj]
theorem C_lit1 {W : World} {fr : Nat × Nat} {l : List Int} (hb : l.length ≤ 1000) : Kd.C (Kd.int .u8) (W.alloc (.cells (l.map (Value.int .u8)).toArray 5 fr)) (some ⟨W.heap.size, 0, none⟩) l.length l := C_lit hb (Go.MapKept.heap_alloc W _).1

theorem C_ops3 {W : World} {b : Nat} (h0 : W.heap[b]? = some (.cells #[.int .u8 88] 5 (1, 2))) (h1 : W.heap[b + 1]? = some (.cells #[.int .i64 0, .int .i64 4, .slice none 0 0, .int .i64 0, .int .i64 0, .slice (some ⟨b, 0, none⟩) 1 1, .int .i64 0, .int .i64 6, .slice none 0 0] 39 (0, 0))) :
    Kd.C k39 W (some ⟨b + 1, 0, none⟩) 3 ([⟨0, 4, []⟩, ⟨0, 0, [88]⟩, ⟨0, 6, []⟩] : List Dop) := by
  have hl : Kd.C (Kd.int .u8) W (some ⟨b, 0, none⟩) 1 [88] := C_lit (l := [88]) (by simp) h0
  have cell : ∀ (i : Nat), W.cell? ⟨b + 1, i, none⟩ = (#[.int .i64 0, .int .i64 4, .slice none 0 0, .int .i64 0, .int .i64 0, .slice (some ⟨b, 0, none⟩) 1 1, .int .i64 0, .int .i64 6, .slice none 0 0] : Array Value)[i]? := fun i => by
    unfold World.cell?
    simp [h1]
  have ad : ∀ (i : Nat), (⟨b + 1, 0, none⟩ : Addr).add i = ⟨b + 1, i, none⟩ := fun i => by
    unfold Addr.add
    by_cases h0 : i = 0 <;> simp [h0]
  have sz : (k39).sz = 3 := rfl
  refine ⟨rfl, by omega, fun _ => ⟨_, rfl, fun j p hj => ?_⟩⟩
  rcases j with _ | _ | _ | j
  · simp only [List.getElem?_cons_zero, Option.some.injEq] at hj
    subst hj
    refine ⟨_, rfl, k39_mk W ⟨0, 4, []⟩ (A2 := none) (c2 := 0) (by simp) (Kd.C_nil _ _), fun i u hu => ?_⟩
    rw [ad, cell, sz]
    rcases i with _ | _ | _ | i <;> simp_all
  · simp only [Nat.zero_add, List.getElem?_cons_succ, List.getElem?_cons_zero, Option.some.injEq] at hj
    subst hj
    refine ⟨_, rfl, k39_mk W ⟨0, 0, [88]⟩ (A2 := some ⟨b, 0, none⟩) (c2 := 1) (by simp) hl, fun i u hu => ?_⟩
    rw [ad, cell, sz]
    rcases i with _ | _ | _ | i <;> simp_all
  · simp only [Nat.zero_add, List.getElem?_cons_succ, List.getElem?_cons_zero, Option.some.injEq] at hj
    subst hj
    refine ⟨_, rfl, k39_mk W ⟨0, 6, []⟩ (A2 := none) (c2 := 0) (by simp) (Kd.C_nil _ _), fun i u hu => ?_⟩
    rw [ad, cell, sz]
    rcases i with _ | _ | _ | i <;> simp_all
  · simp at hj

set_option maxRecDepth 100000 in
set_option maxHeartbeats 4000000 in
theorem law26_known.calls (r : Bool) (w : World) (h : law26_known.f = some r) :
    Calls Try.prog 19 #[] w fun e w' => e = .returned (.bool r) ∧ Below w.heap.size w w' := by
  obtain rfl := Option.some.inj h
  clear h
  have kc := fun (w : World) (C : Array Value) (n c : Nat) => Lib.run_convert_bytes_const (P := Try.prog) w 26 5 C n c Try.underlying26 Try.underlying5
  have kc2 : ∀ (w : World) (o : Obj) (C : Array Value) (n c : Nat), (convert 26 26 (.slice (some ⟨w.heap.size + 1, 0, none⟩) n c)).run Try.prog ((w.alloc o).alloc (.cells C 5)) = .ok (.slice (some ⟨w.heap.size + 1, 0, none⟩) n c) ((w.alloc o).alloc (.cells C 5 (C.size, C.size + 1))) := fun w o C n c => by
    have := kc (w.alloc o) C n c
    have e : (w.alloc o).heap.size = w.heap.size + 1 := by simp
    rwa [e] at this
  go_enter Try.func19, Try.ntmps19
  obtain ⟨ops, hops⟩ : ∃ ops : List Dop, ops = [⟨0, 4, []⟩, ⟨0, 0, [88]⟩, ⟨0, 6, []⟩] := ⟨_, rfl⟩
  have HM := known_make
  have HE := known_encode
  rw [← hops] at HM HE
  have HOPS := Lib.hid hops
  have HM := Lib.hid HM
  have HE := Lib.hid HE
  clear hops
  go_wp2_with fail
  refine (delta_Make.calls (some ⟨w.heap.size, 0, none⟩) 6 [97, 98, 99, 100, 101, 102] (some ⟨w.heap.size + 1, 0, none⟩) 11 [97, 98, 99, 100, 88, 97, 98, 99, 100, 101, 102] ops 0 _ ?_ (by simp) ?_ (by simp) HM.out).mono ?_
  · exact Kd.C_alloc (C_lit1 (by simp)) _
  · have := C_lit1 (W := w.alloc (.cells #[.int .u8 97, .int .u8 98, .int .u8 99, .int .u8 100, .int .u8 101, .int .u8 102] 5 (6, 7))) (fr := (11, 12)) (l := [97, 98, 99, 100, 88, 97, 98, 99, 100, 101, 102]) (by simp)
    rwa [show (w.alloc (.cells #[.int .u8 97, .int .u8 98, .int .u8 99, .int .u8 100, .int .u8 101, .int .u8 102] 5 (6, 7))).heap.size = w.heap.size + 1 by simp] at this
  rintro e w2 ⟨v0, rfl, hS, hb⟩
  have hb1 : Below w.heap.size w w2 := by refine Below.trans ?_ (hb.mono ?_); exact below_alloc (below_alloc (Below.refl _ _) _) _; simp; omega
  clear hb
  obtain ⟨A, c, rfl, hlc, hC⟩ := Kd.S_reads hS
  have HC := Lib.hid hC
  clear hS hC
  go_wp2_with fail
  refine (delta_Encode.calls 5000 6 A c ops [3, 9, 0, 2, 88, 13, 0] 0 _ HC.out hlc HE.out).mono ?_
  rintro e w3 ⟨v1, rfl, hR, hb3⟩
  have hb4 := below_step hb1 hb3
  have HC2 := Lib.hid (Kd.C_below HC.out hb3)
  obtain ⟨bs, hbs⟩ : ∃ bs : List Int, bs = [3, 9, 0, 2, 88, 13, 0] := ⟨_, rfl⟩
  rw [← hbs] at hR
  have HBS := Lib.hid hbs
  obtain ⟨A1, c1, rfl, hlc1, hC1⟩ := Kd.R_reads hR
  have HC1 := Lib.hid hC1
  clear hR hC1 hbs hb3 hb1 HC HM HE
  go_wp2_with fail
  have HC3 := Lib.hid (Kd.C_below HC2.out (show Below w3.heap.size w3 ((w3.alloc (.cells #[.int .u8 88] 5 (1, 2))).alloc (.cells #[.int .i64 0, .int .i64 4, .slice none 0 0, .int .i64 0, .int .i64 0, .slice (some ⟨w3.heap.size, 0, none⟩) 1 1, .int .i64 0, .int .i64 6, .slice none 0 0] 39)) from below_alloc (below_alloc (Below.refl _ _) _) _))
  have HC4 := Lib.hid (Kd.C_below HC1.out (show Below w3.heap.size w3 ((w3.alloc (.cells #[.int .u8 88] 5 (1, 2))).alloc (.cells #[.int .i64 0, .int .i64 4, .slice none 0 0, .int .i64 0, .int .i64 0, .slice (some ⟨w3.heap.size, 0, none⟩) 1 1, .int .i64 0, .int .i64 6, .slice none 0 0] 39)) from below_alloc (below_alloc (Below.refl _ _) _) _))
  have hb5 : Below w.heap.size w ((w3.alloc (.cells #[.int .u8 88] 5 (1, 2))).alloc (.cells #[.int .i64 0, .int .i64 4, .slice none 0 0, .int .i64 0, .int .i64 0, .slice (some ⟨w3.heap.size, 0, none⟩) 1 1, .int .i64 0, .int .i64 6, .slice none 0 0] 39)) := below_alloc (below_alloc hb4 _) _
  have HQ := Lib.hid (C_ops3 (W := ((w3.alloc (.cells #[.int .u8 88] 5 (1, 2))).alloc (.cells #[.int .i64 0, .int .i64 4, .slice none 0 0, .int .i64 0, .int .i64 0, .slice (some ⟨w3.heap.size, 0, none⟩) 1 1, .int .i64 0, .int .i64 6, .slice none 0 0] 39))) (b := w3.heap.size) ((Go.MapKept.heap_alloc _ _).2 _ (by simp) |>.trans (Go.MapKept.heap_alloc w3 _).1) (heap_second _ _ _))
  generalize ((w3.alloc (.cells #[.int .u8 88] 5 (1, 2))).alloc (.cells #[.int .i64 0, .int .i64 4, .slice none 0 0, .int .i64 0, .int .i64 0, .slice (some ⟨w3.heap.size, 0, none⟩) 1 1, .int .i64 0, .int .i64 6, .slice none 0 0] 39)) = w4 at *
  rw [← HOPS.out] at HQ
  have e3 : ops.length = 3 := by rw [HOPS.out]; rfl
  have HQ' := Lib.hid (show Kd.C k39 w4 (some ⟨w3.heap.size + 1, 0, none⟩) ops.length ops by rw [e3]; exact HQ.out)
  have sa := ref26_Same.calls A c ops (some ⟨w3.heap.size + 1, 0, none⟩) 3 ops true w4 HC3.out hlc HQ'.out (by omega) (by unfold ref26_Same.f; rw [if_pos rfl])
  rw [show (Value.slice (some ⟨w3.heap.size + 1, 0, none⟩) ops.length 3) = .slice (some ⟨w3.heap.size + 1, 0, none⟩) 3 3 by rw [e3]] at sa
  refine sa.mono ?_
  rintro e w5 ⟨rfl, ⟨m, rfl⟩⟩
  clear sa e3
  have hcv := fun m => Kd.C_string (P := Try.prog) (A := A1) (c := c1) Try.underlying26 Try.underlying5 Try.underlying9 (Kd.C_below HC4.out (pw_below_drewN (Below.refl _ _) m))
  have hs7 : strOfNums bs = ⟨#[3, 9, 0, 2, 88, 13, 0]⟩ := by rw [HBS.out]; rfl
  rw [hs7] at hcv
  go_wp2
  go_ret
  exact ⟨rfl, pw_below_drewN hb5 _⟩
end Go.Proofs.Ytjckjcekapkkjaa.P
