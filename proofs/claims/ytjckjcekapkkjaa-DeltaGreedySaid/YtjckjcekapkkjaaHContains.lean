/- strings.Contains at this program, laid by the shelf's lay-shelf.mjs and lay-plain.mjs (its own words, no walk); its contract behind writes: the variable internal/bytealg.MaxLen holds some number in the first world, and in each that is built above it. -/
-- HAND strings.Contains quiet
import Derived.Test.YtjckjcekapkkjaaPx0
import Derived.Shelf.LaysM
import Derived.Shelf.Strings.Shaped
import Derived.Lib.IndexMore
namespace Go.Proofs
open Go.Shelf
def Try.laysM144_ren : Go.Shelf.Ren := ⟨fun | 144 => 40 | 143 => 58 | 219 => 64 | 217 => 65 | 225 => 66 | 224 => 67 | 267 => 68 | 266 => 69 | 314 => 70 | n => n, fun | 9 => 9 | 4 => 4 | 3 => 3 | 5 => 5 | 46 => 83 | 146 => 93 | 51 => 92 | n => n, fun | 1 => 0 | n => n⟩
theorem Try.laysM144 : Go.Proofs.LaysM.n144 Try.prog Try.laysM144_ren := {
  mixed := by kernel_rfl
  f143 := Try.func58.trans (congrArg some (by kernel_rfl))
  f144 := Try.func40.trans (congrArg some (by kernel_rfl))
  f217 := Try.func65.trans (congrArg some (by kernel_rfl))
  f219 := Try.func64.trans (congrArg some (by kernel_rfl))
  f224 := Try.func67.trans (congrArg some (by kernel_rfl))
  f225 := Try.func66.trans (congrArg some (by kernel_rfl))
  f266 := Try.func69.trans (congrArg some (by kernel_rfl))
  f267 := Try.func68.trans (congrArg some (by kernel_rfl))
  f314 := Try.func70.trans (congrArg some (by kernel_rfl))
  t3 := Try.underlying3
  a3 := Try.isAgg3
  z3 := Try.sizeOf3
  v3 := Try.zeroValue3
  t4 := Try.underlying4
  a4 := Try.isAgg4
  z4 := Try.sizeOf4
  v4 := Try.zeroValue4
  t5 := Try.underlying5
  a5 := Try.isAgg5
  z5 := Try.sizeOf5
  v5 := Try.zeroValue5
  t9 := Try.underlying9
  a9 := Try.isAgg9
  z9 := Try.sizeOf9
  v9 := Try.zeroValue9
  t46 := Try.underlying83
  a46 := Try.isAgg83
  z46 := Try.sizeOf83
  v46 := Try.zeroValue83
  t51 := Try.underlying92
  a51 := Try.isAgg92
  z51 := Try.sizeOf92
  v51 := Try.zeroValue92
  t146 := Try.underlying93
  a146 := Try.isAgg93
  z146 := Try.sizeOf93
  v146 := Try.zeroValue93
  g1 := by kernel_rfl
  i3 := by kernel_rfl
  i4 := by kernel_rfl
  i5 := by kernel_rfl
  i9 := by kernel_rfl
  i46 := by kernel_rfl
  i51 := by kernel_rfl
  i146 := by kernel_rfl
  m1 := by kernel_rfl
  s1_3 := fun w h => Go.Proofs.cell_of_shapedOpen_int (zero := #[.int .i64 0]) (t := 3) h (of_decide_eq_true (by kernel_rfl)) (by kernel_rfl) rfl (by kernel_rfl) (by kernel_rfl) Try.underlying3 }
end Go.Proofs
namespace Go.Proofs.Ytjckjcekapkkjaa.P
open Go.RowKit Go.Proofs.YtjckjcekapkkjaaW.PrintWords Go.Proofs.YtjckjcekapkkjaaW.PrintLast Go.Proofs.YtjckjcekapkkjaaW.PrintMore
set_option linter.unusedVariables false

/-- The library's variable holds some number. -/
def MaxL (w : World) : Prop := ∃ m, w.cell? ⟨0, 0, none⟩ = some (.int .i64 m)
theorem maxL {w : World} (h : w.ShapedOpen Try.prog) : MaxL w := Try.laysM144.s1_3 w h
def strings_Contains.f (a0 a1 : ByteArray) : Option Bool := if a0.size < 4294967281 then some (Go.Lib.contains a0.data.toList a1.data.toList) else none
theorem strings_Contains.callsM (a0 a1 : ByteArray) (r : Bool) (w0 w : World) (hM : MaxL w0) (hB : Below w0.heap.size w0 w) (h : strings_Contains.f a0 a1 = some r) :
    Calls Try.prog 40 #[.string a0, .string a1] w fun e w' => e = .returned (.bool r) ∧ Drawn0 w w' := by
  unfold strings_Contains.f at h
  by_cases hs : a0.size < 4294967281
  · rw [if_pos hs] at h
    obtain rfl := Option.some.inj h
    obtain ⟨m, hm⟩ := hM
    refine (Any.strings_Contains { Try.laysM144 with } a0 a1 m w hs (pw_cell_below hB hm)).mono ?_
    rintro e w' ⟨rfl, rfl⟩
    exact ⟨rfl, 0, rfl⟩
  · rw [if_neg hs] at h
    cases h
end Go.Proofs.Ytjckjcekapkkjaa.P
