/- The pure statement of CodecPutsTexts: the encodings are those of the reference, behind the bytes that were there. -/
import Derived.Test.YtnaamckkepdkkaaPx0
import Derived.Test.YtnaamckkepdkkaaPx6
import Derived.Test.YtnaamckkepdkkaaPx12
import Derived.Test.YtnaamckkepdkkaaPx13
import Derived.Test.YtnaamckkepdkkaaPx14
import Derived.Test.YtnaamckkepdkkaaHMathI
import Derived.Test.YtnaamckkepdkkaaHMathT
import Derived.Test.YtnaamckkepdkkaaHPutUint
namespace Go.Proofs.Ytnaamckkepdkkaa.Pure
open Go.RowKit Go.Proofs.Ytnaamckkepdkkaa.P Go.Proofs.YtnaamckkepdkkaaW.PrintWords Go.Proofs.YtnaamckkepdkkaaW.PrintLast

theorem CodecPutsTexts : stockyardlaw01_CodecPutsTexts.Pure := by
  intro l s v hm hr hw hs
  refine ⟨14, ?_⟩
  unfold stockyardlaw01_CodecPutsTexts.f
  have easy : stockyardlaw01_CodecPutsTexts.j0 14 l s v true = some true := by
    simp only [stockyardlaw01_CodecPutsTexts.j0, if_true, awake_true, Option.bind_some]
  by_cases hl : (l.length : Int) > 200
  · rw [if_pos hl]; exact easy
  · rw [if_neg hl]
    by_cases hz : (s.size : Int) > 400
    · rw [decide_eq_true hz]; exact easy
    · rw [decide_eq_false hz]
      have h1 := encU_len10 (v := s.size) (by omega)
      have p1 := putT (l := l) (s := s) (by omega) hs
      have p2 := putB (l := l) (v := v) (by omega)
      have r0 : stockyardref01_Uint.f 13 (s.size : Int) = some (encU s.size) := stockyardref01_Uint.mono _ _ _ (stockyardref01_Uint.mono _ _ _ (refU11 (n := s.size) (by omega)))
      have r1 : stockyardref01_Text.f 13 s = some (encU s.size ++ bytesOf s) := by
        unfold stockyardref01_Text.f
        rw [show IntKind.u64.wrap ((s.size : Int)) = ((s.size : Nat) : Int) by rw [IntKind.wrap_u64]; omega, r0]
        simp only [Option.bind_some]
        rw [if_pos (by omega)]
      have r2 : stockyardref01_Bool.f v = some [if v = true then 1 else 0] := by cases v <;> rfl
      simp only [stockyardlaw01_CodecPutsTexts.j0, Bool.false_eq_true, if_false]
      rw [if_pos (by simp; omega)]
      simp only [Option.bind_some, p1, p2, List.nil_append]
      rw [if_pos (by simp; omega)]
      simp only [Option.bind_some, r1]
      rw [if_pos (by simp [bytesOf_length]; omega), ← List.append_assoc]
      simp only [same_refl, Option.bind_some, if_true, Bool.not_true, stockyardlaw01_CodecPutsTexts.j1, Bool.false_eq_true, if_false, List.nil_append]
      rw [if_pos (by simp; omega)]
      simp only [Option.bind_some, r2]
      rw [if_pos (by simp; omega)]
      simp only [same_refl, Option.bind_some, if_true, awake_true]

end Go.Proofs.Ytnaamckkepdkkaa.Pure
