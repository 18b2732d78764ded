/- The pure statement of CodecPutsNumbers: the encodings are those of the reference, behind the bytes that were there. -/
import Derived.Test.YtnaamckkepdkkaaPx0
import Derived.Test.YtnaamckkepdkkaaPx6
import Derived.Test.YtnaamckkepdkkaaPx8
import Derived.Test.YtnaamckkepdkkaaHMathI
import Derived.Test.YtnaamckkepdkkaaHMathU
import Derived.Test.YtnaamckkepdkkaaHPutUint
namespace Go.Proofs.Ytnaamckkepdkkaa.Pure
open Go.RowKit Go.Proofs.Ytnaamckkepdkkaa.P Go.Proofs.YtnaamckkepdkkaaW.PrintWords Go.Proofs.YtnaamckkepdkkaaW.PrintLast

theorem CodecPutsNumbers : stockyardlaw01_CodecPutsNumbers.Pure := by
  intro l v n hm hr hw hv hn
  have hn := wf_i64b hn
  have hv := wf_u64b hv
  obtain ⟨u, rfl⟩ := Int.eq_ofNat_of_zero_le hv.1
  refine ⟨12, ?_⟩
  unfold stockyardlaw01_CodecPutsNumbers.f
  by_cases hl : (l.length : Int) > 200
  · rw [if_pos hl, awake_true]; rfl
  · have h1 := encU_len10 (v := u) (by omega)
    have h2 := encU_len10 (foldN_lt hn)
    have f1 := foldR hn
    have p1 := putU (l := l) (n := u) (by omega) (by omega)
    have p2 := putI (l := l) (by omega) hn
    have r1 := refU11 (n := u) (by omega)
    have r1' : stockyardref01_Uint.f 12 (u : Int) = some (encU u) := stockyardref01_Uint.mono _ _ _ r1
    have r2 := refU11 (foldN_lt hn)
    rw [if_neg hl, if_pos (by simp; omega)]
    simp only [Option.bind_some, p1, p2, List.nil_append]
    rw [if_pos (by simp; omega)]
    simp only [Option.bind_some, r1']
    rw [if_pos (by omega)]
    simp only [same_refl, Option.bind_some, if_true, Bool.not_true, stockyardlaw01_CodecPutsNumbers.j0, Bool.false_eq_true, if_false, List.nil_append]
    rw [if_pos (by simp; omega)]
    simp only [Option.bind_some, f1, r2]
    rw [if_pos (by omega)]
    simp only [same_refl, Option.bind_some, if_true, awake_true]

end Go.Proofs.Ytnaamckkepdkkaa.Pure
