/- The pure statement of CodecNumbersBack: numbers are decoded as they were encoded. -/
import Derived.Test.YtnaamckkepdkkaaPx0
import Derived.Test.YtnaamckkepdkkaaPx20
import Derived.Test.YtnaamckkepdkkaaHMathI
import Derived.Test.YtnaamckkepdkkaaHMathU
import Derived.Test.YtnaamckkepdkkaaHPutUint
namespace Go.Proofs.Ytnaamckkepdkkaa.Pure
open Go.RowKit Go.Proofs.Ytnaamckkepdkkaa.P Go.Proofs.YtnaamckkepdkkaaW.PrintWords Go.Proofs.YtnaamckkepdkkaaW.PrintLast

theorem CodecNumbersBack : stockyardlaw01_CodecNumbersBack.Pure := by
  intro l rest v n hm hr hw hm1 hr1 hw1 hv hn
  have hn := wf_i64b hn
  have hv := wf_u64b hv
  have hB := byteB_of hw
  have hB1 := byteB_of hw1
  obtain ⟨u, rfl⟩ := Int.eq_ofNat_of_zero_le hv.1
  refine ⟨14, ?_⟩
  unfold stockyardlaw01_CodecNumbersBack.f
  have easy : stockyardlaw01_CodecNumbersBack.j0 14 l rest u n true = some true := by
    simp only [stockyardlaw01_CodecNumbersBack.j0, if_true, awake_true, Option.bind_some]
  by_cases hl : (l.length : Int) > 100
  · rw [if_pos hl]; exact easy
  · rw [if_neg hl]
    by_cases hz : (rest.length : Int) > 100
    · rw [decide_eq_true hz]; exact easy
    · rw [decide_eq_false hz]
      have h1 := encU_len10 (v := u) (by omega)
      have h2 := encU_len10 (foldN_lt hn)
      have q1 := encU_pos u
      have q2 := encU_pos (foldN n)
      have p1 := putU (l := l) (n := u) (by omega) (by omega)
      have p2 := putI (l := l ++ encU u) (by simp; omega) hn
      have t1 := takeU_at (l := l) (rest := encU (foldN n) ++ rest) (n := u) hB (byteB_append (encU_bytes _) hB1) (by omega)
      have t2 := intU (takeU_at (l := l ++ encU u) (rest := rest) (byteB_append hB (encU_bytes _)) hB1 (foldN_lt hn)) (foldN_lt hn)
      rw [unfold_fold] at t2
      have a1 : l ++ (encU u ++ (encU (foldN n) ++ rest)) = l ++ encU u ++ encU (foldN n) ++ rest := by simp
      have a2 : (l ++ encU u) ++ (encU (foldN n) ++ rest) = l ++ encU u ++ encU (foldN n) ++ rest := by simp
      rw [a1] at t1
      rw [a2, List.length_append, Int.natCast_add] at t2
      simp only [stockyardlaw01_CodecNumbersBack.j0, Bool.false_eq_true, if_false]
      rw [if_pos (by simp; omega)]
      simp only [Option.bind_some, p1, p2, List.nil_append]
      rw [if_pos (by simp; omega)]
      rw [if_pos (by simp; omega)]
      simp only [Option.bind_some, t1, if_true]
      rw [if_neg (by omega), decide_eq_false (by simp; omega)]
      simp only [stockyardlaw01_CodecNumbersBack.j1, Bool.false_eq_true, if_false, t2, Option.bind_some, if_true]
      rw [if_pos (by simp; omega), awake_true]
      rfl

end Go.Proofs.Ytnaamckkepdkkaa.Pure
