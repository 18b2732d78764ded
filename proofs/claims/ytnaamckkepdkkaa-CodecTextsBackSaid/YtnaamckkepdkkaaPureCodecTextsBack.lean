/- The pure statement of CodecTextsBack: texts and truth values are decoded as they were encoded. -/
import Derived.Test.YtnaamckkepdkkaaPx0
import Derived.Test.YtnaamckkepdkkaaPx2
import Derived.Test.YtnaamckkepdkkaaPx22
import Derived.Test.YtnaamckkepdkkaaPx27
import Derived.Test.YtnaamckkepdkkaaHMathI
import Derived.Test.YtnaamckkepdkkaaHMathT
import Derived.Test.YtnaamckkepdkkaaHMathU
import Derived.Test.YtnaamckkepdkkaaHPutUint
import Derived.Test.YtnaamckkepdkkaaHUint
namespace Go.Proofs.Ytnaamckkepdkkaa.Pure
open Go.RowKit Go.Proofs.Ytnaamckkepdkkaa.P Go.Proofs.YtnaamckkepdkkaaW.PrintWords Go.Proofs.YtnaamckkepdkkaaW.PrintLast

theorem CodecTextsBack : stockyardlaw01_CodecTextsBack.Pure := by
  intro l rest s v most hm hr hw hm1 hr1 hw1 hs hmo
  have hB := byteB_of hw
  have hB1 := byteB_of hw1
  have ho := wf_i64b hmo
  refine ⟨14, ?_⟩
  unfold stockyardlaw01_CodecTextsBack.f
  have easy : stockyardlaw01_CodecTextsBack.j0 14 l rest s v most true = some true := by
    simp only [stockyardlaw01_CodecTextsBack.j0, if_true, awake_true, Option.bind_some]
  by_cases hl : (l.length : Int) > 100
  · rw [if_pos hl]; exact easy
  rw [if_neg hl]
  by_cases hl1 : (rest.length : Int) > 100
  · rw [if_pos hl1]; exact easy
  rw [if_neg hl1]
  by_cases hz : (s.size : Int) > 400
  · rw [decide_eq_true hz]; exact easy
  rw [decide_eq_false hz]
  have h1 := encU_len10 (v := s.size) (by omega)
  have q1 := encU_pos s.size
  have p1 := putT (l := l) (s := s) (by omega) hs
  have p2 := putB (l := l ++ encU s.size ++ bytesOf s) (v := v) (by simp [bytesOf_length]; omega)
  have hb : byteB [if v = true then (1 : Int) else 0] = true := by cases v <;> rfl
  have t1 := textAt (l := l) (rest := [if v = true then (1 : Int) else 0] ++ rest) (s := s) hB (byteB_append hb hB1) (by omega) (by simp; omega) (by omega) hmo
  have a1 : l ++ (encU s.size ++ (bytesOf s ++ ([if v = true then (1 : Int) else 0] ++ rest))) = l ++ encU s.size ++ bytesOf s ++ [if v = true then (1 : Int) else 0] ++ rest := by simp
  rw [a1] at t1
  simp only [stockyardlaw01_CodecTextsBack.j0, Bool.false_eq_true, if_false]
  rw [if_pos (by simp; omega)]
  simp only [Option.bind_some, p1, p2, List.nil_append]
  rw [if_pos (by simp [bytesOf_length]; omega)]
  rw [if_pos (by simp [bytesOf_length]; omega)]
  simp only [Option.bind_some, t1]
  have hmx : mx most 0 = if 0 ≤ most then most else 0 := by unfold mx; omega
  rw [hmx]
  have hlong : (if (s.size : Int) > (if 0 ≤ most then most else 0) then ((⟨#[]⟩ : ByteArray), (0 : Int), (13 : Int)) else (s, (l.length : Int) + (encU s.size).length + s.size, 0)) = (⟨#[]⟩, 0, 13) → ∀ k e, stockyardlaw01_CodecTextsBack.j1 (k + 1) s v (l ++ encU s.size ++ bytesOf s ++ [if v = true then (1 : Int) else 0] ++ rest) e ⟨#[]⟩ 0 13 true = some true := by
    intro _ k e
    simp only [stockyardlaw01_CodecTextsBack.j1, if_true]
    rw [if_pos (by rw [toListD]), awake_true]
    rfl
  have hshort : ¬ (s.size : Int) > (if 0 ≤ most then most else 0) → stockyardlaw01_CodecTextsBack.j1 13 s v (l ++ encU s.size ++ bytesOf s ++ [if v = true then (1 : Int) else 0] ++ rest) ((l ++ encU s.size ++ bytesOf s ++ [if v = true then (1 : Int) else 0]).length : Int) s ((l.length : Int) + (encU s.size).length + s.size) 0 false = some true := by
    intro _
    simp only [stockyardlaw01_CodecTextsBack.j1, Bool.false_eq_true, if_false, if_true]
    have e1 : ((l ++ encU s.size ++ bytesOf s ++ [if v = true then (1 : Int) else 0]).length : Int) = (l.length : Int) + (encU s.size).length + s.size + 1 := by simp [bytesOf_length]; omega
    have e2 : wrap64 ((l.length : Int) + (encU s.size).length + s.size + 1 - 1) = (l.length : Int) + (encU s.size).length + s.size := by unfold wrap64; omega
    rw [e1, e2, bne_self_eq_false]
    simp only [stockyardlaw01_CodecTextsBack.j2, Bool.false_eq_true, if_false]
    have hbool : codec_Bool.f (l ++ encU s.size ++ bytesOf s ++ [if v = true then (1 : Int) else 0] ++ rest) ((l.length : Int) + (encU s.size).length + s.size) = some (v, (l.length : Int) + (encU s.size).length + s.size + 1, 0) := by
      unfold codec_Bool.f codec_inside.f
      have hlen : ((l ++ encU s.size ++ bytesOf s ++ [if v = true then (1 : Int) else 0] ++ rest).length : Int) = (l.length : Int) + (encU s.size).length + s.size + 1 + rest.length := by simp [bytesOf_length]; omega
      rw [if_pos (by omega), hlen, decide_eq_true (by omega)]
      simp only [Option.bind_some, if_true]
      rw [if_neg (by omega), if_pos (by omega), if_pos (by omega)]
      have e3 : rd (l ++ encU s.size ++ bytesOf s ++ [if v = true then (1 : Int) else 0] ++ rest) ((l.length : Int) + (encU s.size).length + s.size) = if v = true then (1 : Int) else 0 := by
        unfold rd
        have e4 : ((l.length : Int) + (encU s.size).length + s.size).toNat = (l ++ encU s.size ++ bytesOf s).length := by simp [bytesOf_length]; omega
        rw [e4, List.append_assoc, List.getD_eq_getElem?_getD, List.getElem?_append_right (Nat.le_refl _), Nat.sub_self]
        rfl
      rw [e3]
      have e5 : wrap64 ((l.length : Int) + (encU s.size).length + s.size + 1) = (l.length : Int) + (encU s.size).length + s.size + 1 := by unfold wrap64; omega
      rw [e5]
      cases v <;> simp
    rw [hbool]
    simp [awake_true]
  by_cases hbig : (s.size : Int) > (if 0 ≤ most then most else 0)
  · rw [if_pos hbig] at hlong ⊢
    have hlong := hlong rfl
    have c1 : most < (s.size : Int) := by split at hbig <;> omega
    rw [if_pos c1]
    by_cases c2 : most ≥ 0
    · rw [if_pos c2]; exact hlong 12 _
    · rw [if_neg c2, decide_eq_true (by split at hbig <;> omega)]; exact hlong 12 _
  · rw [if_neg hbig]
    have hshort := hshort hbig
    by_cases c1 : most < (s.size : Int)
    · have c2 : ¬ most ≥ 0 := by split at hbig <;> omega
      rw [if_pos c1, if_neg c2, decide_eq_false (by split at hbig <;> omega)]
      exact hshort
    · rw [if_neg c1]; exact hshort

end Go.Proofs.Ytnaamckkepdkkaa.Pure
