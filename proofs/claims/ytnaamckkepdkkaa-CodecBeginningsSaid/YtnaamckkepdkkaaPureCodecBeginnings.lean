/- The pure statement of CodecBeginnings: each proper beginning of an encoded text is too short. -/
import Derived.Test.YtnaamckkepdkkaaPx0
import Derived.Test.YtnaamckkepdkkaaPx26
import Derived.Test.YtnaamckkepdkkaaHMathI
import Derived.Test.YtnaamckkepdkkaaHMathT
import Derived.Test.YtnaamckkepdkkaaHMathU
import Derived.Test.YtnaamckkepdkkaaHPutUint
import Derived.Test.YtnaamckkepdkkaaHText
import Derived.Test.YtnaamckkepdkkaaHUint
namespace Go.Proofs.Ytnaamckkepdkkaa.Pure
open Go.RowKit Go.Proofs.Ytnaamckkepdkkaa.P Go.Proofs.YtnaamckkepdkkaaW.PrintWords Go.Proofs.YtnaamckkepdkkaaW.PrintLast

theorem CodecBeginnings : stockyardlaw01_CodecBeginnings.Pure := by
  intro s cut hs hc
  have hc := wf_i64b hc
  refine ⟨14, ?_⟩
  unfold stockyardlaw01_CodecBeginnings.f
  have p1 := putT (l := []) (s := s) (by decide) hs
  rw [p1]
  simp only [Option.bind_some, List.nil_append]
  have easy : ∀ x, stockyardlaw01_CodecBeginnings.j0 14 s cut x true = some true := fun x => by
    simp only [stockyardlaw01_CodecBeginnings.j0, if_true, awake_true, Option.bind_some]
  by_cases hz : (s.size : Int) > 400
  · rw [if_pos hz]; exact easy _
  rw [if_neg hz]
  by_cases h0 : cut < 0
  · rw [if_pos h0]; exact easy _
  rw [if_neg h0]
  by_cases h1 : cut ≥ ((encU s.size ++ bytesOf s).length : Int)
  · rw [decide_eq_true h1]; exact easy _
  rw [decide_eq_false h1]
  simp only [stockyardlaw01_CodecBeginnings.j0, Bool.false_eq_true, if_false]
  rw [if_pos (by omega), if_pos (by omega)]
  obtain ⟨j, rfl⟩ := Int.eq_ofNat_of_zero_le (show 0 ≤ cut by omega)
  rw [Int.toNat_natCast]
  have hj : j < (encU s.size).length + s.size := by simp [bytesOf_length] at h1; omega
  have h10 := encU_len10 (v := s.size) (by omega)
  have hB : byteB ((encU s.size ++ bytesOf s).take j) = true := by
    have := byteB_append (encU_bytes s.size) (bytesOf_byteB s)
    exact List.all_eq_true.2 fun x hx => List.all_eq_true.1 this x (List.mem_of_mem_take hx)
  have hl : ((encU s.size ++ bytesOf s).take j).length = j := by rw [List.length_take]; simp [bytesOf_length]; omega
  have ht : codec_Text.f ((encU s.size ++ bytesOf s).take j) 0 (s.size : Int) = some (⟨#[]⟩, 0, 11) := by
    unfold codec_Text.f
    rw [if_pos ⟨by rw [hl]; unfold maxLen; omega, by simp [Lit.wf, IntKind.min, IntKind.max, IntKind.signed, IntKind.bits]; omega⟩, takeU hB (by omega) (by omega)]
    rw [show (0 : Int).toNat = 0 from rfl, List.drop_zero]
    by_cases hsh : j < (encU s.size).length
    · rw [List.take_append_of_le_length (by omega), dec_short (s.size + 1) (by omega) (by omega) (by omega) hsh]
      rfl
    · have e : (encU s.size ++ bytesOf s).take j = encU s.size ++ (bytesOf s).take (j - (encU s.size).length) := by
        rw [List.take_append, List.take_of_length_le (by omega)]
      rw [e, dec_enc0 _ (by omega)]
      simp only [Option.map_some, textF]
      have hm : mx (s.size : Int) 0 = s.size := by unfold mx; omega
      rw [if_neg (by simp), hm, if_neg (by omega), if_pos (by simp [bytesOf_length]; omega)]
  rw [ht]
  simp only [Option.bind_some]
  rw [if_pos (by rw [toListD])]
  simp only [if_true, awake_true, Option.bind_some]

end Go.Proofs.Ytnaamckkepdkkaa.Pure
