/- The pure statement of CodecWhole: bytes that decode as a row of numbers are the encodings of these numbers. -/
import Derived.Test.YtnaamckkepdkkaaPx0
import Derived.Test.YtnaamckkepdkkaaPx10
import Derived.Test.YtnaamckkepdkkaaHMathI
import Derived.Test.YtnaamckkepdkkaaHMathT
import Derived.Test.YtnaamckkepdkkaaHMathU
import Derived.Test.YtnaamckkepdkkaaHPutUint
import Derived.Test.YtnaamckkepdkkaaHText
import Derived.Test.YtnaamckkepdkkaaHUint
namespace Go.Proofs.Ytnaamckkepdkkaa.Pure
open Go.RowKit Go.Proofs.Ytnaamckkepdkkaa.P Go.Proofs.YtnaamckkepdkkaaW.PrintWords Go.Proofs.YtnaamckkepdkkaaW.PrintLast

theorem whole (l : List Int) (hB : byteB l = true) (hl : l.length ≤ 200) (d : Nat) : ∀ (k at_ : Nat), at_ ≤ l.length → l.length - at_ < d → 2 * d < k →
    stockyardlaw01_CodecWhole.l0 k l (l.take at_) (at_ : Int) = some true := by
  induction d with
  | zero => intro k at_ h1 h2; omega
  | succ d ih =>
    intro k at_ h1 h2 hk
    obtain ⟨k, rfl⟩ : ∃ m, k = m + 2 := ⟨k - 2, by omega⟩
    simp only [stockyardlaw01_CodecWhole.l0]
    by_cases hlt : (at_ : Int) < l.length
    · rw [if_pos hlt]
      obtain ⟨R, hR⟩ : ∃ R, codec_Uint.f l (at_ : Int) = some R := by unfold codec_Uint.f; rw [if_pos hB]; exact ⟨_, rfl⟩
      obtain ⟨u, next, e⟩ := R
      rw [hR]
      simp only [Option.bind_some]
      by_cases he : e = 0
      · subst he
        rw [if_pos rfl]
        obtain ⟨_, _, g0, g1, g2, g3⟩ := codec_Uint.ok hR
        rw [if_neg (by omega), decide_eq_false (by omega)]
        have hd := hR
        rw [takeU hB (by omega) (by omega), Int.toNat_natCast] at hd
        obtain ⟨m, m1, m2, ⟨tl, m3⟩, _⟩ := dec_of (byteB_drop hB at_) (Option.some.inj hd)
        simp only [Nat.pow_zero, Nat.mul_one, Nat.zero_add] at m1
        subst m1
        have hm : next = ((at_ + (encU m).length : Nat) : Int) := by simp at m2; omega
        subst hm
        have htk : l.take at_ ++ encU m = l.take (at_ + (encU m).length) := by
          rw [List.take_add, m3, List.take_left]
        simp only [stockyardlaw01_CodecWhole.j1, Bool.false_eq_true, if_false]
        rw [putU (by rw [List.length_take]; omega) (by omega)]
        simp only [Option.bind_some]
        rw [if_pos (by omega), if_pos (by omega), Int.toNat_natCast, htk, same_refl]
        simp only [Option.bind_some, if_true]
        have := encU_pos m
        exact ih k _ (by omega) (by omega) (by omega)
      · rw [if_neg he]
        have hd := hR
        rw [takeU hB (by omega) (by omega), Int.toNat_natCast] at hd
        have := dec_err (byteB_drop hB at_) (Option.some.inj hd) he
        obtain ⟨rfl, rfl, h⟩ := this
        rw [if_pos rfl, if_pos rfl]
        rcases h with rfl | rfl
        · rw [if_pos rfl, awake_true]; rfl
        · rw [if_neg (by decide), if_pos rfl, awake_true]; rfl
    · rw [if_neg hlt, awake_true]; rfl
theorem CodecWhole : stockyardlaw01_CodecWhole.Pure := by
  intro l hm hr hw
  have hB := byteB_of hw
  refine ⟨2 * (l.length + 1) + 1, ?_⟩
  unfold stockyardlaw01_CodecWhole.f
  by_cases hl : (l.length : Int) > 200
  · rw [if_pos hl, awake_true]; rfl
  · rw [if_neg hl]
    exact whole l hB (by omega) (l.length + 1) _ 0 (by omega) (by omega) (by omega)

end Go.Proofs.Ytnaamckkepdkkaa.Pure
