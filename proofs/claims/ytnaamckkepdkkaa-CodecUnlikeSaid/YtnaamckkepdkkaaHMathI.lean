/- Signed numbers as numbers: the sign lies in the lowest bit. -/
import Derived.Test.YtnaamckkepdkkaaPx0
import Derived.Test.YtnaamckkepdkkaaPx1
import Derived.Test.YtnaamckkepdkkaaPx3
import Derived.Test.YtnaamckkepdkkaaPx4
import Derived.Test.YtnaamckkepdkkaaPx5
import Derived.Test.YtnaamckkepdkkaaPx6
import Derived.Test.YtnaamckkepdkkaaPx7
import Derived.Test.YtnaamckkepdkkaaPx16
import Derived.Test.YtnaamckkepdkkaaPx17
import Derived.Test.YtnaamckkepdkkaaPx18
import Derived.Test.YtnaamckkepdkkaaHMathU
import Derived.Test.YtnaamckkepdkkaaHPutUint
import Derived.Test.YtnaamckkepdkkaaHTakeUint
import Derived.Test.YtnaamckkepdkkaaHUint
import Derived.Laws.BitsAllLaws
namespace Go.Proofs.Ytnaamckkepdkkaa.P
open Go.RowKit Go.Proofs.YtnaamckkepdkkaaW.PrintWords Go.Proofs.YtnaamckkepdkkaaW.PrintLast Go.Proofs.YtnaamckkepdkkaaW.PrintMore
set_option linter.unusedVariables false
set_option linter.unusedSimpArgs false

theorem ofInt_nat64 (a : Nat) (h : a < 18446744073709551616) : (BitVec.ofInt 64 (a : Int)).toNat = a := ofInt_u64 a h
theorem ones64 : BitVec.ofInt 64 (-1) = BitVec.allOnes 64 := by decide
theorem ones64' : BitVec.ofInt 64 (18446744073709551615 : Int) = BitVec.allOnes 64 := by decide
theorem xor_ones_u64 (a : Nat) (h : a < 18446744073709551616) : bits .xor .u64 (a : Int) 18446744073709551615 = ((18446744073709551615 - a : Nat) : Int) := by
  show IntKind.u64.wrap ((BitVec.ofInt 64 (a : Int) ^^^ BitVec.ofInt 64 (18446744073709551615 : Int)).toNat : Int) = _
  rw [ones64', BitVec.xor_allOnes, BitVec.toNat_not, ofInt_nat64 a h, IntKind.wrap_u64]
  omega
theorem xor_zero_u64 (a : Nat) (h : a < 18446744073709551616) : bits .xor .u64 (a : Int) 0 = (a : Int) := by
  show IntKind.u64.wrap ((BitVec.ofInt 64 (a : Int) ^^^ BitVec.ofInt 64 (0 : Int)).toNat : Int) = _
  rw [show BitVec.ofInt 64 (0 : Int) = 0#64 by decide, BitVec.xor_zero, ofInt_nat64 a h, IntKind.wrap_u64]
  omega
theorem xor_ones_i64 (a : Nat) (h : a < 9223372036854775808) : bits .xor .i64 (a : Int) (-1) = -(a : Int) - 1 := by
  show IntKind.i64.wrap ((BitVec.ofInt 64 (a : Int) ^^^ BitVec.ofInt 64 (-1 : Int)).toNat : Int) = _
  rw [ones64, BitVec.xor_allOnes, BitVec.toNat_not, ofInt_nat64 a (by omega), IntKind.wrap_i64]
  omega
theorem xor_zero_i64 (a : Nat) (h : a < 9223372036854775808) : bits .xor .i64 (a : Int) 0 = (a : Int) := by
  show IntKind.i64.wrap ((BitVec.ofInt 64 (a : Int) ^^^ BitVec.ofInt 64 (0 : Int)).toNat : Int) = _
  rw [show BitVec.ofInt 64 (0 : Int) = 0#64 by decide, BitVec.xor_zero, ofInt_nat64 a (by omega), IntKind.wrap_i64]
  omega
theorem and_one_u64' (a : Nat) (h : a < 18446744073709551616) : bits .and .u64 (a : Int) 1 = ((a % 2 : Nat) : Int) := by
  rw [show (1 : Int) = ((1 : Nat) : Int) from rfl, u64_and_nat a 1 h (by decide), Nat.and_one_is_mod]

/-- The number as which an int is encoded; the int that is encoded as a number. -/
def foldN (n : Int) : Nat := if 0 ≤ n then (2 * n).toNat else (-2 * n - 1).toNat
def unfoldN (u : Nat) : Int := if u % 2 = 0 then ((u / 2 : Nat) : Int) else -((u / 2 : Nat) : Int) - 1
theorem wf_i64b {n : Int} (h : (Lit.int .i64 n).wf = true) : -9223372036854775808 ≤ n ∧ n ≤ 9223372036854775807 := by simpa [Lit.wf, IntKind.min, IntKind.max, IntKind.signed, IntKind.bits] using h
theorem wf_u64b {n : Int} (h : (Lit.int .u64 n).wf = true) : 0 ≤ n ∧ n ≤ 18446744073709551615 := by simpa [Lit.wf, IntKind.min, IntKind.max, IntKind.signed, IntKind.bits] using h
theorem foldN_lt {n : Int} (h : -9223372036854775808 ≤ n ∧ n ≤ 9223372036854775807) : foldN n < 2 ^ 64 := by
  unfold foldN; split <;> omega
theorem unfold_fold (n : Int) : unfoldN (foldN n) = n := by
  unfold unfoldN foldN; split <;> split <;> omega
theorem fold_unfold (u : Nat) : foldN (unfoldN u) = u := by
  unfold unfoldN foldN; split <;> split <;> omega
theorem unfoldN_range {u : Nat} (h : u < 2 ^ 64) : -9223372036854775808 ≤ unfoldN u ∧ unfoldN u ≤ 9223372036854775807 := by
  unfold unfoldN; split <;> omega
theorem fold_bits {n : Int} (h : -9223372036854775808 ≤ n ∧ n ≤ 9223372036854775807) :
    Go.bits .xor .u64 (IntKind.u64.wrap ((IntKind.u64.wrap n) * 2)) (IntKind.u64.wrap (n / 9223372036854775808)) = (foldN n : Int) := by
  unfold foldN
  by_cases h0 : 0 ≤ n
  · rw [if_pos h0, show n / 9223372036854775808 = 0 by omega, show IntKind.u64.wrap 0 = 0 by rw [IntKind.wrap_u64]; rfl]
    rw [show IntKind.u64.wrap ((IntKind.u64.wrap n) * 2) = (((2 * n).toNat : Nat) : Int) by rw [IntKind.wrap_u64, IntKind.wrap_u64]; omega]
    exact xor_zero_u64 _ (by omega)
  · rw [if_neg h0, show n / 9223372036854775808 = -1 by omega, show IntKind.u64.wrap (-1) = 18446744073709551615 by rw [IntKind.wrap_u64]; rfl]
    rw [show IntKind.u64.wrap ((IntKind.u64.wrap n) * 2) = (((18446744073709551616 + 2 * n).toNat : Nat) : Int) by rw [IntKind.wrap_u64, IntKind.wrap_u64]; omega]
    rw [xor_ones_u64 _ (by omega)]
    omega
theorem unfold_bits {u : Nat} (h : u < 2 ^ 64) : Go.bits .xor .i64 (wrap64 ((u : Int) / 2)) (wrap64 (-(wrap64 (Go.bits .and .u64 (u : Int) 1)))) = unfoldN u := by
  unfold unfoldN
  rw [and_one_u64' u h, show wrap64 ((u : Int) / 2) = ((u / 2 : Nat) : Int) by unfold wrap64; omega]
  rcases Nat.mod_two_eq_zero_or_one u with e | e
  · rw [e, if_pos rfl, show wrap64 (-wrap64 ((0 : Nat) : Int)) = 0 by unfold wrap64; omega]
    exact xor_zero_i64 (u / 2) (by omega)
  · rw [e, if_neg (by decide), show wrap64 (-wrap64 ((1 : Nat) : Int)) = -1 by unfold wrap64; omega]
    exact xor_ones_i64 (u / 2) (by omega)
theorem putI {l : List Int} {n : Int} (hl : l.length < 140737488355000) (h : -9223372036854775808 ≤ n ∧ n ≤ 9223372036854775807) : codec_PutInt.f l n = some (l ++ encU (foldN n)) := by
  unfold codec_PutInt.f
  rw [fold_bits h, putU hl (foldN_lt h)]
  rfl
theorem intU {l : List Int} {a : Int} {u : Nat} {next : Int} (h : codec_Uint.f l a = some ((u : Int), next, 0)) (hu : u < 2 ^ 64) : codec_Int.f l a = some (unfoldN u, next, 0) := by
  unfold codec_Int.f
  rw [h]
  simp only [Option.bind_some, if_true]
  rw [unfold_bits hu]
theorem intU_err {l : List Int} {a u next e : Int} (h : codec_Uint.f l a = some (u, next, e)) (he : e ≠ 0) : codec_Int.f l a = some (0, 0, e) := by
  unfold codec_Int.f
  rw [h]
  simp only [Option.bind_some]
  rw [if_neg he]
theorem takeI {l : List Int} {a : Int} {u : Nat} {next : Int} (h : codec_Uint.f l a = some ((u : Int), next, 0)) (hu : u < 2 ^ 64) : stockyardref01_TakeInt.f l a = some (unfoldN u, next, 0) := by
  unfold stockyardref01_TakeInt.f stockyardref01_TakeUint.f
  rw [h]
  simp only [Option.bind_some, if_true]
  have e : stockyardref01_Unfold.f (u : Int) = some (unfoldN u) := by
    unfold stockyardref01_Unfold.f unfoldN
    rw [Int.tmod_eq_emod_of_nonneg (by omega), Int.tdiv_eq_ediv_of_nonneg (by omega)]
    by_cases e : u % 2 = 0
    · rw [if_pos (by omega), if_pos e]; congr 1; rw [IntKind.wrap_u64]; unfold wrap64; omega
    · rw [if_neg (by omega), if_neg e]; congr 1; rw [IntKind.wrap_u64]; unfold wrap64; omega
  rw [e]
  rfl
theorem takeI_err {l : List Int} {a u next e : Int} (h : codec_Uint.f l a = some (u, next, e)) (he : e ≠ 0) : stockyardref01_TakeInt.f l a = some (0, 0, e) := by
  unfold stockyardref01_TakeInt.f stockyardref01_TakeUint.f
  rw [h]
  simp only [Option.bind_some]
  rw [if_neg he]
theorem foldR {n : Int} (h : -9223372036854775808 ≤ n ∧ n ≤ 9223372036854775807) : stockyardref01_Fold.f n = some (foldN n : Int) := by
  unfold stockyardref01_Fold.f foldN
  by_cases h0 : 0 ≤ n
  · rw [if_pos h0, if_pos h0]; congr 1; rw [IntKind.wrap_u64, IntKind.wrap_u64]; omega
  · rw [if_neg h0, if_neg h0]; congr 1; rw [IntKind.wrap_u64, IntKind.wrap_u64, IntKind.wrap_u64]; unfold wrap64; omega
theorem refU (k : Nat) : ∀ {n : Nat}, n < 128 ^ k → n < 2 ^ 64 → stockyardref01_Uint.f (k + 1) (n : Int) = some (encU n) := by
  induction k with
  | zero =>
    intro n h _
    simp only [stockyardref01_Uint.f]
    rw [if_pos (by simp at h; omega), encU_small (by simp at h; omega)]
    congr 2
    omega
  | succ k ih =>
    intro n h hn
    by_cases hs : n < 128
    · simp only [stockyardref01_Uint.f]
      rw [if_pos (by omega), encU_small hs]
      congr 2
      omega
    · rw [stockyardref01_Uint.f]
      rw [if_neg (by omega)]
      simp only [Option.bind_some]
      have e : IntKind.u64.wrap (Int.tdiv (n : Int) 128) = ((n / 128 : Nat) : Int) := by
        rw [Int.tdiv_eq_ediv_of_nonneg (by omega), IntKind.wrap_u64]; omega
      have hk : n / 128 < 128 ^ k := by rw [Nat.div_lt_iff_lt_mul (by decide)]; rw [Nat.pow_succ] at h; omega
      rw [e, ih hk (by omega)]
      simp only [Option.bind_some]
      have hl := encU_len10 (v := n / 128) (by omega)
      rw [if_pos (by simp; omega), encU_big hs]
      have e2 : ((Int.tmod (n : Int) 128) % 256 + 128) % 256 = ((n % 128 + 128 : Nat) : Int) := by
        rw [Int.tmod_eq_emod_of_nonneg (by omega)]; omega
      rw [e2]
      rfl
theorem refU11 {n : Nat} (h : n < 2 ^ 64) : stockyardref01_Uint.f 11 (n : Int) = some (encU n) := refU 10 (Nat.lt_of_lt_of_le h (by decide)) h
theorem same_refl (l : List Int) : stockyardlaw01_same.f l l = some true := by simp [stockyardlaw01_same.f]
theorem toListD (s : ByteArray) : s.toList = s.data.toList := ByteArray.toList_eq s
theorem encU300 : encU 300 = [172, 2] := by rw [encU_big (by decide), encU_small (by decide)]; rfl
theorem awake_true : stockyardlaw01_awake.f = some true := by
  unfold stockyardlaw01_awake.f
  have h1 : codec_PutUint.f [] 300 = some [172, 2] := by
    have := putU (l := []) (n := 300) (by decide) (by decide)
    rwa [encU300] at this
  have h2 : codec_Uint.f [172, 2] 0 = some (300, 2, 0) := by
    have := takeU_at (l := []) (rest := []) (n := 300) rfl rfl (by decide)
    rw [encU300] at this
    exact this
  have h3 : codec_PutInt.f [] (-1) = some [1] := by
    have := putI (l := []) (n := -1) (by decide) (by decide)
    rw [show foldN (-1) = 1 from rfl, encU_small (by decide)] at this
    exact this
  have h4 : codec_PutUint.f [7] (IntKind.u64.wrap (((⟨#[97, 98]⟩ : ByteArray).size : Int))) = some [7, 2] := by
    have := putU (l := [7]) (n := 2) (by decide) (by decide)
    rw [encU_small (by decide)] at this
    exact this
  have h5 : codec_PutText.f [7] (⟨#[97, 98]⟩ : ByteArray) = some [7, 2, 97, 98] := by
    unfold codec_PutText.f
    rw [h4]
    rfl
  rw [h1, Option.bind_some, h2, Option.bind_some, if_pos rfl, if_pos rfl, if_pos rfl, h3, Option.bind_some, if_pos (by rw [toListD]; rfl), h5, Option.bind_some, toListD]
  rfl
end Go.Proofs.Ytnaamckkepdkkaa.P
