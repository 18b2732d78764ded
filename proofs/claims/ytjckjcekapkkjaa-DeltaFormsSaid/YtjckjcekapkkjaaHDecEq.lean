/- The two decoders answer alike. -/
import Derived.Test.YtjckjcekapkkjaaPx0
import Derived.Test.YtjckjcekapkkjaaPx8
import Derived.Test.YtjckjcekapkkjaaPx9
import Derived.Test.YtjckjcekapkkjaaHCheck
import Derived.Test.YtjckjcekapkkjaaHWords
import Derived.Test.YtjckjcekapkkjaaHEncode
import Derived.Test.YtjckjcekapkkjaaHMathU
import Derived.Test.YtjckjcekapkkjaaHOps
import Derived.Test.YtjckjcekapkkjaaHRefCheck
import Derived.Test.YtjckjcekapkkjaaHTakeUint
import Derived.Test.YtjckjcekapkkjaaHUint
import Derived.Laws.BitsAllLaws
namespace Go.Proofs.Ytjckjcekapkkjaa.P
open Go.RowKit Go.Proofs.YtjckjcekapkkjaaW.PrintWords Go.Proofs.YtjckjcekapkkjaaW.PrintLast Go.Proofs.YtjckjcekapkkjaaW.PrintMore
set_option linter.unusedVariables false
set_option linter.unusedSimpArgs false

theorem uint_cases {bs : List Int} (hB : byteB bs = true) {a : Int} (h0 : 0 ≤ a) (h1 : a ≤ bs.length) : ∃ v nx e, codec_Uint.f bs a = some (v, nx, e) ∧ (e = 0 → 0 ≤ v ∧ 0 ≤ nx ∧ nx ≤ bs.length) := by
  rw [takeU hB h0 h1]
  obtain ⟨v, nx, e, h⟩ : ∃ v nx e, decGo a 0 0 (bs.drop a.toNat) = (v, nx, e) := ⟨_, _, _, rfl⟩
  refine ⟨v, nx, e, by rw [h], fun he => ?_⟩
  subst he
  obtain ⟨m, hm, hn, ⟨tl, hl⟩, _⟩ := dec_of (byteB_drop hB a.toNat) h
  have := congrArg List.length hl
  rw [List.length_append, List.length_drop] at this
  refine ⟨by rw [hm]; omega, by omega, by omega⟩
theorem and_one {v : Int} (h0 : 0 ≤ v) (h1 : v ≤ 2097153) : (Go.bits .and .u64 v 1 = 1) ↔ v % 2 = 1 := by
  rw [u64_and v 1 h0 (by omega) (by omega) (by omega)]
  have : v.toNat &&& (1 : Int).toNat = v.toNat % 2 := Nat.and_one_is_mod _
  rw [this]
  omega
theorem opsB_snoc {l : List Dop} {o : Dop} (h : opsB l = true) (h0 : -9223372036854775808 ≤ o.f0 ∧ o.f0 ≤ 9223372036854775807) (h1 : -9223372036854775808 ≤ o.f1 ∧ o.f1 ≤ 9223372036854775807) (h2 : o.f2.length ≤ 140737488355328) : opsB (l ++ [o]) = true := by
  unfold opsB at h ⊢
  rw [List.all_append, h]
  simp [Lit.wf, IntKind.min, IntKind.max, IntKind.signed, IntKind.bits]
  omega
theorem u64w {v : Int} (h0 : 0 ≤ v) (h1 : v < 18446744073709551616) : IntKind.u64.wrap v = v := by
  simp [IntKind.wrap, IntKind.signed, IntKind.bits]
  omega
theorem half_eq {v : Int} (h0 : 0 ≤ v) (h1 : v ≤ 2097153) : wrap64 (IntKind.u64.wrap (Int.tdiv v 2)) = v / 2 := by
  rw [Int.tdiv_eq_ediv_of_nonneg h0, u64w (by omega) (by omega), wrap64_id (by omega) (by omega)]
theorem half_eq2 {v : Int} (h0 : 0 ≤ v) (h1 : v ≤ 2097153) : wrap64 (v / 2) = v / 2 := wrap64_id (by omega) (by omega)
theorem u64_succ (i : Nat) (h : i ≤ 1000000) : IntKind.u64.wrap ((i : Int) + 1) = ((i + 1 : Nat) : Int) := u64w (by omega) (by omega)
theorem dec_l0 {bs : List Int} (hB : byteB bs = true) (hl : bs.length < 140737488355328) (x : Int) : ∀ (d k i n : Nat) (a : Int) (out : List Dop), n = i + d → n ≤ 4096 → 12310 + 4 * d < k → 0 ≤ a → a ≤ bs.length → opsB out = true → out.length ≤ i →
    ∃ r, delta_Decode.l0 k x bs a out (n : Int) (i : Int) = some r ∧ ref26_Decode.l0 k x bs (n : Int) a out (i : Int) = some r
  | 0, k, i, n, a, out, h1, h2, h3, h4, h5, h6, h7 => by
    obtain ⟨k, rfl⟩ : ∃ m, k = m + 1 := ⟨k - 1, by omega⟩
    have c1 : ¬ ((i : Int) < (n : Int)) := by omega
    rw [delta_Decode.l0, ref26_Decode.l0, if_neg c1, if_neg c1, refCheck_eq x h6 k (by omega)]
    unfold delta_Check.f
    rw [if_pos h6]
    simp only [Option.bind_some]
    split
    · split
      · exact ⟨_, rfl, rfl⟩
      · exact ⟨_, rfl, rfl⟩
    · exact ⟨_, rfl, rfl⟩
  | d + 1, k, i, n, a, out, h1, h2, h3, h4, h5, h6, h7 => by
    obtain ⟨k, rfl⟩ : ∃ m, k = m + 3 := ⟨k - 3, by omega⟩
    have hi1 := u64_succ i (by omega)
    have IHa := fun a2 out2 => dec_l0 hB hl x d k (i + 1) n a2 out2 (by omega) h2 (by omega)
    have IHb := fun a2 out2 => dec_l0 hB hl x d (k + 1) (i + 1) n a2 out2 (by omega) h2 (by omega)
    have c1 : (i : Int) < (n : Int) := by omega
    have co : out.length < 3518437208883 := by omega
    rw [delta_Decode.l0, ref26_Decode.l0, if_pos c1, if_pos c1]
    unfold stockyardref01_TakeUint.f
    obtain ⟨v, nx, e, hv, hb⟩ := uint_cases hB h4 h5
    rw [hv]
    simp only [Option.bind_some]
    by_cases he : e = 0
    · obtain ⟨b0, b1, b2⟩ := hb he
      rw [if_pos he, if_pos he]
      by_cases hbig : v > 2097153
      · rw [decide_eq_true (show v / 2 > 1048576 by omega), decide_eq_true hbig, delta_Decode.j2, ref26_Decode.j2, if_pos (show true = true from rfl), if_pos (show true = true from rfl)]
        exact ⟨_, rfl, rfl⟩
      · rw [decide_eq_false (show ¬ v / 2 > 1048576 by omega), decide_eq_false hbig, delta_Decode.j2, ref26_Decode.j2, if_neg Bool.false_ne_true, if_neg Bool.false_ne_true, half_eq b0 (by omega), half_eq2 b0 (by omega)]
        by_cases hodd : v % 2 = 1
        · rw [if_pos ((and_one b0 (by omega)).2 hodd), if_pos (show Int.tmod v 2 = 1 by rw [Int.tmod_eq_emod_of_nonneg b0]; exact hodd)]
          unfold stockyardref01_TakeUint.f
          obtain ⟨v2, nx2, e2, hv2, hb2⟩ := uint_cases hB b1 b2
          rw [hv2]
          simp only [Option.bind_some]
          by_cases he2 : e2 = 0
          · obtain ⟨c0, c1, c2⟩ := hb2 he2
            rw [if_pos he2, if_pos he2, delta_Decode.j3, ref26_Decode.j3]
            by_cases hb3 : v2 > 1048576
            · rw [decide_eq_true hb3, if_pos (show true = true from rfl), if_pos (show true = true from rfl)]
              exact ⟨_, rfl, rfl⟩
            · rw [decide_eq_false hb3, if_neg Bool.false_ne_true, if_neg Bool.false_ne_true, if_pos co, if_pos co, half_eq b0 (by omega), half_eq2 b0 (by omega), hi1, wrap64_id (x := v2) (by omega) (by omega)]
              exact IHa nx2 _ c1 c2 (opsB_snoc h6 ⟨by simp only; omega, by simp only; omega⟩ ⟨by simp only; omega, by simp only; omega⟩ (by simp)) (by simp only [List.length_append, List.length_singleton]; omega)
          · rw [if_neg he2, if_neg he2, delta_Decode.j3, ref26_Decode.j3, if_pos (show true = true from rfl), if_pos (show true = true from rfl)]
            exact ⟨_, rfl, rfl⟩
        · rw [if_neg (fun h => hodd ((and_one b0 (by omega)).1 h)), if_neg (show ¬ Int.tmod v 2 = 1 by rw [Int.tmod_eq_emod_of_nonneg b0]; exact hodd)]
          have w1 : wrap64 ((bs.length : Int) - nx) = (bs.length : Int) - nx := wrap64_id (by omega) (by omega)
          rw [w1]
          clear w1
          by_cases hroom : v / 2 > (bs.length : Int) - nx
          · rw [if_pos hroom, if_pos hroom]
            exact ⟨_, rfl, rfl⟩
          · have w2 : wrap64 (nx + v / 2) = nx + v / 2 := wrap64_id (by omega) (by omega)
            rw [if_neg hroom, if_neg hroom, w2]
            clear w2
            have q1 : nx ≤ nx + v / 2 := by omega
            have q2 : nx + v / 2 ≤ (bs.length : Int) := by omega
            rw [if_pos b1, if_pos b1, if_pos q1, if_pos q1, if_pos q2, if_pos q2]
            have hd : ((bs.take (nx + v / 2).toNat).drop nx.toNat).length < 140737488355328 := by simp only [List.length_drop, List.length_take]; omega
            unfold bytes_Clone.f
            rw [if_pos hd]
            simp only [Option.bind_some, List.length_nil, Nat.zero_add, List.nil_append]
            rw [if_pos co, if_pos hd, if_pos co, hi1]
            exact IHb (nx + v / 2) _ (by omega) (by omega) (opsB_snoc h6 ⟨by simp, by simp⟩ ⟨by simp, by simp⟩ (by simp only; omega)) (by simp only [List.length_append, List.length_singleton]; omega)
    · rw [if_neg he, if_neg he, delta_Decode.j2, ref26_Decode.j2, if_pos (show true = true from rfl), if_pos (show true = true from rfl)]
      exact ⟨_, rfl, rfl⟩
theorem dec_eq {bs : List Int} (hB : byteB bs = true) (hl : bs.length < 140737488355328) (x : Int) (k : Nat) (hk : 40000 < k) : ∃ r, delta_Decode.f k x bs = some r ∧ ref26_Decode.f k x bs = some r := by
  obtain ⟨k, rfl⟩ : ∃ m, k = m + 1 := ⟨k - 1, by omega⟩
  unfold delta_Decode.f ref26_Decode.f stockyardref01_TakeUint.f
  obtain ⟨v, nx, e, hv, hb⟩ := uint_cases hB (a := 0) (by omega) (by omega)
  rw [hv]
  simp only [Option.bind_some]
  by_cases he : e = 0
  · obtain ⟨b0, b1, b2⟩ := hb he
    rw [if_pos he, if_pos he, delta_Decode.j0, ref26_Decode.j0]
    by_cases hbig : v > 4096
    · rw [decide_eq_true hbig, if_pos (show true = true from rfl), if_pos (show true = true from rfl)]
      exact ⟨_, rfl, rfl⟩
    · rw [decide_eq_false hbig, if_neg Bool.false_ne_true, if_neg Bool.false_ne_true]
      obtain ⟨n, rfl⟩ := Int.eq_ofNat_of_zero_le b0
      exact dec_l0 hB hl x n k 0 n nx [] (by omega) (by omega) (by omega) b1 b2 rfl (by simp)
  · rw [if_neg he, if_neg he, delta_Decode.j0, ref26_Decode.j0, if_pos (show true = true from rfl), if_pos (show true = true from rfl)]
    exact ⟨_, rfl, rfl⟩
end Go.Proofs.Ytjckjcekapkkjaa.P
