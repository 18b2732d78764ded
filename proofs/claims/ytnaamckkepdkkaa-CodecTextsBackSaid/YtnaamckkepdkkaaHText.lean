/- The contracts of codec.Text and of the reference's TakeText: both hand back the text that a number of bytes announces, or an error. -/
-- HAND stockyard/codec.Text quiet
-- HAND stockyard/stockyardref01.TakeText quiet
import Derived.Test.YtnaamckkepdkkaaPx0
import Derived.Test.YtnaamckkepdkkaaHTakeUint
import Derived.Test.YtnaamckkepdkkaaHUint
import Derived.Laws.BitsAllLaws
import Derived.Lib.Hide
import Derived.Outline
import Derived.Deep.DeepMust
namespace Go.Proofs.Ytnaamckkepdkkaa.P
open Go.RowKit Go.Proofs.YtnaamckkepdkkaaW.PrintWords Go.Proofs.YtnaamckkepdkkaaW.PrintLast Go.Proofs.YtnaamckkepdkkaaW.PrintMore
attribute [local go_sem] max2_int min2_int max_two min_two
set_option linter.unusedVariables false
set_option linter.unusedSimpArgs false

def textF (l : List Int) (most : Int) (R : Int × Int × Int) : ByteArray × Int × Int :=
  if R.2.2 ≠ 0 then (⟨#[]⟩, 0, R.2.2)
  else if R.1 > mx most 0 then (⟨#[]⟩, 0, 13)
  else if R.1 > l.length - R.2.1 then (⟨#[]⟩, 0, 11)
  else (strOfNums ((l.take (R.2.1 + R.1).toNat).drop R.2.1.toNat), R.2.1 + R.1, 0)
def codec_Text.f (l0 : List Int) (a1 a2 : Int) : Option (ByteArray × Int × Int) :=
  if l0.length ≤ maxLen ∧ (Lit.int .i64 a2).wf = true then (codec_Uint.f l0 a1).map (textF l0 a2) else none
def stockyardref01_TakeText.f (l0 : List Int) (a1 a2 : Int) : Option (ByteArray × Int × Int) := codec_Text.f l0 a1 a2

theorem decGo_ok {a : Int} {l : List Int} (hB : byteB l = true) : ∀ {i v : Nat}, v < 128 ^ i → i ≤ 9 → (decGo a i v l).2.2 = 0 →
    0 ≤ (decGo a i v l).1 ∧ (decGo a i v l).1 < 18446744073709551616 ∧ a + i < (decGo a i v l).2.1 ∧ (decGo a i v l).2.1 ≤ a + i + l.length := by
  induction l with
  | nil => intro i v _ _ h; simp [decGo] at h
  | cons c cs ih =>
    intro i v hv hi h
    have hc : 0 ≤ c ∧ c < 256 := by have := List.all_eq_true.1 hB c List.mem_cons_self; simpa using this
    have hcs : byteB cs = true := List.all_eq_true.2 fun x hx => List.all_eq_true.1 hB x (List.mem_cons_of_mem _ hx)
    rw [decGo] at h ⊢
    by_cases hb : (0 < i ∧ c = 0) ∨ (i = 9 ∧ c ≠ 1)
    · rw [if_pos hb] at h; simp at h
    · rw [if_neg hb] at h ⊢
      by_cases hs : c < 128
      · rw [if_pos hs]
        have hx : c.toNat % 128 * 128 ^ i ≤ 2 ^ 63 := by
          have hg : ((i : Int) ≠ 9 ∨ c = 1) := by omega
          rcases hg with h | rfl
          · have h8 : (128 : Nat) ^ i ≤ 128 ^ 8 := Nat.pow_le_pow_right (by decide) (by omega)
            calc c.toNat % 128 * 128 ^ i ≤ 127 * 128 ^ 8 := Nat.mul_le_mul (by omega) h8
              _ ≤ 2 ^ 63 := by decide
          · have h9 : (128 : Nat) ^ i ≤ 128 ^ 9 := Nat.pow_le_pow_right (by decide) hi
            calc (1 : Int).toNat % 128 * 128 ^ i ≤ 1 * 128 ^ 9 := Nat.mul_le_mul (by decide) h9
              _ ≤ 2 ^ 63 := by decide
        have h9 : (128 : Nat) ^ i ≤ 128 ^ 9 := Nat.pow_le_pow_right (by decide) hi
        have e9 : (128 : Nat) ^ 9 = 9223372036854775808 := by decide
        have e63 : (2 : Nat) ^ 63 = 9223372036854775808 := by decide
        generalize c.toNat % 128 * 128 ^ i = y at *
        simp only [List.length_cons]
        refine ⟨by omega, by omega, by omega, by omega⟩
      · rw [if_neg hs] at h ⊢
        have hlt : v + c.toNat % 128 * 128 ^ i < 128 ^ (i + 1) := by
          have h2 : c.toNat % 128 ≤ 127 := by omega
          rw [Nat.pow_succ]
          have h3 := Nat.mul_le_mul_right (128 ^ i) h2
          omega
        have := ih hcs hlt (by omega) h
        simp only [List.length_cons]
        omega
/-- What codec.Uint's answer is worth where there is no error. -/
theorem codec_Uint.ok {l : List Int} {a r1 r2 : Int} (h : codec_Uint.f l a = some (r1, r2, 0)) : byteB l = true ∧ 0 ≤ a ∧ 0 ≤ r1 ∧ r1 < 18446744073709551616 ∧ a < r2 ∧ r2 ≤ l.length := by
  unfold codec_Uint.f at h
  by_cases hB : byteB l = true
  case neg => rw [if_neg hB] at h; cases h
  rw [if_pos hB] at h
  have h := Option.some.inj h
  by_cases hin : 0 ≤ a ∧ a ≤ l.length
  · rw [if_pos hin] at h
    have := decGo_ok (a := a) (byteB_drop hB a.toNat) (i := 0) (v := 0) (by decide) (by decide) (by rw [h])
    rw [h] at this
    simp only [List.length_drop] at this
    refine ⟨hB, hin.1, this.1, this.2.1, by have := this.2.2.1; simp at this; omega, by have := this.2.2.2; simp at this; omega⟩
  · rw [if_neg hin] at h
    simp at h
theorem tx_wf {a : Int} (h : (Lit.int .i64 a).wf = true) : -9223372036854775808 ≤ a ∧ a ≤ 9223372036854775807 := by simpa [Lit.wf, IntKind.min, IntKind.max, IntKind.signed, IntKind.bits] using h

set_option maxHeartbeats 2000000 in
theorem codec_Text.calls (A0 : Option Addr) (c0 : Nat) (l0 : List Int) (a1 a2 : Int) (r1 : ByteArray) (r2 : Int) (r3 : Int) (w : World) (hr0 : Kd.C (Kd.int .u8) w A0 l0.length l0) (hc0 : l0.length ≤ c0) (h : codec_Text.f l0 a1 a2 = some (r1, r2, r3)) :
    Calls Try.prog 30 #[.slice A0 l0.length c0, .int .i64 a1, .int .i64 a2] w fun e w' => e = .returned (.tuple #[.string r1, .int .i64 r2, .int .i64 r3]) ∧ Drawn0 w w' := by
  unfold codec_Text.f at h
  by_cases hg : l0.length ≤ maxLen ∧ (Lit.int .i64 a2).wf = true
  case neg => rw [if_neg hg] at h; cases h
  rw [if_pos hg] at h
  obtain ⟨hlen, hwf⟩ := hg
  unfold maxLen at hlen
  obtain ⟨hm1, hm2⟩ := tx_wf hwf
  clear hwf
  obtain ⟨⟨n, next, e⟩, hU, hT⟩ := Option.map_eq_some_iff.1 h
  clear h
  have HU := Lib.hid hU
  have HC := Lib.hid hr0
  have HT := Lib.hid hT
  clear hT
  by_cases he : e = 0
  · subst he
    obtain ⟨_, ha, hn0, hn1, hx0, hx1⟩ := codec_Uint.ok hU
    clear hU hr0
    have hmx : (0 ≤ a2 ∧ mx a2 0 = a2) ∨ (a2 < 0 ∧ mx a2 0 = 0) := by unfold mx; omega
    by_cases hbig : n > mx a2 0
    · have hR : (⟨#[]⟩, 0, 13) = (r1, r2, r3) := by rw [← HT.out]; unfold textF; rw [if_neg (by simp), if_pos hbig]
      simp only [Prod.mk.injEq] at hR
      obtain ⟨rfl, rfl, rfl⟩ := hR
      clear HT
      rcases hmx with ⟨hs, hx⟩ | ⟨hs, hx⟩
      all_goals
        rw [hx] at hbig
        go_enter Try.func30, Try.ntmps30
        go_wp2_with (go_at_call 20; go_must (refine (codec_Uint.calls A0 c0 l0 a1 n next 0 _ HC.out hc0 HU.out).mono ?_); rintro e' w' ⟨rfl, ⟨nd, rfl⟩⟩)
        go_ret3
        exact ⟨rfl, (Drawn0.refl _).step _⟩
    · by_cases hsh : n > l0.length - next
      · have hR : (⟨#[]⟩, 0, 11) = (r1, r2, r3) := by rw [← HT.out]; unfold textF; rw [if_neg (by simp), if_neg hbig, if_pos hsh]
        simp only [Prod.mk.injEq] at hR
        obtain ⟨rfl, rfl, rfl⟩ := hR
        clear HT
        rcases hmx with ⟨hs, hx⟩ | ⟨hs, hx⟩
        all_goals rw [hx] at hbig
        all_goals try (exfalso; omega)
        all_goals
          go_enter Try.func30, Try.ntmps30
          go_wp2_with (go_at_call 20; go_must (refine (codec_Uint.calls A0 c0 l0 a1 n next 0 _ HC.out hc0 HU.out).mono ?_); rintro e' w' ⟨rfl, ⟨nd, rfl⟩⟩)
          go_ret3
          exact ⟨rfl, (Drawn0.refl _).step _⟩
      · have hR : (strOfNums ((l0.take (next + n).toNat).drop next.toNat), next + n, 0) = (r1, r2, r3) := by rw [← HT.out]; unfold textF; rw [if_neg (by simp), if_neg hbig, if_neg hsh]
        simp only [Prod.mk.injEq] at hR
        obtain ⟨rfl, rfl, rfl⟩ := hR
        clear HT
        obtain ⟨i07, hi07, _, hsz7, _⟩ := info_parts info5
        obtain ⟨A7, hcut7, hA7, hC7⟩ := print_mid_of (P := Try.prog) (Value.int .u8) 0 22 5 .i64 .i64 Try.underlying22 hi07 hsz7 A0 c0 l0 next (next + n) (by omega) (by omega) (by omega) hc0
        have HR := Lib.hid (Kd.C_of_reads (h1 := fun _ => rfl) (hA7 w (Kd.reads_of_C (h1 := fun _ => rfl) HC.out)))
        have hstr : ∀ m, (convert 22 9 (.slice A7 ((l0.take (next + n).toNat).drop next.toNat).length (c0 - next.toNat))).run Try.prog (w.drewN m) = .ok (.string (strOfNums ((l0.take (next + n).toNat).drop next.toNat))) (w.drewN m) := fun m => Kd.C_string Try.underlying22 Try.underlying5 Try.underlying9 (Kd.C_drewN HR.out m)
        clear hA7 hi07 hsz7 HR
        generalize strOfNums ((l0.take (next + n).toNat).drop next.toNat) = tx at *
        generalize ((l0.take (next + n).toNat).drop next.toNat).length = tl at *
        have hn2 : n ≤ 9223372036854775807 := by omega
        rcases hmx with ⟨hs, hx⟩ | ⟨hs, hx⟩
        all_goals
          rw [hx] at hbig
          go_enter Try.func30, Try.ntmps30
          go_wp2_with (go_at_call 20; go_must (refine (codec_Uint.calls A0 c0 l0 a1 n next 0 _ HC.out hc0 HU.out).mono ?_); rintro e' w' ⟨rfl, ⟨nd, rfl⟩⟩)
          go_ret3
          exact ⟨rfl, (Drawn0.refl _).step _⟩
  · have hR : (⟨#[]⟩, 0, e) = (r1, r2, r3) := by rw [← HT.out]; unfold textF; rw [if_pos he]
    simp only [Prod.mk.injEq] at hR
    obtain ⟨rfl, rfl, rfl⟩ := hR
    have he' : (e != 0) = true := by simpa using he
    clear hU hr0 HT he
    go_enter Try.func30, Try.ntmps30
    go_wp2_with (go_at_call 20; go_must (refine (codec_Uint.calls A0 c0 l0 a1 n next e _ HC.out hc0 HU.out).mono ?_); rintro e' w' ⟨rfl, ⟨nd, rfl⟩⟩)
    go_ret3
    exact ⟨rfl, (Drawn0.refl _).step _⟩

set_option maxHeartbeats 2000000 in
theorem stockyardref01_TakeText.calls (A0 : Option Addr) (c0 : Nat) (l0 : List Int) (a1 a2 : Int) (r1 : ByteArray) (r2 : Int) (r3 : Int) (w : World) (hr0 : Kd.C (Kd.int .u8) w A0 l0.length l0) (hc0 : l0.length ≤ c0) (h : stockyardref01_TakeText.f l0 a1 a2 = some (r1, r2, r3)) :
    Calls Try.prog 31 #[.slice A0 l0.length c0, .int .i64 a1, .int .i64 a2] w fun e w' => e = .returned (.tuple #[.string r1, .int .i64 r2, .int .i64 r3]) ∧ Drawn0 w w' := by
  unfold stockyardref01_TakeText.f codec_Text.f at h
  by_cases hg : l0.length ≤ maxLen ∧ (Lit.int .i64 a2).wf = true
  case neg => rw [if_neg hg] at h; cases h
  rw [if_pos hg] at h
  obtain ⟨hlen, hwf⟩ := hg
  unfold maxLen at hlen
  obtain ⟨hm1, hm2⟩ := tx_wf hwf
  clear hwf
  obtain ⟨⟨n, next, e⟩, hU, hT⟩ := Option.map_eq_some_iff.1 h
  clear h
  have HU := Lib.hid hU
  have HC := Lib.hid hr0
  have HT := Lib.hid hT
  clear hT
  by_cases he : e = 0
  · subst he
    obtain ⟨_, ha, hn0, hn1, hx0, hx1⟩ := codec_Uint.ok hU
    clear hU hr0
    have hmx : (0 ≤ a2 ∧ mx a2 0 = a2) ∨ (a2 < 0 ∧ mx a2 0 = 0) := by unfold mx; omega
    by_cases hbig : n > mx a2 0
    · have hR : (⟨#[]⟩, 0, 13) = (r1, r2, r3) := by rw [← HT.out]; unfold textF; rw [if_neg (by simp), if_pos hbig]
      simp only [Prod.mk.injEq] at hR
      obtain ⟨rfl, rfl, rfl⟩ := hR
      clear HT
      rcases hmx with ⟨hs, hx⟩ | ⟨hs, hx⟩
      all_goals
        rw [hx] at hbig
        go_enter Try.func31, Try.ntmps31
        go_wp2_with (go_at_call 25; go_must (refine (stockyardref01_TakeUint.calls A0 c0 l0 a1 n next 0 _ HC.out hc0 HU.out).mono ?_); rintro e' w' ⟨rfl, ⟨nd, rfl⟩⟩)
        go_ret3
        exact ⟨rfl, (Drawn0.refl _).step _⟩
    · by_cases hsh : n > l0.length - next
      · have hR : (⟨#[]⟩, 0, 11) = (r1, r2, r3) := by rw [← HT.out]; unfold textF; rw [if_neg (by simp), if_neg hbig, if_pos hsh]
        simp only [Prod.mk.injEq] at hR
        obtain ⟨rfl, rfl, rfl⟩ := hR
        clear HT
        rcases hmx with ⟨hs, hx⟩ | ⟨hs, hx⟩
        all_goals rw [hx] at hbig
        all_goals try (exfalso; omega)
        all_goals
          go_enter Try.func31, Try.ntmps31
          go_wp2_with (go_at_call 25; go_must (refine (stockyardref01_TakeUint.calls A0 c0 l0 a1 n next 0 _ HC.out hc0 HU.out).mono ?_); rintro e' w' ⟨rfl, ⟨nd, rfl⟩⟩)
          go_ret3
          exact ⟨rfl, (Drawn0.refl _).step _⟩
      · have hR : (strOfNums ((l0.take (next + n).toNat).drop next.toNat), next + n, 0) = (r1, r2, r3) := by rw [← HT.out]; unfold textF; rw [if_neg (by simp), if_neg hbig, if_neg hsh]
        simp only [Prod.mk.injEq] at hR
        obtain ⟨rfl, rfl, rfl⟩ := hR
        clear HT
        obtain ⟨i07, hi07, _, hsz7, _⟩ := info_parts info5
        obtain ⟨A7, hcut7, hA7, hC7⟩ := print_mid_of (P := Try.prog) (Value.int .u8) 0 22 5 .i64 .i64 Try.underlying22 hi07 hsz7 A0 c0 l0 next (next + n) (by omega) (by omega) (by omega) hc0
        have HR := Lib.hid (Kd.C_of_reads (h1 := fun _ => rfl) (hA7 w (Kd.reads_of_C (h1 := fun _ => rfl) HC.out)))
        have hstr : ∀ m, (convert 22 9 (.slice A7 ((l0.take (next + n).toNat).drop next.toNat).length (c0 - next.toNat))).run Try.prog (w.drewN m) = .ok (.string (strOfNums ((l0.take (next + n).toNat).drop next.toNat))) (w.drewN m) := fun m => Kd.C_string Try.underlying22 Try.underlying5 Try.underlying9 (Kd.C_drewN HR.out m)
        clear hA7 hi07 hsz7 HR
        generalize strOfNums ((l0.take (next + n).toNat).drop next.toNat) = tx at *
        generalize ((l0.take (next + n).toNat).drop next.toNat).length = tl at *
        have hn2 : n ≤ 9223372036854775807 := by omega
        rcases hmx with ⟨hs, hx⟩ | ⟨hs, hx⟩
        all_goals
          rw [hx] at hbig
          go_enter Try.func31, Try.ntmps31
          go_wp2_with (go_at_call 25; go_must (refine (stockyardref01_TakeUint.calls A0 c0 l0 a1 n next 0 _ HC.out hc0 HU.out).mono ?_); rintro e' w' ⟨rfl, ⟨nd, rfl⟩⟩)
          go_ret3
          exact ⟨rfl, (Drawn0.refl _).step _⟩
  · have hR : (⟨#[]⟩, 0, e) = (r1, r2, r3) := by rw [← HT.out]; unfold textF; rw [if_pos he]
    simp only [Prod.mk.injEq] at hR
    obtain ⟨rfl, rfl, rfl⟩ := hR
    have he' : (e != 0) = true := by simpa using he
    clear hU hr0 HT he
    go_enter Try.func31, Try.ntmps31
    go_wp2_with (go_at_call 25; go_must (refine (stockyardref01_TakeUint.calls A0 c0 l0 a1 n next e _ HC.out hc0 HU.out).mono ?_); rintro e' w' ⟨rfl, ⟨nd, rfl⟩⟩)
    go_ret3
    exact ⟨rfl, (Drawn0.refl _).step _⟩
end Go.Proofs.Ytnaamckkepdkkaa.P
