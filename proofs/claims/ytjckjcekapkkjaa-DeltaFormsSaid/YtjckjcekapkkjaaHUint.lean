/- The contract of codec.Uint: it hands back the number whose groups begin at an offset, and the offset behind it, or an error. -/
-- HAND stockyard/codec.Uint quiet
import Derived.Test.YtjckjcekapkkjaaPx0
import Derived.Test.YtjckjcekapkkjaaPx7
import Derived.Laws.BitsAllLaws
import Derived.Lib.Hide
import Derived.Outline
import Derived.Deep.DeepMust
namespace Go.Proofs.Ytjckjcekapkkjaa.P
open Go.RowKit Go.Proofs.YtjckjcekapkkjaaW.PrintWords Go.Proofs.YtjckjcekapkkjaaW.PrintLast Go.Proofs.YtjckjcekapkkjaaW.PrintMore
set_option linter.unusedVariables false
set_option linter.unusedSimpArgs false

/-- A number decoded out of bytes, group by group: i groups, worth v, lie behind. -/
def decGo (a : Int) : Nat → Nat → List Int → Int × Int × Int
  | _, _, [] => (0, 0, 11)
  | i, v, c :: cs =>
    if (0 < i ∧ c = 0) ∨ (i = 9 ∧ c ≠ 1) then (0, 0, 12)
    else if c < 128 then (((v + c.toNat % 128 * 128 ^ i : Nat) : Int), a + i + 1, 0)
    else decGo a (i + 1) (v + c.toNat % 128 * 128 ^ i) cs
def byteB (l : List Int) : Bool := l.all fun x => decide (0 ≤ x ∧ x < 256)
def codec_Uint.f (l0 : List Int) (a1 : Int) : Option (Int × Int × Int) :=
  if byteB l0 = true then some (if 0 ≤ a1 ∧ a1 ≤ l0.length then decGo a1 0 0 (l0.drop a1.toNat) else (0, 0, 10)) else none

theorem ui_low {c : Int} (h0 : 0 ≤ c) (h1 : c < 256) : bits .andNot .u8 c 128 = ((c.toNat % 128 : Nat) : Int) := by
  obtain ⟨n, rfl⟩ := Int.eq_ofNat_of_zero_le h0
  have h : ∀ x : Fin 256, bits .andNot .u8 ((x.val : Nat) : Int) 128 = ((x.val % 128 : Nat) : Int) := by
    intro x
    rw [show (128 : Int) = ((128 : Nat) : Int) from rfl, u8_andNot_nat _ _ x.isLt (by decide)]
    congr 1
    revert x; decide +kernel
  exact h ⟨n, by omega⟩
theorem ui_or (v x i : Nat) (hv : v < 128 ^ i) (hx : x < 128) (hi : 128 ^ i * x < 2 ^ 64) (hi9 : i ≤ 9) : bits .or .u64 (v : Int) ((x * 128 ^ i : Nat) : Int) = ((v + x * 128 ^ i : Nat) : Int) := by
  have h9 : (128 : Nat) ^ i ≤ 128 ^ 9 := Nat.pow_le_pow_right (by decide) hi9
  have e128 : (128 : Nat) ^ i = 2 ^ (7 * i) := by rw [show (128 : Nat) = 2 ^ 7 from rfl, ← Nat.pow_mul]
  rw [u64_or_nat _ _ (by have : (128 : Nat) ^ 9 < 18446744073709551616 := by decide
                         omega) (by rw [Nat.mul_comm]; exact hi)]
  congr 1
  rw [e128] at hv ⊢
  rw [Nat.or_comm, Nat.mul_comm, Nat.add_comm]
  exact (Nat.two_pow_add_eq_or_of_lt hv x).symm
theorem ui_val {V k : Nat} {c : Int} (hV : V < 128 ^ k) (hk : k ≤ 9) (h0 : 0 ≤ c) (h1 : c < 256) (h : (k : Int) ≠ 9 ∨ c = 1) :
    bits .or .u64 (V : Int) (IntKind.u64.wrap (IntKind.u64.wrap (bits .andNot .u8 c 128) * 2 ^ (7 * k))) = ((V + c.toNat % 128 * 128 ^ k : Nat) : Int) := by
  have hx : 128 ^ k * (c.toNat % 128) < 2 ^ 64 := by
    rcases h with h | rfl
    · have h8 : (128 : Nat) ^ k ≤ 128 ^ 8 := Nat.pow_le_pow_right (by decide) (by omega)
      calc 128 ^ k * (c.toNat % 128) ≤ 128 ^ 8 * 127 := Nat.mul_le_mul h8 (by omega)
        _ < 2 ^ 64 := by decide
    · have h9 : (128 : Nat) ^ k ≤ 128 ^ 9 := Nat.pow_le_pow_right (by decide) hk
      calc 128 ^ k * ((1 : Int).toNat % 128) ≤ 128 ^ 9 * 1 := Nat.mul_le_mul h9 (by decide)
        _ < 2 ^ 64 := by decide
  have e1 : IntKind.u64.wrap ((c.toNat % 128 : Nat) : Int) = ((c.toNat % 128 : Nat) : Int) := by rw [IntKind.wrap_u64]; omega
  rw [ui_low h0 h1, e1]
  have e2 : (((c.toNat % 128 : Nat) : Int) * 2 ^ (7 * k)) = ((c.toNat % 128 * 128 ^ k : Nat) : Int) := by
    rw [Int.natCast_mul, show (128 : Nat) ^ k = 2 ^ (7 * k) by rw [show (128 : Nat) = 2 ^ 7 from rfl, ← Nat.pow_mul]]
    simp
  rw [e2, IntKind.wrap_u64]
  have e3 : ((c.toNat % 128 * 128 ^ k : Nat) : Int) % 18446744073709551616 = ((c.toNat % 128 * 128 ^ k : Nat) : Int) := by
    have : c.toNat % 128 * 128 ^ k < 18446744073709551616 := by rw [Nat.mul_comm]; exact hx
    omega
  rw [e3]
  exact ui_or V _ k hV (by omega) hx hk

/-- What a round of the loop begins with. -/
structure UiSt (a : Int) (rest : List Int) (R : Int × Int × Int) (k V : Nat) : Prop where
  eq : decGo a k V (rest.drop k) = R
  lt : V < 128 ^ k
  le : k ≤ 9
theorem decGo_cons {a : Int} {rest : List Int} {k V : Nat} (h : k < rest.length) : decGo a k V (rest.drop k) =
    if (0 < k ∧ rd rest k = 0) ∨ (k = 9 ∧ rd rest k ≠ 1) then (0, 0, 12)
    else if rd rest k < 128 then (((V + (rd rest k).toNat % 128 * 128 ^ k : Nat) : Int), a + k + 1, 0)
    else decGo a (k + 1) (V + (rd rest k).toNat % 128 * 128 ^ k) (rest.drop (k + 1)) := by
  rw [List.drop_eq_getElem_cons h, decGo]
  have e : rd rest k = rest[k] := by unfold rd; simp [List.getElem?_eq_getElem h]
  rw [e]
theorem byteB_rd {l : List Int} (h : byteB l = true) (k : Nat) : 0 ≤ rd l k ∧ rd l k < 256 := by
  unfold rd
  rw [Int.toNat_natCast, List.getD_eq_getElem?_getD]
  rcases Nat.lt_or_ge k l.length with hk | hk
  · rw [List.getElem?_eq_getElem hk]
    have := List.all_eq_true.1 h l[k] (List.getElem_mem hk)
    simpa using this
  · rw [List.getElem?_eq_none (by omega)]; simp
theorem byteB_drop {l : List Int} (h : byteB l = true) (k : Nat) : byteB (l.drop k) = true := List.all_eq_true.2 fun x hx => List.all_eq_true.1 h x (List.mem_of_mem_drop hx)

set_option maxHeartbeats 2000000 in
theorem codec_Uint.calls (A0 : Option Addr) (c0 : Nat) (l0 : List Int) (a1 : Int) (r1 : Int) (r2 : Int) (r3 : Int) (w : World) (hr0 : Kd.C (Kd.int .u8) w A0 l0.length l0) (hc0 : l0.length ≤ c0) (h : codec_Uint.f l0 a1 = some (r1, r2, r3)) :
    Calls Try.prog 55 #[.slice A0 l0.length c0, .int .i64 a1] w fun e w' => e = .returned (.tuple #[.int .u64 r1, .int .i64 r2, .int .i64 r3]) ∧ Drawn0 w w' := by
  unfold codec_Uint.f at h
  by_cases hB : byteB l0 = true
  case neg => rw [if_neg hB] at h; cases h
  rw [if_pos hB] at h
  have h := Option.some.inj h
  by_cases hin : 0 ≤ a1 ∧ a1 ≤ l0.length
  · rw [if_pos hin] at h
    have HI := Lib.hid (show codec_inside.f l0 a1 = some true by unfold codec_inside.f; rw [if_pos hin.1]; simp [hin.2])
    obtain ⟨h0, h1⟩ := hin
    obtain ⟨i07, hi07, _, hsz7, _⟩ := info_parts info5
    obtain ⟨A7, hcut7, hA7, hC7⟩ := print_drop_of (P := Try.prog) (Value.int .u8) 0 26 5 .i64 Try.underlying26 hi07 hsz7 A0 c0 l0 a1 h0 h1 hc0
    have HR := Lib.hid (Kd.C_of_reads (h1 := fun _ => rfl) (hA7 w (Kd.reads_of_C (h1 := fun _ => rfl) hr0)))
    have hlen : a1 + (l0.drop a1.toNat).length ≤ l0.length := by rw [List.length_drop]; omega
    have hmax : (l0.length : Int) ≤ 9223372036854775807 := by have := hr0.2.1; omega
    have HB := Lib.hid (byteB_drop hB a1.toNat)
    have HC := Lib.hid hr0
    clear hA7 hr0 hi07 hsz7 hB
    generalize l0.drop a1.toNat = rest at *
    have HS : Hid (UiSt a1 rest (r1, r2, r3) 0 0) := ⟨h, by simp, by omega⟩
    clear h
    go_enter Try.func55, Try.ntmps55
    go_wp2_with (go_at_call 62; go_must (refine (codec_inside.calls A0 c0 l0 a1 true _ HC.out hc0 HI.out).mono ?_); rintro e w' ⟨rfl, ⟨nd, rfl⟩⟩)
    go_loopw [4, 17] (fun v i wr => ∃ (k V : Nat), v = .int .u64 (V : Int) ∧ i = .int .i64 (k : Int) ∧ k ≤ rest.length ∧ Hid (UiSt a1 rest (r1, r2, r3) k V) ∧ Drawn0 w wr) (fun _ i _ => rest.length - (intOf i).toNat)
    case atStart => exact ⟨0, 0, rfl, rfl, by omega, HS, (Drawn0.refl _).step _⟩
    case round =>
      obtain ⟨k, V, rfl, rfl, hk, hs, ⟨m, rfl⟩⟩ := hrel
      clear HS HI hcut7
      have h9 := hs.out.le
      by_cases hlt : k < rest.length
      · obtain ⟨ad, rfl, hcell⟩ := Kd.at_int HR.out (k : Int) (by omega) (by omega)
        rw [Int.toNat_natCast] at hcell
        obtain ⟨hc1, hc2⟩ := byteB_rd HB.out k
        have hd := Lib.hid (hs.out.eq.symm.trans (decGo_cons hlt))
        generalize rd rest k = c at *
        by_cases hbad : (0 < k ∧ c = 0) ∨ (k = 9 ∧ c ≠ 1)
        · rw [if_pos hbad] at hd
          have hd1 := hd.out
          simp only [Prod.mk.injEq] at hd1
          obtain ⟨rfl, rfl, rfl⟩ := hd1
          have hbad' : (0 < (k : Int) ∧ c = 0) ∨ ((k : Int) = 9 ∧ c ≠ 0 ∧ c ≠ 1) := by omega
          clear hbad hd
          rcases hbad' with ⟨b1, b2⟩ | ⟨b1, b2, b3⟩
          · subst b2
            go_wp2
            go_ret3
            exact ⟨rfl, (Drawn0.refl _).step _⟩
          · have b2' : (c == 0) = false := by simpa using b2
            have b3' : (c != 1) = true := by simpa using b3
            have b1' : ((k : Int) == 9) = true := by simpa using b1
            have b4 := Lib.hid b1
            have b5 : 0 < (k : Int) := by omega
            clear b1 b2 b3
            go_wp2
            go_ret3
            exact ⟨rfl, (Drawn0.refl _).step _⟩
        · rw [if_neg hbad] at hd
          have hg : (k = 0 ∨ (0 < (k : Int) ∧ c ≠ 0)) ∧ ((k : Int) ≠ 9 ∨ c = 1) := by omega
          have hg' : ((k : Int) ≤ 0 ∧ ((k : Int) == 9) = false) ∨ (0 < (k : Int) ∧ (c == 0) = false ∧ (((k : Int) == 9) = false ∨ ((k : Int) == 9) = true ∧ (c != 1) = false)) := by
            rcases hg with ⟨rfl | ⟨b1, b2⟩, b3⟩
            · exact .inl ⟨by omega, by simp⟩
            · refine .inr ⟨b1, by simpa using b2, ?_⟩
              by_cases b4 : (k : Int) = 9
              · exact .inr ⟨by simpa using b4, by simpa using b3.resolve_left (fun h => h b4)⟩
              · exact .inl (by simpa using b4)
          have hx := Lib.hid (ui_val hs.out.lt h9 hc1 hc2 hg.2)
          have hk9 : c < 128 ∨ (k : Int) < 9 := by omega
          clear hg
          by_cases hsm : c < 128
          · rw [if_pos hsm] at hd
            have hd1 := hd.out
            simp only [Prod.mk.injEq] at hd1
            obtain ⟨rfl, rfl, rfl⟩ := hd1
            clear hd hbad
            rcases hg' with ⟨b1, b2⟩ | ⟨b1, b2, b3 | ⟨b3, b4⟩⟩
            all_goals
              go_wp2
              go_ret3
              refine ⟨?_, (Drawn0.refl _).step _⟩
              rw [← hx.out]
              rfl
          · rw [if_neg hsm] at hd
            have HS : Hid (UiSt a1 rest (r1, r2, r3) (k + 1) (V + c.toNat % 128 * 128 ^ k)) := ⟨hd.out.symm, by
              have := hs.out.lt
              have h2 : c.toNat % 128 ≤ 127 := by omega
              rw [Nat.pow_succ]
              have h3 := Nat.mul_le_mul_right (128 ^ k) h2
              omega, by omega⟩
            clear hd hbad hs
            rcases hg' with ⟨b1, b2⟩ | ⟨b1, b2, b3 | ⟨b3, b4⟩⟩
            all_goals
              go_wp2
              go_roundw
              case rel => exact ⟨k + 1, _, by rw [← hx.out], by go_num, by omega, HS, (Drawn0.refl _).step _⟩
              case measure => simp [intOf]; omega
      · have hd : (r1, r2, r3) = (0, 0, 11) := by rw [← hs.out.eq, List.drop_of_length_le (by omega)]; rfl
        simp only [Prod.mk.injEq] at hd
        obtain ⟨rfl, rfl, rfl⟩ := hd
        go_wp2
        go_ret3
        exact ⟨rfl, (Drawn0.refl _).step _⟩
  · rw [if_neg hin] at h
    simp only [Prod.mk.injEq] at h
    obtain ⟨rfl, rfl, rfl⟩ := h
    have HI := Lib.hid (show codec_inside.f l0 a1 = some false by
      unfold codec_inside.f
      by_cases h0 : a1 ≥ 0
      · rw [if_pos h0]
        have : ¬ a1 ≤ l0.length := fun h1 => hin ⟨h0, h1⟩
        simp [this]
      · rw [if_neg h0])
    have HC := Lib.hid hr0
    clear hr0 hin hB
    go_enter Try.func55, Try.ntmps55
    go_wp2_with (go_at_call 62; go_must (refine (codec_inside.calls A0 c0 l0 a1 false _ HC.out hc0 HI.out).mono ?_); rintro e w' ⟨rfl, ⟨nd, rfl⟩⟩)
    go_ret3
    exact ⟨rfl, (Drawn0.refl _).step _⟩
end Go.Proofs.Ytjckjcekapkkjaa.P
