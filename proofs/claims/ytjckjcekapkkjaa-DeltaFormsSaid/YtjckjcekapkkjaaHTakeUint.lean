/- The contract of the reference's TakeUint: it hands back what codec.Uint does. -/
-- HAND stockyard/stockyardref01.TakeUint quiet
import Derived.Test.YtjckjcekapkkjaaPx0
import Derived.Test.YtjckjcekapkkjaaPx8
import Derived.Test.YtjckjcekapkkjaaHUint
import Derived.Laws.BitsAllLaws
import Derived.Lib.Hide
import Derived.Outline
import Derived.Deep.DeepMust
namespace Go.Proofs.Ytjckjcekapkkjaa.P
open Go.RowKit Go.Proofs.YtjckjcekapkkjaaW.PrintWords Go.Proofs.YtjckjcekapkkjaaW.PrintLast Go.Proofs.YtjckjcekapkkjaaW.PrintMore
set_option linter.unusedVariables false
set_option linter.unusedSimpArgs false

def stockyardref01_TakeUint.f (l0 : List Int) (a1 : Int) : Option (Int × Int × Int) := codec_Uint.f l0 a1

/-- All bytes go on, and there are fewer than ten. -/
def opens (l : List Int) : Bool := (l.all fun x => decide (128 ≤ x)) && decide (l.length < 10)
theorem opens_iff {l : List Int} : opens l = true ↔ (∀ x ∈ l, 128 ≤ x) ∧ l.length < 10 := by simp [opens]
theorem opens_go {a : Int} {l : List Int} (h : ∀ x ∈ l, 128 ≤ x) : ∀ i v, i + l.length < 10 → decGo a i v l = (0, 0, 11) := by
  induction l with
  | nil => intro i v _; rfl
  | cons c cs ih =>
    intro i v hi
    have hc : 128 ≤ c := h c List.mem_cons_self
    simp at hi
    rw [decGo, if_neg (by omega), if_neg (by omega)]
    exact ih (fun x hx => h x (List.mem_cons_of_mem _ hx)) _ _ (by omega)
theorem open_l0 (l : List Int) (hl : l.length ≤ 9223372036854775807) (d : Nat) : ∀ (k : Nat) (i : Nat), i ≤ l.length → l.length - i = d → d < k → (∀ j : Nat, j < i → 128 ≤ rd l j) →
    stockyardref01_open.l0 k l l (l.length : Int) i = some (opens l) := by
  induction d with
  | zero =>
    intro k i h1 hd hk hm
    obtain ⟨k, rfl⟩ : ∃ m, k = m + 1 := ⟨k - 1, by omega⟩
    simp only [stockyardref01_open.l0]
    rw [if_neg (by omega)]
    congr 1
    have : (opens l = true) ↔ l.length < 10 := by
      rw [opens_iff]
      refine ⟨fun h => h.2, fun h => ⟨fun x hx => ?_, h⟩⟩
      obtain ⟨j, hj, rfl⟩ := List.getElem_of_mem hx
      have := hm j (by omega)
      unfold rd at this
      simpa [List.getElem?_eq_getElem hj] using this
    rw [Bool.eq_iff_iff, this]
    simp
    omega
  | succ d ih =>
    intro k i h1 hd hk hm
    obtain ⟨k, rfl⟩ : ∃ m, k = m + 1 := ⟨k - 1, by omega⟩
    simp only [stockyardref01_open.l0]
    rw [if_pos (by omega), if_pos (by omega), if_pos (by omega)]
    have e : rd l (i : Int) = l[i] := by unfold rd; simp [List.getElem?_eq_getElem (show i < l.length by omega)]
    by_cases hc : rd l i < 128
    · rw [if_pos hc]
      congr 1
      symm
      rw [Bool.eq_false_iff]
      intro ho
      have := (opens_iff.1 ho).1 l[i] (List.getElem_mem _)
      omega
    · rw [if_neg hc, show wrap64 ((i : Int) + 1) = ((i + 1 : Nat) : Int) by unfold wrap64; omega]
      refine ih k (i + 1) (by omega) (by omega) (by omega) (fun j hj => ?_)
      rcases Nat.lt_or_ge j i with h | h
      · exact hm j h
      · obtain rfl : j = i := by omega
        omega
theorem open_tells (l : List Int) (hl : l.length ≤ 9223372036854775807) : stockyardref01_open.f (l.length + 1) l = some (opens l) :=
  open_l0 l hl l.length (l.length + 1) 0 (by omega) (by omega) (by omega) (fun j hj => by omega)
structure TkSt (a : Int) (rest : List Int) (R : Int × Int × Int) (k V P : Nat) : Prop where
  eq : decGo a k V (rest.drop k) = R
  lt : V < 128 ^ k
  le : k ≤ 9
  pl : P = 128 ^ k
  more : ∀ j : Nat, j < k → 128 ≤ rd rest j
theorem TkSt.end_ {a : Int} {rest : List Int} {R : Int × Int × Int} {k V P : Nat} (h : TkSt a rest R k V P) (ho : opens rest = false) : k < rest.length := by
  refine Classical.byContradiction fun hk => ?_
  have : opens rest = true := by
    refine opens_iff.2 ⟨fun x hx => ?_, by have := h.le; omega⟩
    obtain ⟨j, hj, rfl⟩ := List.getElem_of_mem hx
    have := h.more j (by omega)
    unfold rd at this
    simpa [List.getElem?_eq_getElem hj] using this
  rw [ho] at this
  cases this
theorem tk_val {V k P : Nat} {c : Int} (hV : V < 128 ^ k) (hk : k ≤ 9) (hP : P = 128 ^ k) (h0 : 0 ≤ c) (h1 : c < 256) (h : (k : Int) ≠ 9 ∨ c = 1) :
    IntKind.u64.wrap ((V : Int) + IntKind.u64.wrap (c % 128 * (P : Int))) = ((V + c.toNat % 128 * 128 ^ k : Nat) : Int) ∧ ((k : Int) < 9 → IntKind.u64.wrap ((P : Int) * 128) = ((128 ^ (k + 1) : Nat) : Int)) := by
  subst hP
  have hx : c.toNat % 128 * 128 ^ k ≤ 2 ^ 63 := by
    rcases h with h | rfl
    · have h8 : (128 : Nat) ^ k ≤ 128 ^ 8 := Nat.pow_le_pow_right (by decide) (by omega)
      calc c.toNat % 128 * 128 ^ k ≤ 127 * 128 ^ 8 := Nat.mul_le_mul (by omega) h8
        _ ≤ 2 ^ 63 := by decide
    · have h9 : (128 : Nat) ^ k ≤ 128 ^ 9 := Nat.pow_le_pow_right (by decide) hk
      calc (1 : Int).toNat % 128 * 128 ^ k ≤ 1 * 128 ^ 9 := Nat.mul_le_mul (by decide) h9
        _ ≤ 2 ^ 63 := by decide
  have h9 : (128 : Nat) ^ k ≤ 128 ^ 9 := Nat.pow_le_pow_right (by decide) hk
  have e9 : (128 : Nat) ^ 9 = 9223372036854775808 := by decide
  have e63 : (2 : Nat) ^ 63 = 9223372036854775808 := by decide
  have e2 : c % 128 * ((128 ^ k : Nat) : Int) = ((c.toNat % 128 * 128 ^ k : Nat) : Int) := by
    rw [Int.natCast_mul, show c % 128 = ((c.toNat % 128 : Nat) : Int) by omega]
  rw [e2]
  generalize c.toNat % 128 * 128 ^ k = y at *
  constructor
  · rw [IntKind.wrap_u64, IntKind.wrap_u64]; omega
  · intro h8
    have h8' : (128 : Nat) ^ k ≤ 128 ^ 8 := Nat.pow_le_pow_right (by decide) (by omega)
    have e8 : (128 : Nat) ^ 8 = 72057594037927936 := by decide
    rw [IntKind.wrap_u64, Nat.pow_succ]
    generalize 128 ^ k = p at *
    omega

set_option maxHeartbeats 2000000 in
theorem stockyardref01_TakeUint.calls (A0 : Option Addr) (c0 : Nat) (l0 : List Int) (a1 : Int) (r1 : Int) (r2 : Int) (r3 : Int) (w : World) (hr0 : Kd.C (Kd.int .u8) w A0 l0.length l0) (hc0 : l0.length ≤ c0) (h : stockyardref01_TakeUint.f l0 a1 = some (r1, r2, r3)) :
    Calls Try.prog 57 #[.slice A0 l0.length c0, .int .i64 a1] w fun e w' => e = .returned (.tuple #[.int .u64 r1, .int .i64 r2, .int .i64 r3]) ∧ Drawn0 w w' := by
  unfold stockyardref01_TakeUint.f codec_Uint.f at h
  by_cases hB : byteB l0 = true
  case neg => rw [if_neg hB] at h; cases h
  rw [if_pos hB] at h
  have h := Option.some.inj h
  by_cases hin : 0 ≤ a1 ∧ a1 ≤ l0.length
  · rw [if_pos hin] at h
    obtain ⟨h0, h1⟩ := hin
    obtain ⟨i07, hi07, _, hsz7, _⟩ := info_parts info5
    obtain ⟨A7, hcut7, hA7, hC7⟩ := print_drop_of (P := Try.prog) (Value.int .u8) 0 26 5 .i64 Try.underlying26 hi07 hsz7 A0 c0 l0 a1 h0 h1 hc0
    have HR := Lib.hid (Kd.C_of_reads (h1 := fun _ => rfl) (hA7 w (Kd.reads_of_C (h1 := fun _ => rfl) hr0)))
    have hlen : a1 + (l0.drop a1.toNat).length ≤ l0.length := by rw [List.length_drop]; omega
    have hmax : (l0.length : Int) ≤ 9223372036854775807 := by have := hr0.2.1; omega
    have HB := Lib.hid (byteB_drop hB a1.toNat)
    clear hA7 hr0 hi07 hsz7 hB
    generalize l0.drop a1.toNat = rest at *
    by_cases hop : opens rest = true
    · have HO := Lib.hid (show stockyardref01_open.f (rest.length + 1) rest = some true by rw [← hop]; exact open_tells rest (by omega))
      have hd : (r1, r2, r3) = (0, 0, 11) := by rw [← h]; exact opens_go (opens_iff.1 hop).1 0 0 (by have := (opens_iff.1 hop).2; omega)
      simp only [Prod.mk.injEq] at hd
      obtain ⟨rfl, rfl, rfl⟩ := hd
      clear h hop
      go_enter Try.func57, Try.ntmps57
      go_wp2_with (go_at_call 63; go_must (refine (stockyardref01_open.calls _ _ _ rest true _ HR.out hC7 HO.out).mono ?_); rintro e w' ⟨rfl, ⟨nd, rfl⟩⟩)
      go_ret3
      exact ⟨rfl, (Drawn0.refl _).step _⟩
    · have hop' : opens rest = false := by simpa using hop
      have HO := Lib.hid (show stockyardref01_open.f (rest.length + 1) rest = some false by rw [← hop']; exact open_tells rest (by omega))
      have HN := Lib.hid hop'
      have HS : Hid (TkSt a1 rest (r1, r2, r3) 0 0 1) := ⟨h, by simp, by omega, by simp, by omega⟩
      clear h hop hop'
      go_enter Try.func57, Try.ntmps57
      go_wp2_with (go_at_call 63; go_must (refine (stockyardref01_open.calls _ _ _ rest false _ HR.out hC7 HO.out).mono ?_); rintro e w' ⟨rfl, ⟨nd, rfl⟩⟩)
      go_loopw [8, 9, 10] (fun v p i wr => ∃ (k V P : Nat), v = .int .u64 (V : Int) ∧ p = .int .u64 (P : Int) ∧ i = .int .i64 (k : Int) ∧ k ≤ rest.length ∧ Hid (TkSt a1 rest (r1, r2, r3) k V P) ∧ Drawn0 w wr) (fun _ _ i _ => rest.length - (intOf i).toNat)
      case atStart => exact ⟨0, 0, 1, rfl, rfl, rfl, by omega, HS, (Drawn0.refl _).step _⟩
      case round =>
        obtain ⟨k, V, P, rfl, rfl, rfl, hk, hs, ⟨m, rfl⟩⟩ := hrel
        clear HS HO hcut7
        have h9 := hs.out.le
        have hlt := hs.out.end_ HN.out
        obtain ⟨ad, rfl, hcell⟩ := Kd.at_int HR.out (k : Int) (by omega) (by omega)
        rw [Int.toNat_natCast] at hcell
        obtain ⟨hc1, hc2⟩ := byteB_rd HB.out k
        have hd := Lib.hid (hs.out.eq.symm.trans (decGo_cons hlt))
        have hmore : Hid (128 ≤ rd rest k → ∀ j : Nat, j < k + 1 → 128 ≤ rd rest j) := fun hx j hj => by
          rcases Nat.lt_or_ge j k with h | h
          · exact hs.out.more j h
          · obtain rfl : j = k := by omega
            exact hx
        generalize rd rest k = c at *
        by_cases hbad : (0 < k ∧ c = 0) ∨ (k = 9 ∧ c ≠ 1)
        · rw [if_pos hbad] at hd
          have hd1 := hd.out
          simp only [Prod.mk.injEq] at hd1
          obtain ⟨rfl, rfl, rfl⟩ := hd1
          have hbad' : (0 < (k : Int) ∧ c = 0) ∨ ((k : Int) = 9 ∧ 1 < c) := by omega
          clear hbad hd hmore
          rcases hbad' with ⟨b1, b2⟩ | ⟨b1, b2⟩
          · subst b2
            go_wp2
            all_goals go_ret3
            all_goals exact ⟨rfl, (Drawn0.refl _).step _⟩
          · have b1' : ((k : Int) == 9) = true := by simpa using b1
            have b4 := Lib.hid b1
            clear b1
            go_wp2
            go_ret3
            exact ⟨rfl, (Drawn0.refl _).step _⟩
        · rw [if_neg hbad] at hd
          have hg : ((k : Int) ≠ 9 ∨ c = 1) := by omega
          have hx := Lib.hid (tk_val hs.out.lt h9 hs.out.pl hc1 hc2 hg)
          have hk9 : ¬ c < 128 → (k : Int) < 9 := by omega
          have hc0 : ((c == 0) = false) ∨ (c = 0 ∧ (k : Int) ≤ 0) := by
            by_cases b : c = 0
            · exact .inr ⟨b, by omega⟩
            · exact .inl (by simpa using b)
          have hg' : ((k : Int) == 9) = false ∨ ((k : Int) == 9) = true ∧ c ≤ 1 := by
            by_cases b : (k : Int) = 9
            · exact .inr ⟨by simpa using b, by omega⟩
            · exact .inl (by simpa using b)
          clear hg hbad
          by_cases hsm : c < 128
          · rw [if_pos hsm] at hd
            have hd1 := hd.out
            simp only [Prod.mk.injEq] at hd1
            obtain ⟨rfl, rfl, rfl⟩ := hd1
            clear hd hmore hk9
            rcases hc0 with b0 | ⟨rfl, b0⟩ <;> rcases hg' with b1 | ⟨b1, b2⟩
            all_goals
              go_wp2
              go_ret3
              refine ⟨?_, (Drawn0.refl _).step _⟩
              first | (rw [← hx.out.1]; rfl) | (have e := hx.out.1; simp at e ⊢; exact e)
          · rw [if_neg hsm] at hd
            have HS : Hid (TkSt a1 rest (r1, r2, r3) (k + 1) (V + c.toNat % 128 * 128 ^ k) (128 ^ (k + 1))) := ⟨hd.out.symm, by
              have := hs.out.lt
              have h2 : c.toNat % 128 ≤ 127 := by omega
              rw [Nat.pow_succ]
              have h3 := Nat.mul_le_mul_right (128 ^ k) h2
              omega, by omega, rfl, hmore.out (by omega)⟩
            have hp := Lib.hid (hx.out.2 (hk9 hsm))
            clear hd hs hmore hk9
            rcases hg' with b1 | ⟨b1, b2⟩
            · go_wp2
              go_roundw
              case rel => exact ⟨k + 1, _, _, by rw [← hx.out.1], by rw [← hp.out], by go_num, by omega, HS, (Drawn0.refl _).step _⟩
              case measure => simp [intOf]; omega
            · omega
  · rw [if_neg hin] at h
    simp only [Prod.mk.injEq] at h
    obtain ⟨rfl, rfl, rfl⟩ := h
    have hin' : (a1 < 0) ∨ (0 ≤ a1 ∧ l0.length < a1) := by omega
    clear hin hB
    rcases hin' with b | ⟨b, b2⟩
    all_goals
      go_enter Try.func57, Try.ntmps57
      go_wp2
      go_ret3
      exact ⟨rfl, Drawn0.refl _⟩
end Go.Proofs.Ytjckjcekapkkjaa.P
