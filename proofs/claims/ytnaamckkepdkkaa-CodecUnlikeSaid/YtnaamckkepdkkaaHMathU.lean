/- Encodings of numbers: what was encoded is decoded, what is decoded is an encoding, unlike numbers have unlike encodings. -/
import Derived.Test.YtnaamckkepdkkaaPx0
import Derived.Test.YtnaamckkepdkkaaHPutUint
import Derived.Test.YtnaamckkepdkkaaHUint
import Derived.Laws.BitsAllLaws
namespace Go.Proofs.Ytnaamckkepdkkaa.P
open Go.RowKit Go.Proofs.YtnaamckkepdkkaaW.PrintWords Go.Proofs.YtnaamckkepdkkaaW.PrintLast Go.Proofs.YtnaamckkepdkkaaW.PrintMore
set_option linter.unusedVariables false
set_option linter.unusedSimpArgs false

theorem pow128 (i : Nat) : (128 : Nat) ^ (i + 1) = 128 ^ i * 128 := Nat.pow_succ ..
/-- What was encoded is decoded, whatever stands behind it. -/
theorem dec_enc {a : Int} {rest : List Int} (b : Nat) : ∀ {n i v : Nat}, n < b → (0 < i → 0 < n) → n * 128 ^ i < 2 ^ 64 →
    decGo a i v (encU n ++ rest) = (((v + n * 128 ^ i : Nat) : Int), a + i + (encU n).length, 0) := by
  induction b with
  | zero => intro n i v h; omega
  | succ b ih =>
    intro n i v hb hp hl
    have hi9 : 0 < n → i ≤ 9 := fun hn => by
      refine Classical.byContradiction fun h => ?_
      have h1 : (128 : Nat) ^ 10 ≤ 128 ^ i := Nat.pow_le_pow_right (by decide) (by omega)
      have h2 : 1 * 128 ^ 10 ≤ n * 128 ^ i := Nat.mul_le_mul hn h1
      have : (2 : Nat) ^ 64 < 1 * 128 ^ 10 := by decide
      omega
    have hn9 : i = 9 → n ≤ 1 := fun hi => by
      subst hi
      have e9 : (128 : Nat) ^ 9 = 9223372036854775808 := by decide
      have e64 : (2 : Nat) ^ 64 = 18446744073709551616 := by decide
      rw [e9, e64] at hl
      omega
    by_cases hs : n < 128
    · rw [encU_small hs, List.singleton_append, decGo, if_neg (by omega), if_pos (by omega)]
      rw [show (n : Int).toNat % 128 = n by omega]
      simp
    · rw [encU_big hs, List.cons_append, decGo, if_neg (by omega), if_neg (by omega)]
      have e1 : (((n % 128 + 128 : Nat) : Int)).toNat % 128 = n % 128 := by omega
      rw [e1]
      have e2 : n = n / 128 * 128 + n % 128 := by omega
      have hl2 : n / 128 * 128 ^ (i + 1) < 2 ^ 64 := by
        rw [pow128, ← Nat.mul_assoc, Nat.mul_right_comm]
        exact Nat.lt_of_le_of_lt (Nat.mul_le_mul_right _ (by omega)) hl
      rw [ih (n := n / 128) (by omega) (fun _ => by omega) hl2]
      simp only [List.length_cons, Prod.mk.injEq, and_true]
      constructor
      · congr 1
        have e3 : n * 128 ^ i = n / 128 * (128 ^ i * 128) + n % 128 * 128 ^ i := by
          conv => lhs; rw [e2]
          rw [Nat.add_mul, Nat.mul_assoc, Nat.mul_comm 128]
        rw [pow128, e3]
        omega
      · omega
theorem dec_enc0 {a : Int} {n : Nat} (rest : List Int) (h : n < 2 ^ 64) : decGo a 0 0 (encU n ++ rest) = ((n : Int), a + (encU n).length, 0) := by
  rw [dec_enc (n + 1) (by omega) (by omega) (by simpa using h)]
  simp
/-- What is decoded is the encoding of what comes out. -/
theorem dec_of {a : Int} {l : List Int} (hB : byteB l = true) : ∀ {i v : Nat} {n next : Int}, decGo a i v l = (n, next, 0) →
    ∃ m : Nat, n = ((v + m * 128 ^ i : Nat) : Int) ∧ next = a + i + (encU m).length ∧ (∃ tl, l = encU m ++ tl) ∧ (0 < i → 0 < m) := by
  induction l with
  | nil => intro i v n next h; simp [decGo] at h
  | cons c cs ih =>
    intro i v n next h
    have hc : 0 ≤ c ∧ c < 256 := by have := List.all_eq_true.1 hB c List.mem_cons_self; simpa using this
    have hcs : byteB cs = true := List.all_eq_true.2 fun x hx => List.all_eq_true.1 hB x (List.mem_cons_of_mem _ hx)
    rw [decGo] at h
    by_cases hb : (0 < i ∧ c = 0) ∨ (i = 9 ∧ c ≠ 1)
    · rw [if_pos hb] at h; simp at h
    · rw [if_neg hb] at h
      by_cases hs : c < 128
      · rw [if_pos hs] at h
        simp only [Prod.mk.injEq, and_true] at h
        obtain ⟨rfl, rfl⟩ := h
        refine ⟨c.toNat, ?_, ?_, ⟨cs, ?_⟩, by omega⟩
        · rw [show c.toNat % 128 = c.toNat by omega]
        · rw [encU_small (by omega)]; simp
        · rw [encU_small (by omega), List.singleton_append, show ((c.toNat : Nat) : Int) = c by omega]
      · rw [if_neg hs] at h
        obtain ⟨m, h1, h2, ⟨tl, h3⟩, h4⟩ := ih hcs h
        have hm : 0 < m := h4 (by omega)
        have e1 : (m * 128 + c.toNat % 128) / 128 = m := by omega
        have e2 : (m * 128 + c.toNat % 128) % 128 = c.toNat % 128 := by omega
        have e3 : encU (m * 128 + c.toNat % 128) = c :: encU m := by
          rw [encU_big (by omega), e1, e2, show ((c.toNat % 128 + 128 : Nat) : Int) = c by omega]
        refine ⟨m * 128 + c.toNat % 128, ?_, ?_, ⟨tl, ?_⟩, by omega⟩
        · rw [h1, pow128]
          congr 1
          rw [Nat.add_mul, Nat.mul_assoc, Nat.mul_comm 128]
          omega
        · rw [h2, e3]; simp; omega
        · rw [e3, h3]; rfl
/-- Unlike numbers have unlike encodings, none the beginning of the other. -/
theorem encU_inj {x y : List Int} : ∀ {n m : Nat}, encU n ++ x = encU m ++ y → n < 2 ^ 64 → m < 2 ^ 64 → n = m := by
  intro n m h hn hm
  have h1 := dec_enc0 (a := 0) x hn
  have h2 := dec_enc0 (a := 0) y hm
  rw [h, h2] at h1
  simp only [Prod.mk.injEq] at h1
  omega
theorem encU_byte (b : Nat) : ∀ {n : Nat}, n < b → byteB (encU n) = true := by
  induction b with
  | zero => intro n h; omega
  | succ b ih =>
    intro n h
    by_cases hs : n < 128
    · rw [encU_small hs]; simp [byteB]; omega
    · rw [encU_big hs]
      have := ih (n := n / 128) (by omega)
      simp only [byteB, List.all_cons, Bool.and_eq_true] at this ⊢
      exact ⟨by simp; omega, this⟩
theorem encU_bytes (n : Nat) : byteB (encU n) = true := encU_byte (n + 1) (by omega)
theorem encU_mono (b : Nat) : ∀ {n m : Nat}, m < b → n ≤ m → (encU n).length ≤ (encU m).length := by
  induction b with
  | zero => intro n m h; omega
  | succ b ih =>
    intro n m h hnm
    by_cases hs : n < 128
    · rw [encU_small hs]; exact encU_pos m
    · rw [encU_big hs, encU_big (v := m) (by omega), List.length_cons, List.length_cons]
      have := ih (n := n / 128) (m := m / 128) (by omega) (by omega)
      omega
theorem byteB_append {l m : List Int} (h1 : byteB l = true) (h2 : byteB m = true) : byteB (l ++ m) = true := by
  unfold byteB at *
  rw [List.all_append, h1, h2]; rfl
theorem byteB_of {l : List Int} (h : ∀ x ∈ l, (Lit.int .u8 x).wf = true) : byteB l = true := by
  refine List.all_eq_true.2 fun x hx => ?_
  have := h x hx
  simp [Lit.wf, IntKind.min, IntKind.max, IntKind.signed, IntKind.bits] at this
  simpa using ⟨this.1, by omega⟩
theorem putU {l : List Int} {n : Nat} (hl : l.length < 140737488355000) (h : n < 2 ^ 64) : codec_PutUint.f l (n : Int) = some (l ++ encU n) := by
  unfold codec_PutUint.f
  rw [if_pos ⟨hl, by omega, by simpa using h⟩]
  simp
theorem takeU {l : List Int} {a : Int} (hB : byteB l = true) (h0 : 0 ≤ a) (h1 : a ≤ l.length) : codec_Uint.f l a = some (decGo a 0 0 (l.drop a.toNat)) := by
  unfold codec_Uint.f
  rw [if_pos hB, if_pos ⟨h0, h1⟩]
/-- A number that stands behind some bytes is found there. -/
theorem takeU_at {l rest : List Int} {n : Nat} (h1 : byteB l = true) (h2 : byteB rest = true) (h : n < 2 ^ 64) : codec_Uint.f (l ++ (encU n ++ rest)) (l.length : Int) = some ((n : Int), (l.length : Int) + (encU n).length, 0) := by
  rw [takeU (byteB_append h1 (byteB_append (encU_bytes n) h2)) (by omega) (by simp; omega)]
  rw [Int.toNat_natCast, List.drop_left, dec_enc0 rest h]
end Go.Proofs.Ytnaamckkepdkkaa.P
