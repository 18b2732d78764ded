/- Encodings of numbers: what was encoded is decoded, what is decoded is an encoding, unlike numbers have unlike encodings. -/
import Derived.Test.YtjckjcekapkkjaaPx0
import Derived.Test.YtjckjcekapkkjaaHPutUint
import Derived.Test.YtjckjcekapkkjaaHUint
import Derived.Laws.BitsAllLaws
namespace Go.Proofs.Ytjckjcekapkkjaa.P
open Go.RowKit Go.Proofs.YtjckjcekapkkjaaW.PrintWords Go.Proofs.YtjckjcekapkkjaaW.PrintLast Go.Proofs.YtjckjcekapkkjaaW.PrintMore
set_option linter.unusedVariables false
set_option linter.unusedSimpArgs false

theorem pow128 (i : Nat) : (128 : Nat) ^ (i + 1) = 128 ^ i * 128 := Nat.pow_succ ..
/-- What is decoded is the encoding of what comes out. -/
theorem dec_of {a : Int} {l : List Int} (hB : byteB l = true) : ∀ {i v : Nat} {n next : Int}, decGo a i v l = (n, next, 0) →
    ∃ m : Nat, n = ((v + m * 128 ^ i : Nat) : Int) ∧ next = a + i + (encU m).length ∧ (∃ tl, l = encU m ++ tl) ∧ (0 < i → 0 < m) := by
  induction l with
  | nil => intro i v n next h; simp [decGo] at h
  | cons c cs ih =>
    intro i v n next h
    have hc : 0 ≤ c ∧ c < 256 := by have := List.all_eq_true.1 hB c List.mem_cons_self; simpa using this
    have hcs : byteB cs = true := List.all_eq_true.2 fun x hx => List.all_eq_true.1 hB x (List.mem_cons_of_mem _ hx)
    rw [decGo] at h
    by_cases hb : (0 < i ∧ c = 0) ∨ (i = 9 ∧ c ≠ 1)
    · rw [if_pos hb] at h; simp at h
    · rw [if_neg hb] at h
      by_cases hs : c < 128
      · rw [if_pos hs] at h
        simp only [Prod.mk.injEq, and_true] at h
        obtain ⟨rfl, rfl⟩ := h
        refine ⟨c.toNat, ?_, ?_, ⟨cs, ?_⟩, by omega⟩
        · rw [show c.toNat % 128 = c.toNat by omega]
        · rw [encU_small (by omega)]; simp
        · rw [encU_small (by omega), List.singleton_append, show ((c.toNat : Nat) : Int) = c by omega]
      · rw [if_neg hs] at h
        obtain ⟨m, h1, h2, ⟨tl, h3⟩, h4⟩ := ih hcs h
        have hm : 0 < m := h4 (by omega)
        have e1 : (m * 128 + c.toNat % 128) / 128 = m := by omega
        have e2 : (m * 128 + c.toNat % 128) % 128 = c.toNat % 128 := by omega
        have e3 : encU (m * 128 + c.toNat % 128) = c :: encU m := by
          rw [encU_big (by omega), e1, e2, show ((c.toNat % 128 + 128 : Nat) : Int) = c by omega]
        refine ⟨m * 128 + c.toNat % 128, ?_, ?_, ⟨tl, ?_⟩, by omega⟩
        · rw [h1, pow128]
          congr 1
          rw [Nat.add_mul, Nat.mul_assoc, Nat.mul_comm 128]
          omega
        · rw [h2, e3]; simp; omega
        · rw [e3, h3]; rfl
theorem encU_byte (b : Nat) : ∀ {n : Nat}, n < b → byteB (encU n) = true := by
  induction b with
  | zero => intro n h; omega
  | succ b ih =>
    intro n h
    by_cases hs : n < 128
    · rw [encU_small hs]; simp [byteB]; omega
    · rw [encU_big hs]
      have := ih (n := n / 128) (by omega)
      simp only [byteB, List.all_cons, Bool.and_eq_true] at this ⊢
      exact ⟨by simp; omega, this⟩
theorem encU_bytes (n : Nat) : byteB (encU n) = true := encU_byte (n + 1) (by omega)
theorem byteB_append {l m : List Int} (h1 : byteB l = true) (h2 : byteB m = true) : byteB (l ++ m) = true := by
  unfold byteB at *
  rw [List.all_append, h1, h2]; rfl
theorem byteB_of {l : List Int} (h : ∀ x ∈ l, (Lit.int .u8 x).wf = true) : byteB l = true := by
  refine List.all_eq_true.2 fun x hx => ?_
  have := h x hx
  simp [Lit.wf, IntKind.min, IntKind.max, IntKind.signed, IntKind.bits] at this
  simpa using ⟨this.1, by omega⟩
theorem takeU {l : List Int} {a : Int} (hB : byteB l = true) (h0 : 0 ≤ a) (h1 : a ≤ l.length) : codec_Uint.f l a = some (decGo a 0 0 (l.drop a.toNat)) := by
  unfold codec_Uint.f
  rw [if_pos hB, if_pos ⟨h0, h1⟩]
end Go.Proofs.Ytjckjcekapkkjaa.P
