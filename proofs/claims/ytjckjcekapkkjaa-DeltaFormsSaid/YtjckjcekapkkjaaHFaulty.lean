/- What law26_faulty makes: a delta of at most seven small ops, right or not. -/
import Derived.Test.YtjckjcekapkkjaaPx0
import Derived.Test.YtjckjcekapkkjaaPx5
import Derived.Test.YtjckjcekapkkjaaHRefUint
import Derived.Test.YtjckjcekapkkjaaHEncode
import Derived.Test.YtjckjcekapkkjaaHMadeLaw
import Derived.Test.YtjckjcekapkkjaaHMake
import Derived.Test.YtjckjcekapkkjaaHOps
import Derived.Test.YtjckjcekapkkjaaHTape
namespace Go.Proofs.Ytjckjcekapkkjaa.P
open Go.RowKit Go.Proofs.YtjckjcekapkkjaaW.PrintWords Go.Proofs.YtjckjcekapkkjaaW.PrintLast Go.Proofs.YtjckjcekapkkjaaW.PrintMore
set_option linter.unusedVariables false
set_option linter.unusedSimpArgs false

def fltOp (n : Int) (o : Dop) : Prop := -4 ≤ o.f0 ∧ o.f0 ≤ n + 4 ∧ -4 ≤ o.f1 ∧ o.f1 ≤ n + 4 ∧ o.f2.length ≤ 4 ∧ byB o.f2 = true
theorem flt_made {n : Int} (h0 : 0 ≤ n) {o : Dop} (h : madeOp n o) : fltOp n o := by
  obtain ⟨g, h1, h2, h3⟩ := h
  have e : opLen o = o.f1 + (o.f2.length : Int) := rfl
  rcases g with ⟨⟨a1, a2⟩, a3, a4⟩ | ⟨a1, a2, a3⟩
  · exact ⟨by omega, by omega, by omega, by omega, h2, h3⟩
  · exact ⟨by omega, by omega, by omega, by omega, h2, h3⟩
theorem flt_opsB {n : Int} (h1 : n ≤ 100000) {l : List Dop} (h : ∀ o ∈ l, fltOp n o) : opsB l = true := by
  unfold opsB
  rw [List.all_eq_true]
  intro o ho
  obtain ⟨a, b, c, d, e, _⟩ := h o ho
  simp [Lit.wf, IntKind.min, IntKind.max, IntKind.signed, IntKind.bits]
  omega
theorem flt_set {n : Int} {l : List Dop} (h : ∀ o ∈ l, fltOp n o) (i : Nat) {x : Dop} (hx : fltOp n x) : ∀ o ∈ l.set i x, fltOp n o := by
  intro o ho
  rcases List.mem_or_eq_of_mem_set ho with h1 | rfl
  · exact h o h1
  · exact hx
theorem faulty_ok (L : List Int) (p n : Int) (h0 : 0 ≤ n) (h1 : n ≤ 100000) (hp : 0 ≤ p) (hp2 : p ≤ 400000000000) (k : Nat) (hk : 50 < k) : ∃ l q, law26_faulty.f k L p n = some (l, q) ∧ p ≤ q ∧ q ≤ p + 200 ∧ l.length ≤ 7 ∧ (∀ o ∈ l, fltOp n o) := by
  unfold law26_faulty.f
  obtain ⟨l, q, e, q0, q1, ql, qm, _⟩ := made_ok L p n h0 h1 hp (by omega) k hk
  have hf : ∀ o ∈ l, fltOp n o := fun o ho => flt_made h0 (qm o ho)
  rw [e]
  simp only [Option.bind_some]
  by_cases hl : (l.length : Int) = 0
  · rw [if_pos hl]
    exact ⟨l, q, rfl, q0, by omega, ql, hf⟩
  · rw [if_neg hl]
    obtain ⟨i, ei, i0, i1, i2⟩ := next_ok L q (l.length : Int) (by omega) (by omega) (by omega)
    have il : i < (l.length : Int) := by
      by_cases h : 1 < (l.length : Int)
      · exact i1 h
      · have := i2 (by omega)
        omega
    rw [ei]
    simp only [Option.bind_some]
    obtain ⟨c, ec, c0, c1, c2⟩ := next_ok L (q + 1) 8 (by omega) (by omega) (by omega)
    rw [ec]
    simp only [Option.bind_some]
    obtain ⟨j, rfl⟩ : ∃ j : Nat, i = j := ⟨i.toNat, by omega⟩
    have hj : j < l.length := by omega
    have hrd := rd_ops j hj
    have hfj := hf _ (List.getElem_mem hj)
    rw [hrd]
    generalize l[j] = o at *
    obtain ⟨a1, a2, a3, a4, a5, a6⟩ := hfj
    have fin : ∀ (x : Dop) (q' : Int), fltOp n x → q ≤ q' → q' ≤ q + 50 → ∃ l' q'', (some (l.set ((j : Int)).toNat x, q') : Option (List Dop × Int)) = some (l', q'') ∧ p ≤ q'' ∧ q'' ≤ p + 200 ∧ l'.length ≤ 7 ∧ ∀ o ∈ l', fltOp n o := fun x q' hx w1 w2 => ⟨_, q', rfl, by omega, by omega, by rw [List.length_set]; exact ql, flt_set hf _ hx⟩
    by_cases k0 : c = 0
    · rw [if_pos k0, if_pos (by omega), if_pos il]
      exact fin _ _ ⟨by simp, by simp; omega, by simp, by simp; omega, by simp, by rfl⟩ (by omega) (by omega)
    rw [if_neg k0]
    by_cases k1 : c = 1
    · rw [if_pos k1, if_pos (by omega), if_pos il]
      exact fin _ _ ⟨by simp, by simp; omega, by simp, by simp; omega, by simp, by rfl⟩ (by omega) (by omega)
    rw [if_neg k1]
    by_cases k2 : c = 2
    · rw [if_pos k2]
      obtain ⟨u, eu, u0, u1, u2⟩ := next_ok L (q + 1 + 1) 3 (by omega) (by omega) (by omega)
      have u1 := u1 (by omega)
      rw [eu]
      simp only [Option.bind_some]
      obtain ⟨v, ev, v0, v1, v2⟩ := next_ok L (q + 1 + 1 + 1) 3 (by omega) (by omega) (by omega)
      have v1 := v1 (by omega)
      rw [ev]
      simp only [Option.bind_some]
      rw [if_pos (by omega), if_pos il, wrap64_id (x := n - u) (by omega) (by omega), wrap64_id (x := n - u + 1) (by omega) (by omega)]
      exact fin _ _ ⟨by simp only; omega, by simp only; omega, by simp only; omega, by simp only; omega, by simp, by rfl⟩ (by omega) (by omega)
    rw [if_neg k2]
    by_cases k3 : c = 3
    · rw [if_pos k3, if_pos (by omega), if_pos il]
      exact fin _ _ ⟨by simp, by simp only; omega, a3, a4, a5, a6⟩ (by omega) (by omega)
    rw [if_neg k3]
    by_cases k4 : c = 4
    · rw [if_pos k4, if_pos (by omega), if_pos il]
      exact fin _ _ ⟨a1, a2, by simp, by simp only; omega, a5, a6⟩ (by omega) (by omega)
    rw [if_neg k4]
    exact ⟨l, _, rfl, by omega, by omega, ql, hf⟩
end Go.Proofs.Ytjckjcekapkkjaa.P
