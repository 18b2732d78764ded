/- What the law's own made and size answer; what Compose answers on right deltas. -/
import Derived.Test.YtjckjcekapkkjaaPx0
import Derived.Test.YtjckjcekapkkjaaPx4
import Derived.Test.YtjckjcekapkkjaaHMap
import Derived.Test.YtjckjcekapkkjaaHRefUint
import Derived.Test.YtjckjcekapkkjaaHEncode
import Derived.Test.YtjckjcekapkkjaaHMake
import Derived.Test.YtjckjcekapkkjaaHMakeOk
import Derived.Test.YtjckjcekapkkjaaHOps
import Derived.Test.YtjckjcekapkkjaaHTape
import Derived.Test.YtjckjcekapkkjaaHWrAdd
namespace Go.Proofs.Ytjckjcekapkkjaa.P
open Go.RowKit Go.Proofs.YtjckjcekapkkjaaW.PrintWords Go.Proofs.YtjckjcekapkkjaaW.PrintLast Go.Proofs.YtjckjcekapkkjaaW.PrintMore
set_option linter.unusedVariables false
set_option linter.unusedSimpArgs false

def madeOp (n : Int) (o : Dop) : Prop := goodOp n o ∧ opLen o ≤ n + 4 ∧ o.f2.length ≤ 4 ∧ byB o.f2 = true
theorem made_l0 (L : List Int) (n : Int) (h0 : 0 ≤ n) (h1 : n ≤ 100000) : ∀ (d k : Nat) (l : List Dop) (x p : Int), 0 ≤ x → x ≤ d → d ≤ 8 → 10 + 4 * d < k → 0 ≤ p → p + 100 * d ≤ 600000000000 → goodOps n l → l.length + d ≤ 8 →
    ∃ m q, law26_made.l0 k n l x L p = some (l ++ m, q) ∧ p ≤ q ∧ q ≤ p + 10 * d ∧ m.length ≤ d ∧ ∀ o ∈ m, madeOp n o
  | d, k, l, x, p, hx0, hxd, hd, hk, hp, hp2, hg, hl => by
    obtain ⟨k, rfl⟩ : ∃ m, k = m + 1 := ⟨k - 1, by omega⟩
    rw [law26_made.l0]
    by_cases h : x > 0
    · obtain ⟨d, rfl⟩ : ∃ e, d = e + 1 := ⟨d - 1, by omega⟩
      rw [if_pos h]
      have put : ∀ (k' : Nat) (o : Dop) (p' : Int), 10 + 4 * d < k' → madeOp n o → p ≤ p' → p' ≤ p + 7 → ∃ m q, law26_made.l0 k' n (l ++ [o]) (wrap64 (x - 1)) L p' = some (l ++ m, q) ∧ p ≤ q ∧ q ≤ p + 10 * ((d + 1 : Nat) : Int) ∧ m.length ≤ d + 1 ∧ ∀ o ∈ m, madeOp n o := by
        intro k' o p' hk' ho q1 q2
        rw [wrap64_id (x := x - 1) (by omega) (by omega)]
        obtain ⟨m, q, e, r1, r2, r4, r5⟩ := made_l0 L n h0 h1 d k' (l ++ [o]) (x - 1) p' (by omega) (by omega) (by omega) hk' (by omega) (by omega)
          (fun y hy => (List.mem_append.1 hy).elim (hg y) (fun hy => by rw [List.mem_singleton.1 hy]; exact ho.1)) (by rw [List.length_append]; simp; omega)
        refine ⟨o :: m, q, by rw [e]; simp, by omega, by omega, by simp; omega, ?_⟩
        intro y hy
        rcases List.mem_cons.1 hy with rfl | hy
        · exact ho
        · exact r5 y hy
      have lit : ∀ (k' : Nat) (p' : Int), 10 + 4 * d + 1 < k' → p ≤ p' → p' ≤ p + 1 → ∃ m q, law26_made.j1 k' n l x true L p' = some (l ++ m, q) ∧ p ≤ q ∧ q ≤ p + 10 * ((d + 1 : Nat) : Int) ∧ m.length ≤ d + 1 ∧ ∀ o ∈ m, madeOp n o := by
        intro k' p' hk' q1 q2
        obtain ⟨k', rfl⟩ : ∃ m, k' = m + 1 := ⟨k' - 1, by omega⟩
        rw [law26_made.j1, if_pos rfl]
        obtain ⟨r, e, r0, r1, _⟩ := next_ok L p' 4 (by omega) (by omega) (by omega)
        have r1 := r1 (by omega)
        rw [e]
        simp only [Option.bind_some]
        rw [wrap64_id (x := 1 + r) (by omega) (by omega)]
        obtain ⟨bs, e2, b1, b2⟩ := bytes_ok L (p' + 1) (1 + r) 3 (by omega) (by omega) (by omega) (by omega) (by omega) k' (by omega)
        rw [e2]
        simp only [Option.bind_some]
        rw [if_pos (by omega)]
        refine put k' ⟨0, 0, bs⟩ _ (by omega) ⟨.inr ⟨rfl, rfl, fun hh => ?_⟩, ?_, by simp only; omega, b2⟩ (by omega) (by omega)
        · simp only at hh
          rw [hh] at b1
          simp at b1
          omega
        · simp only [opLen]; omega
      have fin : ∀ (k' : Nat) (p' f g : Int), 10 + 4 * d + 1 < k' → 0 ≤ f → f < n → p ≤ p' → p' ≤ p + 4 → ∃ m q, law26_made.j3 k' n l x L p' f g = some (l ++ m, q) ∧ p ≤ q ∧ q ≤ p + 10 * ((d + 1 : Nat) : Int) ∧ m.length ≤ d + 1 ∧ ∀ o ∈ m, madeOp n o := by
        intro k' p' f g hk' f0 f1 q1 q2
        obtain ⟨k', rfl⟩ : ∃ m, k' = m + 1 := ⟨k' - 1, by omega⟩
        rw [law26_made.j3, wrap64_id (x := n - f) (by omega) (by omega)]
        obtain ⟨r, e, r0, r1, r2⟩ := next_ok L p' (n - f) (by omega) (by omega) (by omega)
        have hr : r < n - f := by
          by_cases hh : 1 < n - f
          · exact r1 hh
          · have := r2 (by omega); omega
        rw [e]
        simp only [Option.bind_some]
        rw [if_pos (by omega), wrap64_id (x := 1 + r) (by omega) (by omega)]
        exact put k' ⟨f, 1 + r, []⟩ _ (by omega) ⟨.inl ⟨⟨by simp only; omega, rfl⟩, by simp only; omega, by simp only; omega⟩, by simp [opLen]; omega, by simp, rfl⟩ (by omega) (by omega)
      have cp : ∀ (k' : Nat) (p' : Int), 10 + 4 * d + 3 < k' → 0 < n → p ≤ p' → p' ≤ p + 1 → ∃ m q, law26_made.j1 k' n l x false L p' = some (l ++ m, q) ∧ p ≤ q ∧ q ≤ p + 10 * ((d + 1 : Nat) : Int) ∧ m.length ≤ d + 1 ∧ ∀ o ∈ m, madeOp n o := by
        intro k' p' hk' hn q1 q2
        obtain ⟨k', rfl⟩ : ∃ m, k' = m + 2 := ⟨k' - 2, by omega⟩
        rw [law26_made.j1, if_neg (by simp)]
        obtain ⟨f, e, f0, f1, f2⟩ := next_ok L p' n (by omega) (by omega) (by omega)
        have hf : f < n := by
          by_cases hh : 1 < n
          · exact f1 hh
          · have := f2 (by omega); omega
        rw [e]
        simp only [Option.bind_some]
        rw [wrap64_id (x := (l.length : Int) - 1) (by omega) (by omega)]
        have plain : ∀ (p'' : Int), p ≤ p'' → p'' ≤ p + 4 → ∃ m q, law26_made.j2 (k' + 1) n l x ((l.length : Int) - 1) false L p'' f 0 = some (l ++ m, q) ∧ p ≤ q ∧ q ≤ p + 10 * ((d + 1 : Nat) : Int) ∧ m.length ≤ d + 1 ∧ ∀ o ∈ m, madeOp n o := by
          intro p'' s1 s2
          rw [law26_made.j2, if_neg (by simp)]
          exact fin k' p'' f 0 (by omega) f0 hf s1 s2
        by_cases hl0 : (l.length : Int) - 1 ≥ 0
        · rw [if_pos hl0, if_pos (by omega), if_pos (by omega)]
          obtain ⟨j, hj⟩ : ∃ j : Nat, (l.length : Int) - 1 = j := ⟨l.length - 1, by omega⟩
          have hjl : j < l.length := by omega
          rw [hj] at plain ⊢
          rw [rd_ops j hjl]
          have hgo := hg _ (List.getElem_mem hjl)
          have hb : 0 ≤ l[j].f0 ∧ 0 ≤ l[j].f1 ∧ l[j].f0 + l[j].f1 ≤ n := by
            rcases hgo with ⟨⟨a, _⟩, b, c⟩ | ⟨a, b, _⟩ <;> omega
          have hrd := rd_ops j hjl
          generalize l[j] = o at *
          rw [wrap64_id (x := o.f0 + o.f1) (by omega) (by omega)]
          by_cases c1 : o.f1 > 0
          · rw [if_pos c1]
            by_cases c2 : o.f0 + o.f1 < n
            · rw [if_pos c2]
              obtain ⟨y, ey, y0, y1, _⟩ := next_ok L (p' + 1) 2 (by omega) (by omega) (by omega)
              rw [ey]
              simp only [Option.bind_some]
              by_cases c3 : (y == 0) = true
              · rw [c3, law26_made.j2, if_pos rfl, if_pos (by omega), if_pos (by omega), hrd, wrap64_id (x := o.f0 + o.f1) (by omega) (by omega)]
                exact fin k' _ _ 0 (by omega) (by omega) c2 (by omega) (by omega)
              · rw [Bool.not_eq_true] at c3
                rw [c3]
                exact plain _ (by omega) (by omega)
            · rw [if_neg c2]
              exact plain _ (by omega) (by omega)
          · rw [if_neg c1]
            exact plain _ (by omega) (by omega)
        · rw [if_neg hl0]
          exact plain _ (by omega) (by omega)
      by_cases hn : n = 0
      · rw [if_pos hn]
        exact lit k p (by omega) (by omega) (by omega)
      · rw [if_neg hn]
        obtain ⟨y, ey, y0, y1, _⟩ := next_ok L p 2 (by omega) (by omega) (by omega)
        rw [ey]
        simp only [Option.bind_some]
        by_cases c3 : (y == 0) = true
        · rw [c3]
          exact lit k _ (by omega) (by omega) (by omega)
        · rw [Bool.not_eq_true] at c3
          rw [c3]
          exact cp k _ (by omega) (by omega) (by omega) (by omega)
    · rw [if_neg h]
      exact ⟨[], p, by simp, by omega, by omega, by simp, fun o ho => by cases ho⟩
theorem made_size {n : Int} (h0 : 0 ≤ n) : ∀ {l : List Dop}, (∀ o ∈ l, madeOp n o) → 0 ≤ sizeS l ∧ sizeS l ≤ (n + 4) * l.length ∧ totS l ≤ 4 * l.length
  | [], _ => by simp [sizeS, totS]
  | o :: l, h => by
    obtain ⟨q1, q2, q3⟩ := made_size h0 (l := l) (fun x hx => h x (by simp [hx]))
    obtain ⟨g1, g2, g3, g4⟩ := h o (by simp)
    have := opLen_good g1
    have e : sizeS (o :: l) = opLen o + sizeS l := by simp [sizeS]
    have e2 : totS (o :: l) = o.f2.length + totS l := by simp [totS]
    have e3 : (n + 4) * ((o :: l).length : Int) = (n + 4) * (l.length : Int) + (n + 4) := by rw [List.length_cons]; push_cast; rw [Int.mul_add, Int.mul_one]
    rw [e, e2, e3]
    simp only [List.length_cons]
    omega
theorem made_ok (L : List Int) (p n : Int) (h0 : 0 ≤ n) (h1 : n ≤ 100000) (hp : 0 ≤ p) (hp2 : p ≤ 500000000000) (k : Nat) (hk : 50 < k) : ∃ l q, law26_made.f k L p n = some (l, q) ∧ p ≤ q ∧ q ≤ p + 100 ∧ l.length ≤ 7 ∧ (∀ o ∈ l, madeOp n o) ∧ goodOps n l ∧ 0 ≤ sizeS l ∧ sizeS l ≤ 7 * (n + 4) ∧ totS l ≤ 28 ∧ opsB l = true := by
  unfold law26_made.f
  obtain ⟨r, e, r0, r1, _⟩ := next_ok L p 8 (by omega) (by omega) (by omega)
  have r1 := r1 (by omega)
  rw [e]
  simp only [Option.bind_some]
  obtain ⟨m, q, e2, q1, q2, q3, q4⟩ := made_l0 L n h0 h1 7 k [] r (p + 1) r0 (by omega) (by omega) (by omega) (by omega) (by omega) (fun o ho => by cases ho) (by simp)
  obtain ⟨s1, s2, s3⟩ := made_size h0 q4
  have hg : goodOps n m := fun o ho => (q4 o ho).1
  have hs : sizeS m ≤ 7 * (n + 4) := by
    have := Int.mul_le_mul_of_nonneg_left (show (m.length : Int) ≤ 7 by omega) (show 0 ≤ n + 4 by omega)
    omega
  refine ⟨m, q, by rw [e2]; rfl, by omega, by omega, q3, q4, hg, s1, hs, by omega, opsB_good hg (by omega) (by omega) (fun o ho => ?_)⟩
  have := (q4 o ho).2.1
  have e : opLen o = o.f1 + (o.f2.length : Int) := rfl
  omega
end Go.Proofs.Ytjckjcekapkkjaa.P
