/- What Make makes: right, normal, and its result is the target. -/
import Derived.Test.YtjckjcekapkkjaaPx0
import Derived.Test.YtjckjcekapkkjaaHAtoms
import Derived.Test.YtjckjcekapkkjaaHChkOk
import Derived.Test.YtjckjcekapkkjaaHOps
import Derived.Test.YtjckjcekapkkjaaHWrAdd
namespace Go.Proofs.Ytjckjcekapkkjaa.P
open Go.RowKit Go.Proofs.YtjckjcekapkkjaaW.PrintWords Go.Proofs.YtjckjcekapkkjaaW.PrintLast Go.Proofs.YtjckjcekapkkjaaW.PrintMore
set_option linter.unusedVariables false
set_option linter.unusedSimpArgs false

theorem lcp_take : ∀ (x t : List Int), x.take (lcp x t) = t.take (lcp x t)
  | [], t => by simp [lcp]
  | z :: x, [] => by simp [lcp]
  | z :: x, y :: t => by
    rw [lcp]
    split
    · rename_i h
      rw [List.take_succ_cons, List.take_succ_cons, lcp_take x t, h]
    · simp
theorem lcp_len : ∀ (x t : List Int), lcp x t ≤ x.length ∧ lcp x t ≤ t.length
  | [], t => by simp [lcp]
  | z :: x, [] => by simp [lcp]
  | z :: x, y :: t => by
    rw [lcp]
    have := lcp_len x t
    split <;> simp <;> omega
def matchOk (a t : List Int) (m : Nat × Nat) : Prop := m.2 + m.1 ≤ a.length ∧ m.1 ≤ t.length ∧ (a.drop m.2).take m.1 = t.take m.1
theorem match_ok (a t : List Int) : ∀ (x : List Int) (s b f : Nat), x = a.drop s → s + x.length = a.length → matchOk a t (b, f) → matchOk a t (matchS t x s b f)
  | [], s, b, f, _, _, h => h
  | z :: x, s, b, f, hx, hl, h => by
    have hx2 : x = a.drop (s + 1) := by rw [← List.drop_drop, ← hx]; rfl
    simp only [List.length_cons] at hl
    rw [matchS]
    split
    · refine match_ok a t x (s + 1) _ s hx2 (by omega) ⟨?_, (lcp_len (z :: x) t).2, ?_⟩
      · have := (lcp_len (z :: x) t).1
        simp only [List.length_cons] at this ⊢
        omega
      · show (a.drop s).take (lcp (z :: x) t) = t.take (lcp (z :: x) t)
        rw [← hx]
        exact lcp_take _ _
    · exact match_ok a t x (s + 1) b f hx2 (by omega) h
theorem match_spec (a t : List Int) : matchOk a t (matchS t a 0 0 0) := match_ok a t a 0 0 0 (by simp) (by omega) ⟨by simp, by simp, by simp⟩
theorem applyS_add {base : List Int} {l : List Dop} {o : Dop} (h : okOps l) (ho : opCp o ∨ opLt o) : applyS base (addOp l o) = applyS base l ++ (opAtoms o).map (evA base) := by
  unfold applyS
  rw [addOp_atoms h ho, List.map_append]
theorem goodOps_add {n : Int} {l : List Dop} {o : Dop} (h : goodOps n l) (ho : goodOp n o) : goodOps n (addOp l o) := addOp_good h ho
structure MakeOk (a : List Int) (out : List Dop) : Prop where
  good : goodOps (a.length : Int) out
  norm : nrm out
theorem makeGo_ok (a : List Int) : ∀ (r : Nat) (out : List Dop) (t : List Int), t.length ≤ r → MakeOk a out → MakeOk a (makeGo a r out t) ∧ applyS a (makeGo a r out t) = applyS a out ++ t ∧ (makeGo a r out t).length ≤ out.length + t.length ∧ totS (makeGo a r out t) ≤ totS out + t.length
  | 0, out, t, ht, h => by
    obtain rfl : t = [] := List.length_eq_zero_iff.1 (by omega)
    exact ⟨h, by simp [makeGo], by simp [makeGo], by simp [makeGo]⟩
  | r + 1, out, [], ht, h => ⟨h, by simp [makeGo], by simp [makeGo], by simp [makeGo]⟩
  | r + 1, out, x :: t, ht, h => by
    rw [makeGo]
    obtain ⟨b, f, hm⟩ : ∃ b f, matchS (x :: t) a 0 0 0 = (b, f) := ⟨_, _, rfl⟩
    have hs := match_spec a (x :: t)
    rw [hm] at hs
    obtain ⟨m1, m2, m3⟩ := hs
    simp only at m1 m2 m3
    simp only [hm]
    have hk := goodOps.ok h.good
    split
    · rename_i h4
      have hg : goodOp (a.length : Int) ⟨(f : Int), (b : Int), []⟩ := .inl ⟨⟨by show (1 : Int) ≤ (b : Int); omega, rfl⟩, by show (0 : Int) ≤ (f : Int); omega, by show (f : Int) + (b : Int) ≤ _; omega⟩
      have hl : ((x :: t).drop b).length ≤ r := by rw [List.length_drop]; omega
      obtain ⟨q1, q2, q3, q4⟩ := makeGo_ok a r (addOp out ⟨(f : Int), (b : Int), []⟩) ((x :: t).drop b) hl ⟨goodOps_add h.good hg, addOp_nrm hk h.norm (good_kind hg)⟩
      have a1 := addOp_len out ⟨(f : Int), (b : Int), []⟩
      have a2 := addOp_tot hk (good_kind hg)
      refine ⟨q1, ?_, ?_, ?_⟩
      · rw [q2, applyS_add hk (good_kind hg), applyS_op a _ hg]
        rw [if_pos rfl]
        simp only [Int.toNat_natCast]
        rw [m3, List.append_assoc, List.take_append_drop]
      · rw [List.length_drop] at q3; simp only [List.length_cons] at *; omega
      · rw [List.length_drop] at q4; simp only [List.length_cons, List.length_nil] at *; omega
    · have hg : goodOp (a.length : Int) ⟨0, 0, [x]⟩ := .inr ⟨rfl, rfl, by simp⟩
      obtain ⟨q1, q2, q3, q4⟩ := makeGo_ok a r (addOp out ⟨0, 0, [x]⟩) t (by simp at ht; omega) ⟨goodOps_add h.good hg, addOp_nrm hk h.norm (good_kind hg)⟩
      have a1 := addOp_len out ⟨0, 0, [x]⟩
      have a2 := addOp_tot hk (good_kind hg)
      refine ⟨q1, ?_, ?_, ?_⟩
      · rw [q2, applyS_add hk (good_kind hg), applyS_op a _ hg]
        rw [if_neg (by simp), List.append_assoc]
        rfl
      · simp only [List.length_cons] at *; omega
      · simp only [List.length_cons, List.length_nil] at *; omega
theorem makeS_ok (a b : List Int) : MakeOk a (makeS a b) ∧ applyS a (makeS a b) = b ∧ (makeS a b).length ≤ b.length ∧ totS (makeS a b) ≤ b.length := by
  have := makeGo_ok a b.length [] b (Nat.le_refl _) ⟨(fun x hx => by cases hx), trivial⟩
  simpa [makeS, applyS, atoms_nil, totS] using this
theorem applyS_len {base : List Int} {l : List Dop} (h : okOps l) : ((applyS base l).length : Int) = sizeS l := by
  unfold applyS sizeS
  rw [List.length_map, atoms_len h]
end Go.Proofs.Ytjckjcekapkkjaa.P
