/- At a literal byte of Make's delta no string of four bytes of the base stands; Contains answers so. -/
import Derived.Test.YtjckjcekapkkjaaPx0
import Derived.Test.YtjckjcekapkkjaaHAtoms
import Derived.Test.YtjckjcekapkkjaaHByB
import Derived.Test.YtjckjcekapkkjaaHContains
import Derived.Test.YtjckjcekapkkjaaHMake
import Derived.Test.YtjckjcekapkkjaaHMakeOk
import Derived.Test.YtjckjcekapkkjaaHOps
import Derived.Lib.IndexMore
import Derived.Laws.BytesArg
namespace Go.Proofs.Ytjckjcekapkkjaa.P
open Go.RowKit Go.Proofs.YtjckjcekapkkjaaW.PrintWords Go.Proofs.YtjckjcekapkkjaaW.PrintLast Go.Proofs.YtjckjcekapkkjaaW.PrintMore
set_option linter.unusedVariables false
set_option linter.unusedSimpArgs false

def noMatch (a t : List Int) : Prop := ∀ s : Nat, lcp (a.drop s) t < 4
theorem lcp_nil (t : List Int) : lcp [] t = 0 := by unfold lcp; rfl
theorem match_max (t : List Int) : ∀ (x : List Int) (s b f : Nat), b ≤ (matchS t x s b f).1 ∧ ∀ j, lcp (x.drop j) t ≤ (matchS t x s b f).1
  | [], s, b, f => by
    rw [matchS]
    exact ⟨Nat.le_refl _, fun j => by rw [List.drop_nil, lcp_nil]; omega⟩
  | y :: x, s, b, f => by
    rw [matchS]
    split
    · rename_i h
      obtain ⟨h1, h2⟩ := match_max t x (s + 1) (lcp (y :: x) t) s
      refine ⟨by omega, fun j => ?_⟩
      rcases j with _ | j
      · exact h1
      · exact h2 j
    · rename_i h
      obtain ⟨h1, h2⟩ := match_max t x (s + 1) b f
      refine ⟨h1, fun j => ?_⟩
      rcases j with _ | j
      · rw [List.drop_zero]; omega
      · exact h2 j
theorem makeGo_lit (a b : List Int) : ∀ (r : Nat) (out : List Dop) (t : List Int), t.length ≤ r → okOps out → (∃ pre, b = pre ++ t ∧ pre.length = (atoms out).length) → (∀ p v, (atoms out)[p]? = some (.lit v) → noMatch a (b.drop p)) →
    ∀ p v, (atoms (makeGo a r out t))[p]? = some (.lit v) → noMatch a (b.drop p)
  | 0, out, t, ht, ho, hb, hQ => by simpa [makeGo] using hQ
  | r + 1, out, [], ht, ho, hb, hQ => by simpa [makeGo] using hQ
  | r + 1, out, x :: t, ht, ho, ⟨pre, hb, hp⟩, hQ => by
    have hspec := match_spec a (x :: t)
    have hmax := match_max (x :: t) a 0 0 0
    rw [makeGo]
    obtain ⟨m, f, hm⟩ : ∃ m f, matchS (x :: t) a 0 0 0 = (m, f) := ⟨_, _, rfl⟩
    rw [hm] at hspec hmax
    simp only [hm]
    obtain ⟨m1, m2, m3⟩ := hspec
    simp only at m1 m2 m3 hmax
    split
    · rename_i h4
      have hk : opCp (⟨(f : Int), (m : Int), []⟩ : Dop) := ⟨by simp only; omega, rfl⟩
      have hA := addOp_atoms ho (.inl hk : opCp (⟨(f : Int), (m : Int), []⟩ : Dop) ∨ opLt _)
      have hml : m ≤ (x :: t).length := by
        have := lcp_len (a.drop f) (x :: t)
        first | omega | (have := m2; omega) | (have := m3; omega)
      refine makeGo_lit a b r _ _ (by rw [List.length_drop]; simp only [List.length_cons] at ht ⊢; omega) (addOp_ok ho (.inl hk)) ⟨pre ++ (x :: t).take m, ?_, ?_⟩ ?_
      · rw [List.append_assoc, List.take_append_drop, hb]
      · rw [hA, opAtoms_cp]
        simp only [List.length_append, List.length_map, List.length_range, List.length_take, hp]
        omega
      · intro p v hpv
        rw [hA, opAtoms_cp] at hpv
        by_cases hlt : p < (atoms out).length
        · rw [List.getElem?_append_left hlt] at hpv
          exact hQ p v hpv
        · rw [List.getElem?_append_right (by omega), List.getElem?_map] at hpv
          obtain ⟨q, _, hq⟩ := Option.map_eq_some_iff.1 hpv
          cases hq
    · rename_i h4
      have hk : opLt (⟨0, 0, [x]⟩ : Dop) := ⟨rfl, rfl, by simp⟩
      have hA := addOp_atoms ho (.inr hk : opCp (⟨0, 0, [x]⟩ : Dop) ∨ opLt _)
      refine makeGo_lit a b r _ _ (by simp only [List.length_cons] at ht; omega) (addOp_ok ho (.inr hk)) ⟨pre ++ [x], by rw [hb]; simp, ?_⟩ ?_
      · rw [hA, opAtoms_lit _ (by simp)]
        simp [hp]
      · intro p v hpv
        rw [hA, opAtoms_lit _ (by simp)] at hpv
        by_cases hlt : p < (atoms out).length
        · rw [List.getElem?_append_left hlt] at hpv
          exact hQ p v hpv
        · have hpe : p = (atoms out).length := by
            have := (List.getElem?_eq_some_iff.1 hpv).1
            simp at this
            omega
          have hd : b.drop p = x :: t := by rw [hb, hpe, ← hp]; simp
          rw [hd]
          intro s
          have := hmax.2 s
          omega
theorem makeS_lits (a b : List Int) : ∀ p v, (atoms (makeS a b))[p]? = some (.lit v) → noMatch a (b.drop p) :=
  makeGo_lit a b b.length [] b (Nat.le_refl _) (fun o ho => by cases ho) ⟨[], rfl, rfl⟩ (fun p v h => by simp [atoms_nil] at h)
theorem lcp_prefix : ∀ (t x u : List Int), byB t = true → byB x = true → (t.map fun n => UInt8.ofNat n.toNat).isPrefixOf (x.map fun n => UInt8.ofNat n.toNat) = true → t.length ≤ lcp x (t ++ u)
  | [], x, u, _, _, _ => by simp
  | c :: t, [], u, _, _, h => by simp at h
  | c :: t, y :: x, u, h1, h2, h => by
    rw [byB_iff] at h1 h2
    have hc := h1 c (by simp)
    have hy := h2 y (by simp)
    simp only [List.map_cons, List.isPrefixOf, Bool.and_eq_true, beq_iff_eq] at h
    obtain ⟨e, h⟩ := h
    have e2 : c = y := by
      have := congrArg UInt8.toNat e
      rw [UInt8.toNat_ofNat', UInt8.toNat_ofNat'] at this
      have a1 : c.toNat % 2 ^ 8 = c.toNat := Nat.mod_eq_of_lt (by omega)
      have a2 : y.toNat % 2 ^ 8 = y.toNat := Nat.mod_eq_of_lt (by omega)
      rw [a1, a2] at this
      omega
    subst e2
    have ih := lcp_prefix t x u (byB_iff.2 (fun z hz => h1 z (by simp [hz]))) (byB_iff.2 (fun z hz => h2 z (by simp [hz]))) h
    rw [List.cons_append, lcp, if_pos rfl, List.length_cons]
    omega
theorem contains_no {a b : List Int} (hA : byB a = true) (hB : byB b = true) (hal : a.length ≤ 1000000) (p : Nat) (hp : p + 4 ≤ b.length) (h : noMatch a (b.drop p)) : strings_Contains.f (strOfNums a) (strOfNums ((b.take (p + 4)).drop p)) = some false := by
  unfold strings_Contains.f
  rw [if_pos (by rw [strOfNums_size]; omega)]
  congr 1
  unfold Go.Lib.contains
  refine decide_eq_false ?_
  intro h0
  rw [strOfNums_data, strOfNums_data] at h0
  rcases Go.Lib.index_spec (a.map fun n => UInt8.ofNat n.toNat) (((b.take (p + 4)).drop p).map fun n => UInt8.ofNat n.toNat) with ⟨h1, _⟩ | ⟨i, h1, h2, h3, _⟩
  · omega
  · unfold Go.Lib.occAt at h3
    rw [← List.map_drop] at h3
    have hs : (b.take (p + 4)).drop p = (b.drop p).take 4 := by rw [List.drop_take]; congr 1; omega
    have hl := lcp_prefix ((b.take (p + 4)).drop p) (a.drop i) ((b.drop p).drop 4) (byB_iff.2 (fun x hx => byB_iff.1 hB x (List.mem_of_mem_take (List.mem_of_mem_drop hx)))) (byB_iff.2 (fun x hx => byB_iff.1 hA x (List.mem_of_mem_drop hx))) h3
    rw [hs, List.take_append_drop, List.length_take, List.length_drop] at hl
    have := h i
    omega
end Go.Proofs.Ytjckjcekapkkjaa.P
