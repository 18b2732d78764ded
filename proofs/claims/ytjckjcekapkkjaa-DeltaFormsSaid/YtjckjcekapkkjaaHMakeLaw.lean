/- The best of the places where four bytes stand is the longest match. -/
import Derived.Test.YtjckjcekapkkjaaPx0
import Derived.Test.YtjckjcekapkkjaaHMapSt
import Derived.Test.YtjckjcekapkkjaaHOps
namespace Go.Proofs.Ytjckjcekapkkjaa.P
open Go.RowKit Go.Proofs.YtjckjcekapkkjaaW.PrintWords Go.Proofs.YtjckjcekapkkjaaW.PrintLast Go.Proofs.YtjckjcekapkkjaaW.PrintMore
set_option linter.unusedVariables false
set_option linter.unusedSimpArgs false

/-- The first of the longest among the places (best, from: what was found ahead). -/
def pickS (a t : List Int) : List Int → Nat → Nat → Nat × Nat
  | [], best, from_ => (best, from_)
  | i :: l, best, from_ => if lcp (a.drop i.toNat) t > best then pickS a t l (lcp (a.drop i.toNat) t) i.toNat else pickS a t l best from_
theorem lcp_four : ∀ (n : Nat) (x t : List Int), n ≤ t.length → (n ≤ lcp x t ↔ x.take n = t.take n)
  | 0, x, t, _ => by simp
  | n + 1, x, [], h => by simp at h
  | n + 1, [], y :: t, h => by simp [lcp]
  | n + 1, z :: x, y :: t, h => by
    have ih := lcp_four n x t (by simpa using h)
    rw [lcp]
    by_cases e : z = y
    · rw [if_pos e]
      simp only [List.take_succ_cons, List.cons.injEq, e, true_and]
      rw [← ih]; omega
    · rw [if_neg e]
      simp [e]
theorem pick_match (a t : List Int) (h4 : 4 ≤ t.length) : ∀ (m s b f b' f' : Nat), s + m = a.length → ((4 ≤ b' ∧ b' = b ∧ f' = f) ∨ (b' = 0 ∧ b < 4)) →
    ((4 ≤ (pickS a t (((List.range' s m).filter fun i => decide ((a.drop i).take 4 = t.take 4)).map fun i : Nat => (i : Int)) b' f').1 ∧ pickS a t (((List.range' s m).filter fun i => decide ((a.drop i).take 4 = t.take 4)).map fun i : Nat => (i : Int)) b' f' = matchS t (a.drop s) s b f)
      ∨ ((pickS a t (((List.range' s m).filter fun i => decide ((a.drop i).take 4 = t.take 4)).map fun i : Nat => (i : Int)) b' f').1 = 0 ∧ (matchS t (a.drop s) s b f).1 < 4))
  | 0, s, b, f, b', f', hs, hI => by
    rw [List.drop_of_length_le (by omega)]
    simp only [List.range'_zero, List.filter_nil, List.map_nil, pickS, matchS]
    rcases hI with ⟨h1, rfl, rfl⟩ | ⟨h1, h2⟩
    · exact Or.inl ⟨h1, rfl⟩
    · exact Or.inr ⟨h1, h2⟩
  | m + 1, s, b, f, b', f', hs, hI => by
    have hlt : s < a.length := by omega
    have hd := List.drop_eq_getElem_cons hlt
    rw [List.range'_succ]
    have hL := lcp_four 4 (a.drop s) t h4
    by_cases hin : (a.drop s).take 4 = t.take 4
    · have h5 := hL.2 hin
      rw [List.filter_cons_of_pos (by simpa using hin), List.map_cons]
      rw [pickS, Int.toNat_natCast, hd, matchS, ← hd]
      rcases hI with ⟨h1, rfl, rfl⟩ | ⟨rfl, h2⟩
      · by_cases hg : lcp (a.drop s) t > b'
        · rw [if_pos hg, if_pos hg]
          exact pick_match a t h4 m (s + 1) _ _ _ _ (by omega) (Or.inl ⟨h5, rfl, rfl⟩)
        · rw [if_neg hg, if_neg hg]
          exact pick_match a t h4 m (s + 1) _ _ _ _ (by omega) (Or.inl ⟨h1, rfl, rfl⟩)
      · rw [if_pos (by omega), if_pos (by omega)]
        exact pick_match a t h4 m (s + 1) _ _ _ _ (by omega) (Or.inl ⟨h5, rfl, rfl⟩)
    · have h5 : lcp (a.drop s) t < 4 := by
        rcases Nat.lt_or_ge (lcp (a.drop s) t) 4 with h | h
        · exact h
        · exact absurd (hL.1 h) hin
      rw [List.filter_cons_of_neg (by simpa using hin)]
      rw [hd, matchS, ← hd]
      by_cases hg : lcp (a.drop s) t > b
      · rw [if_pos hg]
        rcases hI with ⟨h1, rfl, rfl⟩ | ⟨rfl, h2⟩
        · omega
        · exact pick_match a t h4 m (s + 1) _ _ _ _ (by omega) (Or.inr ⟨rfl, h5⟩)
      · rw [if_neg hg]
        exact pick_match a t h4 m (s + 1) _ _ _ _ (by omega) hI
theorem pick_places (a t : List Int) (h4 : 4 ≤ t.length) (k : Nat) (hk : k ≤ a.length) (hk' : a.length < k + 4) :
    (4 ≤ (pickS a t (places a k (t.take 4)) 0 0).1 ∧ pickS a t (places a k (t.take 4)) 0 0 = matchS t a 0 0 0) ∨ ((pickS a t (places a k (t.take 4)) 0 0).1 = 0 ∧ (matchS t a 0 0 0).1 < 4) := by
  have h := pick_match a t h4 a.length 0 0 0 0 0 (by omega) (Or.inr ⟨rfl, by omega⟩)
  have e : places a k (t.take 4) = ((List.range' 0 a.length).filter fun i => decide ((a.drop i).take 4 = t.take 4)).map fun i : Nat => (i : Int) := by
    unfold places
    congr 1
    have hn : (List.range' k (a.length - k)).filter (fun i => decide ((a.drop i).take 4 = t.take 4)) = [] := by
      refine List.filter_eq_nil_iff.2 (fun i hi => ?_)
      have h1 := List.mem_range'_1.1 hi
      simp only [decide_eq_true_eq]
      intro hc
      have h2 := congrArg List.length hc
      simp at h2
      omega
    have h3 : List.range' 0 a.length = List.range' 0 k ++ List.range' k (a.length - k) := by
      have := List.range'_append_1 (s := 0) (m := k) (n := a.length - k)
      rw [Nat.zero_add] at this
      rw [this]; congr 1; omega
    rw [List.range_eq_range', h3, List.filter_append, hn, List.append_nil]
  rw [← e] at h
  simpa using h
theorem pick_none (a t : List Int) (h : t.length < 4) : (matchS t a 0 0 0).1 < 4 := by
  have hl : ∀ (x t : List Int), lcp x t ≤ t.length := by
    intro x
    induction x with
    | nil => intro t; simp [lcp]
    | cons z x ih =>
      intro t
      cases t with
      | nil => simp [lcp]
      | cons y t => rw [lcp]; split
                    · have := ih t; simp; omega
                    · simp
  have : ∀ (a : List Int) (s b f : Nat), b < 4 → (matchS t a s b f).1 < 4 := by
    intro a
    induction a with
    | nil => intro s b f hb; exact hb
    | cons x a ih =>
      intro s b f hb
      rw [matchS]
      have := hl (x :: a) t
      split
      · exact ih _ _ _ (by omega)
      · exact ih _ _ _ hb
  exact this a 0 0 0 (by omega)
theorem lcp_le : ∀ (x t : List Int), lcp x t ≤ x.length ∧ lcp x t ≤ t.length
  | [], t => by simp [lcp]
  | z :: x, [] => by simp [lcp]
  | z :: x, y :: t => by
    rw [lcp]
    have := lcp_le x t
    split <;> simp <;> omega
theorem make_copy {a l out : List _} {r j b f : Nat} (hj : j < l.length) (hm : matchS (l.drop j) a 0 0 0 = (b, f)) (h4 : 4 ≤ b) : makeGo a (r + 1) out (l.drop j) = makeGo a r (addOp out ⟨(f : Int), (b : Int), []⟩) (l.drop (j + b)) := by
  rw [List.drop_eq_getElem_cons hj] at hm ⊢
  rw [makeGo]
  simp only [hm]
  rw [if_pos h4, ← List.drop_eq_getElem_cons hj, List.drop_drop]
theorem make_lit {a l out : List _} {r j : Nat} (hj : j < l.length) (hm : (matchS (l.drop j) a 0 0 0).1 < 4) : makeGo a (r + 1) out (l.drop j) = makeGo a r (addOp out ⟨0, 0, [l[j]]⟩) (l.drop (j + 1)) := by
  rw [List.drop_eq_getElem_cons hj] at hm ⊢
  rw [makeGo, if_neg (by omega)]
theorem places_at {a key : List Int} {k : Nat} (hk : key.length = 4) {m : Nat} (hm : m < (places a k key).length) : ∃ i : Nat, (places a k key)[m] = (i : Int) ∧ i + 4 ≤ a.length := by
  have h : (places a k key)[m] ∈ places a k key := List.getElem_mem hm
  unfold places at h
  obtain ⟨i, hi, he⟩ := List.mem_map.1 h
  have h2 := (List.mem_filter.1 hi).2
  simp only [decide_eq_true_eq] at h2
  have h3 := congrArg List.length h2
  simp at h3
  exact ⟨i, he.symm, by omega⟩
theorem pick_cons {a t row : List Int} {m b f i : Nat} (hm : m < row.length) (hi : row[m] = (i : Int)) : pickS a t (row.drop m) b f = if lcp (a.drop i) t > b then pickS a t (row.drop (m + 1)) (lcp (a.drop i) t) i else pickS a t (row.drop (m + 1)) b f := by
  rw [List.drop_eq_getElem_cons hm, pickS, hi, Int.toNat_natCast]
/-- A cut of a slice that came in. -/
theorem C_from {W : World} {ad : Addr} {l : List Int} {k c : Nat} (h : Kd.C (Kd.int .u8) W (some ad) l.length l) (hk : k ≤ l.length) (hc : l.length ≤ c) (hne : c ≠ k) : Kd.C (Kd.int .u8) W (some (ad.add k)) (l.drop k).length (l.drop k) := by
  have := Kd.C_drop (m := k) (c := c) h hk hc
  rw [if_neg hne, show (Kd.int IntKind.u8).sz = 1 from rfl, Nat.mul_one] at this
  exact this
theorem C_one {W : World} {ad : Addr} {l : List Int} {k c : Nat} (h : Kd.C (Kd.int .u8) W (some ad) l.length l) (hk : k < l.length) (hc : l.length ≤ c) : Kd.C (Kd.int .u8) W (some (ad.add k)) 1 [l[k]] := by
  have := Kd.C_mid (lo := k) (hi := k + 1) (c := c) h (by omega) (by omega) hc
  rw [if_neg (by omega), show (Kd.int IntKind.u8).sz = 1 from rfl, Nat.mul_one] at this
  have e : (l.take (k + 1)).drop k = [l[k]] := by
    rw [List.drop_take, show k + 1 - k = 1 by omega, List.drop_eq_getElem_cons hk]; rfl
  rw [e] at this
  exact this
end Go.Proofs.Ytjckjcekapkkjaa.P
