/- The pure statement of DeltaGreedy: no string of four bytes of the target that begins at a literal byte of Make's delta occurs in the base. -/
import Derived.Test.YtjckjcekapkkjaaPx0
import Derived.Test.YtjckjcekapkkjaaPx5
import Derived.Test.YtjckjcekapkkjaaHAtomSz
import Derived.Test.YtjckjcekapkkjaaHAtoms
import Derived.Test.YtjckjcekapkkjaaHChkOk
import Derived.Test.YtjckjcekapkkjaaHEncode
import Derived.Test.YtjckjcekapkkjaaHGreedyLaw
import Derived.Test.YtjckjcekapkkjaaHKnown
import Derived.Test.YtjckjcekapkkjaaHMake
import Derived.Test.YtjckjcekapkkjaaHMakeF
import Derived.Test.YtjckjcekapkkjaaHMakeOk
import Derived.Test.YtjckjcekapkkjaaHMin4
import Derived.Test.YtjckjcekapkkjaaHOps
import Derived.Test.YtjckjcekapkkjaaHSizeLaw
import Derived.Test.YtjckjcekapkkjaaHTapeText
import Derived.Test.YtjckjcekapkkjaaHWrAdd
namespace Go.Proofs.Ytjckjcekapkkjaa.Pure
open Go.RowKit Go.Proofs.Ytjckjcekapkkjaa.P Go.Proofs.YtjckjcekapkkjaaW.PrintWords Go.Proofs.YtjckjcekapkkjaaW.PrintLast
set_option linter.unusedVariables false

theorem greedy_at {l : List Dop} {i kk : Nat} (hok : okOps l) (hi : i < l.length) (hk : kk < l[i].f2.length) {p : Nat} (hp : (p : Int) = sizeS (l.take i)) : ∃ v, (atoms l)[p + kk]? = some (.lit v) := by
  have e : atoms l = atoms (l.take i) ++ (opAtoms l[i] ++ atoms (l.drop (i + 1))) := by
    rw [← atoms_cons, ← List.drop_eq_getElem_cons hi, ← atoms_append, List.take_append_drop]
  have hl : ((atoms (l.take i)).length : Int) = sizeS (l.take i) := atoms_size (fun o ho => hok o (List.mem_of_mem_take ho))
  have hne : l[i].f2 ≠ [] := by intro h; rw [h] at hk; simp at hk
  have ha : opAtoms l[i] = l[i].f2.map Atom.lit := opAtoms_lit _ hne _ _
  rw [e, List.getElem?_append_right (by omega), show p + kk - (atoms (l.take i)).length = kk by omega, List.getElem?_append_left (by rw [ha, List.length_map]; exact hk), ha, List.getElem?_map, List.getElem?_eq_getElem hk]
  exact ⟨_, rfl⟩
theorem sizeS_take {l : List Dop} {i : Nat} (h : i < l.length) : sizeS (l.take (i + 1)) = sizeS (l.take i) + opLen l[i] := by
  rw [List.take_succ_eq_append_getElem h]
  simp only [sizeS, List.map_append, List.map_cons, List.map_nil, List.sum_append, List.sum_cons, List.sum_nil]
  omega
theorem sizeS_split (l : List Dop) (i : Nat) : sizeS l = sizeS (l.take i) + sizeS (l.drop i) := by
  have : sizeS (l.take i ++ l.drop i) = sizeS (l.take i) + sizeS (l.drop i) := by simp only [sizeS, List.map_append, List.sum_append]
  rw [List.take_append_drop] at this
  exact this
theorem totS_dropc {l : List Dop} {i : Nat} (h : i < l.length) : totS (l.drop i) = l[i].f2.length + totS (l.drop (i + 1)) := by
  rw [List.drop_eq_getElem_cons h]; simp only [totS, List.map_cons, List.sum_cons]
theorem wrap_nn (p q : Nat) (h : p + q ≤ 4611686018427387904) : wrap64 ((p : Int) + (q : Int)) = ((p + q : Nat) : Int) := wrap64_id (by omega) (by omega)
theorem wrap_n4 (p : Nat) (h : p ≤ 4611686018427387904) : wrap64 ((p : Int) + 4) = ((p + 4 : Nat) : Int) := wrap64_id (by omega) (by omega)
theorem greedy_l0 {a b : List Int} (hA : byB a = true) (hB : byB b = true) (hal : a.length ≤ 100000) (hbl : b.length ≤ 100000) {n : Int} {l : List Dop} (hg : goodOps n l) (h4 : min4 l) (hl : l.length ≤ 100000) (hsz : sizeS l = b.length)
    (hQ : ∀ p v, (atoms l)[p]? = some (.lit v) → noMatch a (b.drop p)) : ∀ (e i k : Nat), l.length = i + e → 2 * totS (l.drop i) + 5 * e + 2 < k → law26_DeltaGreedy.l0 k a b l (sizeS (l.take i)) (i : Int) = some true
  | 0, i, k, h1, h2 => by
    obtain ⟨k, rfl⟩ : ∃ m, k = m + 1 := ⟨k - 1, by omega⟩
    rw [law26_DeltaGreedy.l0, if_neg (by omega)]
  | e + 1, i, k, h1, h2 => by
    obtain ⟨k, rfl⟩ : ∃ m, k = m + 1 := ⟨k - 1, by omega⟩
    have hi : i < l.length := by omega
    have hgo := hg _ (List.getElem_mem hi)
    have hm4 := h4 _ (List.getElem_mem hi)
    have hlen := opLen_good hgo
    have hS := sizeS_take hi
    have hT := totS_dropc hi
    have hsp := sizeS_split l i
    have hsp2 := sizeS_split l (i + 1)
    have hn0 : 0 ≤ sizeS (l.take i) := sizeS_nonneg (fun o ho => good_kind (hg o (List.mem_of_mem_take ho)))
    have hn1 : 0 ≤ sizeS (l.drop (i + 1)) := sizeS_nonneg (fun o ho => good_kind (hg o (List.mem_of_mem_drop ho)))
    have hrd := rd_ops i hi
    have IH := fun m => greedy_l0 hA hB hal hbl hg h4 hl hsz hQ e (i + 1) m (by omega)
    obtain ⟨p, hp⟩ : ∃ p : Nat, (p : Int) = sizeS (l.take i) := ⟨(sizeS (l.take i)).toNat, by omega⟩
    have hat := fun kk hk => greedy_at (kk := kk) hg.ok hi hk hp
    rw [law26_DeltaGreedy.l0, if_pos (by omega)]
    rw [hS] at IH
    rw [hS] at hsp2
    rw [← hp] at IH hS hsp hsp2 hn0 ⊢
    clear hp
    have e1 : opLen l[i] = l[i].f1 + (l[i].f2.length : Int) := rfl
    have hkind : l[i].f1 > 0 → 4 ≤ l[i].f1 := by
      intro h
      rcases hgo with ⟨hc, _⟩ | hc
      · exact hm4 hc
      · have := hc.1; omega
    have hf1 : 0 ≤ l[i].f1 := by
      rcases hgo with ⟨hc, _⟩ | hc
      · have := hc.1; omega
      · have := hc.1; omega
    generalize l[i] = o at *
    have END : ∀ m, 2 * totS (l.drop (i + 1)) + 5 * e + 2 < m → (if 0 ≤ (i : Int) then (if (i : Int) < (l.length : Int) then (if o.f1 > 0 then (if o.f1 < 4 then (some false) else (law26_DeltaGreedy.l0 m a b l (wrap64 ((p : Int) + (wrap64 (o.f1 + (o.f2.length : Int))))) (wrap64 ((i : Int) + 1)))) else (law26_DeltaGreedy.l0 m a b l (wrap64 ((p : Int) + (wrap64 (o.f1 + (o.f2.length : Int))))) (wrap64 ((i : Int) + 1)))) else none) else none) = some true := by
      intro m hm
      rw [if_pos (by omega), if_pos (by omega), wrap64_id (x := o.f1 + (o.f2.length : Int)) (by omega) (by omega), ← e1, wrap64_id (x := (p : Int) + opLen o) (by omega) (by omega), wrap_succ i (by omega), IH m hm]
      by_cases h : o.f1 > 0
      · rw [if_pos h, if_neg (by have := hkind h; omega)]
      · rw [if_neg h]
    have L1 : ∀ (d kk m : Nat), o.f2.length = kk + d → 2 * d + 2 * totS (l.drop (i + 1)) + 5 * e + 5 < m → law26_DeltaGreedy.l1 m a b l (p : Int) (i : Int) (kk : Int) = some true := by
      intro d
      induction d with
      | zero =>
        intro kk m h5 h6
        obtain ⟨m, rfl⟩ : ∃ q, m = q + 2 := ⟨m - 2, by omega⟩
        rw [law26_DeltaGreedy.l1, if_pos (by omega), if_pos (by omega), hrd, if_neg (by omega), law26_DeltaGreedy.j3, if_neg (by simp), hrd]
        exact END m (by omega)
      | succ d ih =>
        intro kk m h5 h6
        obtain ⟨m, rfl⟩ : ∃ q, m = q + 2 := ⟨m - 2, by omega⟩
        have hkk : kk < o.f2.length := by omega
        have hb1 : p + kk ≤ 4611686018427387904 := by omega
        rw [law26_DeltaGreedy.l1, if_pos (by omega), if_pos (by omega), hrd, if_pos (by omega), wrap_nn p kk hb1, wrap_n4 (p + kk) hb1, law26_DeltaGreedy.j3, wrap_nn p kk hb1, wrap_n4 (p + kk) hb1]
        by_cases hfit : p + kk + 4 ≤ b.length
        · obtain ⟨v, hv⟩ := hat kk hkk
          rw [if_pos (decide_eq_true (by omega)), if_pos (by omega), if_pos (by omega), if_pos (by omega), Int.toNat_natCast, Int.toNat_natCast, contains_no hA hB (by omega) (p + kk) hfit (hQ _ v hv)]
          simp only [Option.bind_some]
          rw [if_neg (by simp), wrap_succ kk (by omega)]
          exact ih (kk + 1) (m) (by omega) (by omega)
        · rw [if_neg (by rw [decide_eq_true_iff]; omega), hrd]
          exact END m (by omega)
    exact L1 o.f2.length 0 k (by omega) (by omega)
theorem DeltaGreedy : law26_DeltaGreedy.Pure := by
  intro l0 h0 h1 h2
  obtain ⟨K, hK⟩ : ∃ K : Nat, K = 100000 := ⟨_, rfl⟩
  refine ⟨K + 1, ?_⟩
  unfold law26_DeltaGreedy.f
  obtain ⟨a, p, e1, p0, p1, la, ba⟩ := text_ok l0 0 60 (by omega) (by omega) (by omega) (by omega) (K + 1) (by omega)
  rw [e1]
  simp only [Option.bind_some]
  obtain ⟨b, q, e2, q0, q1, lb, bb⟩ := text_ok l0 p 60 (by omega) (by omega) (by omega) (by omega) (K + 1) (by omega)
  rw [e2]
  simp only [Option.bind_some]
  obtain ⟨⟨m1, m2⟩, m3, m4, m5⟩ := makeS_ok a b
  have hs := applyS_len (base := a) (goodOps.ok m1)
  rw [m3] at hs
  have hm4 : min4 (makeS a b) := makeGo_min4 a _ _ _ (fun o ho => by cases ho)
  rw [makef_ok ba bb (by omega) (by omega)]
  simp only [Option.bind_some, law26_known.f, if_true]
  rw [size_ok m1.ok (by omega) (by omega) (K + 1) (by omega)]
  simp only [Option.bind_some]
  rw [show (sizeS (makeS a b) != (b.length : Int)) = false by rw [← hs]; simp, law26_DeltaGreedy.j0, if_neg (by simp)]
  have hG := greedy_l0 ba bb (by omega) (by omega) m1 hm4 (by omega) hs.symm (makeS_lits a b) (makeS a b).length 0 K (by omega) (by rw [List.drop_zero]; omega)
  simpa [sizeS] using hG
end Go.Proofs.Ytjckjcekapkkjaa.Pure
