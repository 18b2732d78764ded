/- The reference's Part and Compose are partS and compS. -/
import Derived.Test.YtjckjcekapkkjaaPx0
import Derived.Test.YtjckjcekapkkjaaPx8
import Derived.Test.YtjckjcekapkkjaaHAtoms
import Derived.Test.YtjckjcekapkkjaaHChkOk
import Derived.Test.YtjckjcekapkkjaaHCompose
import Derived.Test.YtjckjcekapkkjaaHEncode
import Derived.Test.YtjckjcekapkkjaaHLitCop
import Derived.Test.YtjckjcekapkkjaaHOps
import Derived.Test.YtjckjcekapkkjaaHRefAdd
import Derived.Test.YtjckjcekapkkjaaHRefCheck
import Derived.Test.YtjckjcekapkkjaaHWrAdd
namespace Go.Proofs.Ytjckjcekapkkjaa.P
open Go.RowKit Go.Proofs.YtjckjcekapkkjaaW.PrintWords Go.Proofs.YtjckjcekapkkjaaW.PrintLast Go.Proofs.YtjckjcekapkkjaaW.PrintMore
set_option linter.unusedVariables false
set_option linter.unusedSimpArgs false

theorem wrap_succ (i : Nat) (h : i < 4611686018427387904) : wrap64 ((i : Int) + 1) = ((i + 1 : Nat) : Int) := wrap64_id (by omega) (by omega)
theorem opPart_two (o : Dop) (a b : Int) : (opPart o a b).f2.length ≤ o.f2.length := by
  unfold opPart
  split
  · simp
  · simp; omega
theorem goodPart {n : Int} {o : Dop} {a b : Int} (h : goodOp n o) (h0 : 0 ≤ a) (h1 : a < b) (h2 : b ≤ opLen o) : goodOp n (opPart o a b) := by
  have hk := opPart_ok (good_kind h) h0 h1 h2
  unfold opPart at hk ⊢
  by_cases hc : opCp o
  · rw [if_pos hc] at hk ⊢
    rcases h with ⟨⟨a1, a2⟩, a3, a4⟩ | h
    · have : opLen o = o.f1 := by simp [opLen, a2]
      exact .inl ⟨⟨by simp only; omega, rfl⟩, by simp only; omega, by simp only; omega⟩
    · exact absurd h (cp_not_lt hc)
  · rw [if_neg hc] at hk ⊢
    rcases hk with hk | hk
    · exact absurd hk.1 (by simp)
    · exact .inr hk
theorem sizeS_drop {l : List Dop} {i : Nat} (h : i < l.length) : sizeS (l.drop i) = opLen l[i] + sizeS (l.drop (i + 1)) := by
  rw [List.drop_eq_getElem_cons h]; simp only [sizeS, List.map_cons, List.sum_cons]
theorem totS_drop {l : List Dop} {i : Nat} (h : i < l.length) : totS (l.drop i) = l[i].f2.length + totS (l.drop (i + 1)) := by
  rw [List.drop_eq_getElem_cons h]; simp only [totS, List.map_cons, List.sum_cons]
theorem part_l0 {n : Int} (hn : n ≤ 1048576) {os : List Dop} (hos : goodOps n os) (hl : os.length ≤ 100) (f t : Int) (hf : 0 ≤ f) (hft : f ≤ 10000000) (ht : 0 ≤ t) (htt : t ≤ 10000000) : ∀ (d i k : Nat) (out : List Dop) (at_ : Int), os.length = i + d → d + 2 < k → 0 ≤ at_ → at_ + sizeS (os.drop i) ≤ 10000000 → 0 ≤ sizeS (os.drop i) → goodOps n out → out.length + d ≤ 100000 → totS out + totS (os.drop i) ≤ 1000000000 →
    ref26_Part.l0 k out os f t at_ (i : Int) = some (partS out (os.drop i) at_ f t)
  | 0, i, k, out, at_, h1, h2, h3, h4, h5, h6, h7, h8 => by
    obtain ⟨k, rfl⟩ : ∃ m, k = m + 1 := ⟨k - 1, by omega⟩
    rw [ref26_Part.l0, if_neg (by omega), List.drop_of_length_le (by omega), partS]
  | d + 1, i, k, out, at_, h1, h2, h3, h4, h5, h6, h7, h8 => by
    obtain ⟨k, rfl⟩ : ∃ m, k = m + 1 := ⟨k - 1, by omega⟩
    have hi : i < os.length := by omega
    have hgo := hos _ (List.getElem_mem hi)
    have hs := sizeS_drop hi
    have hT := totS_drop hi
    have hlen := opLen_good hgo
    have hs2 : 0 ≤ sizeS (os.drop (i + 1)) := sizeS_nonneg (fun o ho => good_kind (hos o (List.mem_of_mem_drop ho)))
    have IH := fun o2 a2 => part_l0 hn hos hl f t hf hft ht htt d (i + 1) k o2 a2 (by omega) (by omega)
    have hrd := rd_ops i hi
    have hP : partS out (os.drop i) at_ f t = partS (if mx (f - at_) 0 < mn (t - at_) (opLen os[i]) then addOp out (opPart os[i] (mx (f - at_) 0) (mn (t - at_) (opLen os[i]))) else out) (os.drop (i + 1)) (at_ + opLen os[i]) f t := by rw [List.drop_eq_getElem_cons hi, partS_cons]
    rw [hP, ref26_Part.l0, if_pos (by omega), if_pos (by omega), hrd]
    clear hP hrd
    generalize os[i] = o at *
    have ho : opLen o = o.f1 + (o.f2.length : Int) := rfl
    rw [← ho, wrap64_id (x := opLen o) (by omega) (by omega), wrap64_id (x := f - at_) (by omega) (by omega), wrap64_id (x := t - at_) (by omega) (by omega), wrap64_id (x := at_ + opLen o) (by omega) (by omega), wrap_succ i (by omega)]
    have ha : 0 ≤ mx (f - at_) 0 ∧ mx (f - at_) 0 ≤ 10000000 := by unfold mx; split <;> omega
    have hb : mn (t - at_) (opLen o) ≤ opLen o ∧ -10000000 ≤ mn (t - at_) (opLen o) := by unfold mn; split <;> omega
    generalize mx (f - at_) 0 = a at *
    generalize mn (t - at_) (opLen o) = b at *
    by_cases hab : a < b
    · rw [if_pos hab, if_pos hab, copies_eq]
      simp only [Option.bind_some]
      have hg := goodPart hgo ha.1 hab hb.1
      have h2' := opPart_two o a b
      have hadd := add_eq hn h6 hg (by omega) (by omega) (by omega) k (by omega)
      have hAt := addOp_tot (fun x hx => good_kind (h6 x hx)) (good_kind hg) (l := out)
      have hAl := addOp_len out (opPart o a b)
      have IH' := IH (addOp out (opPart o a b)) (at_ + opLen o) (by omega) (by omega) hs2 (addOp_good h6 hg) (by omega) (by omega)
      by_cases hc : opCp o
      · rw [if_pos (decide_eq_true hc)]
        unfold opPart at hadd IH'
        rw [if_pos hc] at hadd IH'
        have h0 : 0 ≤ o.f0 ∧ o.f0 + o.f1 ≤ n ∧ opLen o = o.f1 := by
          rcases hgo with ⟨⟨a1, a2⟩, a3, a4⟩ | h
          · exact ⟨a3, a4, by simp [opLen, a2]⟩
          · exact absurd h (cp_not_lt hc)
        rw [wrap64_id (x := o.f0 + a) (by omega) (by omega), wrap64_id (x := b - a) (by omega) (by omega)]
        simp only at hadd
        rw [hadd]
        simp only [Option.bind_some]
        rw [IH']
        unfold opPart
        rw [if_pos hc]
      · rw [if_neg (by rw [decide_eq_true_iff]; exact hc)]
        unfold opPart at hadd IH'
        rw [if_neg hc] at hadd IH'
        have h0 : o.f1 = 0 := by
          rcases hgo with ⟨h, _⟩ | h
          · exact absurd h hc
          · exact h.1
        rw [if_pos (by omega), if_pos (by omega), if_pos (by omega)]
        simp only at hadd
        rw [hadd]
        simp only [Option.bind_some]
        rw [IH']
        unfold opPart
        rw [if_neg hc]
    · rw [if_neg hab, if_neg hab, IH out (at_ + opLen o) (by omega) (by omega) hs2 h6 (by omega) (by omega)]
theorem partS_len (os : List Dop) : ∀ (out : List Dop) (at_ f t : Int), (partS out os at_ f t).length ≤ out.length + os.length := by
  induction os with
  | nil => intro out at_ f t; simp [partS]
  | cons o os ih =>
    intro out at_ f t
    rw [partS_cons]
    refine Nat.le_trans (ih _ _ _ _) ?_
    have := addOp_len out (opPart o (mx (f - at_) 0) (mn (t - at_) (opLen o)))
    simp only [List.length_cons]
    split <;> omega
theorem partS_good2 {n : Int} : ∀ (os out : List Dop) (at_ f t : Int), goodOps n os → goodOps n out → goodOps n (partS out os at_ f t) ∧ totS (partS out os at_ f t) ≤ totS out + totS os
  | [], out, at_, f, t, _, h => ⟨h, by simp [partS, totS]⟩
  | o :: os, out, at_, f, t, h, h2 => by
    rw [partS_cons]
    have e : totS (o :: os) = o.f2.length + totS os := by simp [totS]
    split
    · rename_i hc
      have hg := goodPart (h o (by simp)) (show 0 ≤ mx (f - at_) 0 by unfold mx; split <;> omega) hc (by unfold mn; split <;> omega)
      obtain ⟨q1, q2⟩ := partS_good2 os (addOp out (opPart o (mx (f - at_) 0) (mn (t - at_) (opLen o)))) (at_ + opLen o) f t (fun x hx => h x (by simp [hx])) (addOp_good h2 hg)
      have hAt := addOp_tot (fun x hx => good_kind (h2 x hx)) (good_kind hg) (l := out)
      have := opPart_two o (mx (f - at_) 0) (mn (t - at_) (opLen o))
      exact ⟨q1, by omega⟩
    · obtain ⟨q1, q2⟩ := partS_good2 os out (at_ + opLen o) f t (fun x hx => h x (by simp [hx])) h2
      exact ⟨q1, by omega⟩
theorem refComp_l0 {n : Int} (hn : n ≤ 1048576) {a b : List Dop} (ha : goodOps n a) (hb : goodOps (sizeS a) b) (hla : a.length ≤ 100) (hlb : b.length ≤ 100) (hsa : sizeS a ≤ 1048576) (hta : totS a ≤ 1048576) (htb : totS b ≤ 1048576) : ∀ (d i k : Nat) (out : List Dop), b.length = i + d → d + 200 < k → goodOps n out → out.length ≤ 101 * i → totS out ≤ 1048576 * i + totS (b.take i) →
    ref26_Compose.l0 k a b out (i : Int) = some (if (compGo a out (b.drop i)).length > 4096 then ([], 263) else (compGo a out (b.drop i), 0))
  | 0, i, k, out, h1, h2, h3, h4, h5 => by
    obtain ⟨k, rfl⟩ : ∃ m, k = m + 1 := ⟨k - 1, by omega⟩
    rw [ref26_Compose.l0, if_neg (by omega), List.drop_of_length_le (by omega), compGo]
    by_cases h : out.length > 4096
    · rw [if_pos (by omega), if_pos h]
    · rw [if_neg (by omega), if_neg h]
  | d + 1, i, k, out, h1, h2, h3, h4, h5 => by
    obtain ⟨k, rfl⟩ : ∃ m, k = m + 1 := ⟨k - 1, by omega⟩
    have hi : i < b.length := by omega
    have hgo := hb _ (List.getElem_mem hi)
    have hs0 : 0 ≤ sizeS a := sizeS_nonneg ha.ok
    have hT : totS (b.take (i + 1)) = totS (b.take i) + b[i].f2.length := by
      rw [List.take_succ_eq_append_getElem hi, totS_append, totS_one]
    have hTl := totS_take b (i + 1)
    have hTl0 := totS_take b i
    have IH := fun o2 => refComp_l0 hn ha hb hla hlb hsa hta htb d (i + 1) k o2 (by omega) (by omega)
    have hrd := rd_ops i hi
    have hP : compGo a out (b.drop i) = compGo a (if opCp b[i] then partS out a 0 b[i].f0 (b[i].f0 + b[i].f1) else addOp out b[i]) (b.drop (i + 1)) := by rw [List.drop_eq_getElem_cons hi, compGo]
    rw [hP, ref26_Compose.l0, if_pos (by omega), if_pos (by omega), hrd, copies_eq]
    simp only [Option.bind_some]
    clear hP hrd
    generalize b[i] = o at *
    by_cases hc : opCp o
    · rw [if_pos (decide_eq_true hc), if_pos hc]
      have h0 : 0 ≤ o.f0 ∧ o.f0 + o.f1 ≤ sizeS a ∧ 1 ≤ o.f1 ∧ o.f2.length = 0 := by
        rcases hgo with ⟨⟨a1, a2⟩, a3, a4⟩ | h
        · exact ⟨a3, a4, a1, by simp [a2]⟩
        · exact absurd h (cp_not_lt hc)
      rw [wrap64_id (x := o.f0 + o.f1) (by omega) (by omega)]
      unfold ref26_Part.f
      have hP := part_l0 hn ha hla o.f0 (o.f0 + o.f1) (by omega) (by omega) (by omega) (by omega) a.length 0 k out 0 (by omega) (by omega) (by omega) (by rw [List.drop_zero]; omega) (by rw [List.drop_zero]; omega) h3 (by omega) (by rw [List.drop_zero]; omega)
      rw [show ((0 : Nat) : Int) = 0 from rfl] at hP
      rw [hP]
      simp only [Option.bind_some, List.drop_zero]
      obtain ⟨q1, q2⟩ := partS_good2 a out 0 o.f0 (o.f0 + o.f1) ha h3
      have q3 := partS_len a out 0 o.f0 (o.f0 + o.f1)
      rw [wrap_succ i (by omega), IH _ q1 (by omega) (by omega)]
    · rw [if_neg (by rw [decide_eq_true_iff]; exact hc), if_neg hc]
      have hlt : opLt o := by
        rcases hgo with ⟨h, _⟩ | h
        · exact absurd h hc
        · exact h
      have hg : goodOp n o := .inr hlt
      rw [add_eq hn h3 hg (by omega) (by omega) (by omega) k (by omega)]
      simp only [Option.bind_some]
      have hAt := addOp_tot (fun x hx => good_kind (h3 x hx)) (good_kind hg) (l := out)
      have hAl := addOp_len out o
      rw [wrap_succ i (by omega), IH _ (addOp_good h3 hg) (by omega) (by omega)]
theorem refComp_eq {n : Int} {a b : List Dop} (oa : opsB a = true) (ob : opsB b = true) (hla : a.length ≤ 100) (hlb : b.length ≤ 100) (k : Nat) (hk : 12300 < k) : ref26_Compose.f k n a b = some (compS n a b) := by
  unfold ref26_Compose.f compS
  rw [refCheck_eq n oa k hk]
  simp only [Option.bind_some]
  by_cases h : (checkS n a).2 = 0
  · rw [if_pos h, if_neg (by omega), refCheck_eq _ ob k hk]
    simp only [Option.bind_some]
    by_cases h2 : (checkS (checkS n a).1 b).2 = 0
    · rw [if_pos h2, if_neg (by omega)]
      obtain ⟨q1, q2, q3, q4, q5, q6, q7, q8⟩ := checkS_ok (base := n) (l := a) (r := (checkS n a).1) (by rw [← h])
      obtain ⟨p1, p2, p3, p4, p5, p6, p7, p8⟩ := checkS_ok (base := (checkS n a).1) (l := b) (r := (checkS (checkS n a).1 b).1) (by rw [← h2])
      have := refComp_l0 q2 q4 (b := b) (by rw [← q5]; exact p4) hla hlb (by omega) (by omega) (by omega) b.length 0 k [] (by omega) (by omega) (fun o ho => by cases ho) (by simp) (by simp [totS])
      rw [show ((0 : Nat) : Int) = 0 from rfl] at this
      rw [this]
      simp only [List.drop_zero]
    · rw [if_neg h2, if_pos h2]
  · rw [if_neg h, if_pos h]
end Go.Proofs.Ytjckjcekapkkjaa.P
