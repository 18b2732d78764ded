/- delta.Encode writes the encoding of the ops. -/
import Derived.Test.YtjckjcekapkkjaaPx0
import Derived.Test.YtjckjcekapkkjaaPx2
import Derived.Test.YtjckjcekapkkjaaHCheck
import Derived.Test.YtjckjcekapkkjaaHRefUint
import Derived.Test.YtjckjcekapkkjaaHOps
import Derived.Test.YtjckjcekapkkjaaHPutUint
import Derived.Test.YtjckjcekapkkjaaHWrAdd
namespace Go.Proofs.Ytjckjcekapkkjaa.P
open Go.RowKit Go.Proofs.YtjckjcekapkkjaaW.PrintWords Go.Proofs.YtjckjcekapkkjaaW.PrintLast Go.Proofs.YtjckjcekapkkjaaW.PrintMore
set_option linter.unusedVariables false
set_option linter.unusedSimpArgs false

theorem encU_len4 {v : Nat} (h : v < 268435456) : 1 ≤ (encU v).length ∧ (encU v).length ≤ 4 := by
  by_cases a : v < 128
  · rw [encU_small a]; simp
  · rw [encU_big a]
    by_cases b : v / 128 < 128
    · rw [encU_small b]; simp
    · rw [encU_big b]
      by_cases c : v / 128 / 128 < 128
      · rw [encU_small c]; simp
      · rw [encU_big c, encU_small (by omega)]; simp
theorem wrap_u64 {x : Int} (h0 : 0 ≤ x) (h1 : x < 4611686018427387904) : IntKind.u64.wrap x = x := by
  simp [IntKind.wrap, IntKind.signed, IntKind.bits]
  omega
theorem wrap64_id {x : Int} (h0 : -9223372036854775808 ≤ x) (h1 : x ≤ 9223372036854775807) : wrap64 x = x := by unfold wrap64; omega
theorem wrap_succ (i : Nat) (h : i ≤ 4611686018427387904) : wrap64 ((i : Int) + 1) = ((i + 1 : Nat) : Int) := wrap64_id (by omega) (by omega)
theorem encOp_len {base : Int} {o : Dop} (h : goodOp base o) (hb : base ≤ 1048576) (ho : opLen o ≤ 1048576) : ((encOp o).length : Int) ≤ 8 + o.f2.length := by
  unfold encOp
  rcases h with ⟨⟨h1, h2⟩, h3, h4⟩ | h1
  · rw [if_pos ⟨h1, h2⟩, List.length_append]
    have a := (encU_len4 (v := (2 * o.f1 + 1).toNat) (by omega)).2
    have b := (encU_len4 (v := o.f0.toNat) (by omega)).2
    omega
  · rw [if_neg (fun h => h1.2.2 h.2), List.length_append]
    have : opLen o = o.f2.length := by simp [opLen, h1.1]
    have a := (encU_len4 (v := 2 * o.f2.length) (by omega)).2
    omega
theorem encOps_len {base : Int} (hb : base ≤ 1048576) : ∀ {l : List Dop}, (∀ o ∈ l, goodOp base o) → (∀ o ∈ l, opLen o ≤ 1048576) → ((l.flatMap encOp).length : Int) ≤ 8 * l.length + totS l
  | [], _, _ => by simp [totS]
  | o :: l, h, h2 => by
    have ih := encOps_len hb (l := l) (fun x hx => h x (by simp [hx])) (fun x hx => h2 x (by simp [hx]))
    have := encOp_len (h o (by simp)) hb (h2 o (by simp))
    simp only [List.flatMap_cons, List.length_append, List.length_cons, totS, List.map_cons, List.sum_cons] at ih ⊢
    omega
theorem opLen_le_size {base : Int} : ∀ {l : List Dop}, (∀ o ∈ l, goodOp base o) → ∀ o ∈ l, opLen o ≤ sizeS l
  | [], _, o, ho => by cases ho
  | x :: l, h, o, ho => by
    have hx := opLen_good (h x (by simp))
    have hl : 0 ≤ sizeS l := by
      clear ho o
      induction l with
      | nil => simp [sizeS]
      | cons y l ih =>
        have := opLen_good (h y (by simp))
        have := ih (fun z hz => by
          rcases List.mem_cons.1 hz with rfl | hz
          · exact h _ (by simp)
          · exact h z (by simp [hz]))
        simp only [sizeS, List.map_cons, List.sum_cons] at *
        omega
    have e : sizeS (x :: l) = opLen x + sizeS l := by simp [sizeS]
    rcases List.mem_cons.1 ho with rfl | ho
    · omega
    · have := opLen_le_size (l := l) (fun z hz => h z (by simp [hz])) o ho
      omega
theorem putE {v : Int} (h0 : 0 ≤ v) (h1 : v < 4611686018427387904) : codec_PutUint.f [] (IntKind.u64.wrap v) = some (encU v.toNat) := by
  rw [wrap_u64 h0 h1]
  unfold codec_PutUint.f
  rw [if_pos ⟨by simp, h0, by omega⟩, List.nil_append]
theorem encode_l0 {base : Int} (hb : base ≤ 1048576) {l : List Dop} (hg : ∀ o ∈ l, goodOp base o) (hs : ∀ o ∈ l, opLen o ≤ 1048576) (hl : l.length ≤ 4096) : ∀ (d i k : Nat) (x : List Int), l.length = i + d → d < k → (x.length : Int) ≤ 100 + 1048600 * i →
    delta_Encode.l0 k x l (l.length : Int) (i : Int) = some (x ++ (l.drop i).flatMap encOp, 0)
  | 0, i, k, x, h1, h2, h3 => by
    obtain ⟨k, rfl⟩ : ∃ m, k = m + 1 := ⟨k - 1, by omega⟩
    rw [delta_Encode.l0, if_neg (by omega), List.drop_of_length_le (by omega)]
    simp
  | d + 1, i, k, x, h1, h2, h3 => by
    obtain ⟨k, rfl⟩ : ∃ m, k = m + 1 := ⟨k - 1, by omega⟩
    have hi : i < l.length := by omega
    have e1 : wrap64 ((i : Int) + 1) = ((i + 1 : Nat) : Int) := wrap64_id (by omega) (by omega)
    have hm := List.getElem_mem hi
    have hgo := hg _ hm
    have hso := hs _ hm
    have hel := encOp_len hgo hb hso
    have htl : ((l[i].f2.length : Nat) : Int) ≤ 1048576 := by have := (opLen_good hgo).1; omega
    rw [delta_Encode.l0, if_pos (by omega), if_pos (by omega), if_pos (by omega), e1, rd_ops i hi, List.drop_eq_getElem_cons hi, List.flatMap_cons, ← List.append_assoc]
    have IH := encode_l0 hb hg hs hl d (i + 1) k (x ++ encOp l[i]) (by omega) (by omega) (by rw [List.length_append]; omega)
    rcases hgo with ⟨⟨h5, h6⟩, h7, h8⟩ | h5
    · have hE : encOp l[i] = encU (2 * l[i].f1 + 1).toNat ++ encU l[i].f0.toNat := by unfold encOp; rw [if_pos (show opCp l[i] from ⟨h5, h6⟩)]
      rw [hE] at IH hel ⊢
      have hso : l[i].f1 ≤ 1048576 := by unfold opLen at hso; rw [h6] at hso; simpa using hso
      rw [if_neg (by rw [h6]; simp), wrap64_id (x := 2 * l[i].f1) (by omega) (by omega), wrap64_id (x := 2 * l[i].f1 + 1) (by omega) (by omega), putE (by omega) (by omega)]
      have a := (encU_len4 (v := (2 * l[i].f1 + 1).toNat) (by omega)).2
      have b := (encU_len4 (v := l[i].f0.toNat) (by omega)).2
      simp only [Option.bind_some]
      rw [if_pos (by omega), putE h7 (by omega)]
      simp only [Option.bind_some]
      rw [if_pos (by rw [List.length_append]; omega), ← IH, List.append_assoc]
    · have hE : encOp l[i] = encU (2 * l[i].f2.length) ++ l[i].f2 := by unfold encOp; rw [if_neg (fun h : opCp l[i] => h5.2.2 h.2)]
      rw [hE] at IH hel ⊢
      have hp : 0 < l[i].f2.length := List.length_pos_iff.2 h5.2.2
      rw [if_pos (by omega), wrap64_id (x := 2 * (l[i].f2.length : Int)) (by omega) (by omega), putE (by omega) (by omega), show (2 * (l[i].f2.length : Int)).toNat = 2 * l[i].f2.length by omega]
      have a := (encU_len4 (v := 2 * l[i].f2.length) (by omega)).2
      simp only [Option.bind_some]
      rw [if_pos (by omega)]
      rw [if_pos (by rw [List.length_append]; omega), ← IH, List.append_assoc]
/-- What Encode returns. -/
def encS (base : Int) (l : List Dop) : List Int × Int := if (checkS base l).2 = 0 then (encOps l, 0) else ([], (checkS base l).2)
theorem encode_eq {base : Int} {l : List Dop} (hB : opsB l = true) (k : Nat) (hk : 4096 < k) : delta_Encode.f k base l = some (encS base l) := by
  unfold delta_Encode.f encS delta_Check.f
  rw [if_pos hB]
  simp only [Option.bind_some]
  by_cases h : (checkS base l).2 = 0
  · rw [if_pos h, if_pos h]
    obtain ⟨q1, q2, q3, q4, q5, q6, q7, q8⟩ := checkS_ok (base := base) (l := l) (r := (checkS base l).1) (by rw [← h])
    rw [putE (by omega) (by omega)]
    simp only [Option.bind_some]
    have a := (encU_len4 (v := (l.length : Int).toNat) (by omega)).2
    have := encode_l0 q2 q4 (fun o ho => by have := opLen_le_size q4 o ho; omega) q3 l.length 0 k (encU (l.length : Int).toNat) (by omega) (by omega) (by omega)
    rw [show ((0 : Nat) : Int) = 0 from rfl] at this
    rw [this]
    simp [encOps]
  · rw [if_neg h, if_neg h]
end Go.Proofs.Ytjckjcekapkkjaa.P
