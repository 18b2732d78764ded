/- Texts: their encodings, and what is decoded of them. -/
import Derived.Test.YtnaamckkepdkkaaPx0
import Derived.Test.YtnaamckkepdkkaaPx3
import Derived.Test.YtnaamckkepdkkaaPx11
import Derived.Test.YtnaamckkepdkkaaHMathU
import Derived.Test.YtnaamckkepdkkaaHPutUint
import Derived.Test.YtnaamckkepdkkaaHText
import Derived.Test.YtnaamckkepdkkaaHUint
namespace Go.Proofs.Ytnaamckkepdkkaa.P
open Go.RowKit Go.Proofs.YtnaamckkepdkkaaW.PrintWords Go.Proofs.YtnaamckkepdkkaaW.PrintLast Go.Proofs.YtnaamckkepdkkaaW.PrintMore
set_option linter.unusedVariables false

theorem bytesOf_byteB (s : ByteArray) : byteB (bytesOf s) = true := by
  refine List.all_eq_true.2 fun x hx => ?_
  obtain ⟨c, _, rfl⟩ := List.mem_map.1 hx
  have := c.toNat_lt
  simp; omega
theorem str_bytes (s : ByteArray) : strOfNums (bytesOf s) = s := by
  have h : (strOfNums (bytesOf s)).data.toList = s.data.toList := by
    rw [strOfNums_data, bytesOf, List.map_map]
    conv => rhs; rw [← List.map_id s.data.toList]
    refine List.map_congr_left fun c _ => ?_
    simp
  have h2 : (strOfNums (bytesOf s)).data = s.data := Array.toList_inj.1 h
  calc strOfNums (bytesOf s) = ⟨(strOfNums (bytesOf s)).data⟩ := rfl
    _ = ⟨s.data⟩ := by rw [h2]
    _ = s := rfl
theorem putT {l : List Int} {s : ByteArray} (hl : l.length < 4000) (hs : s.size ≤ 140737488351232) : codec_PutText.f l s = some (l ++ encU s.size ++ bytesOf s) := by
  unfold codec_PutText.f
  rw [show IntKind.u64.wrap ((s.size : Int)) = ((s.size : Nat) : Int) by rw [IntKind.wrap_u64]; omega, putU (by omega) (by omega)]
  have := encU_len10 (v := s.size) (by omega)
  simp only [Option.bind_some]
  rw [if_pos (by simp; omega)]
theorem putB {l : List Int} {v : Bool} (hl : l.length < 140737488355000) : codec_PutBool.f l v = some (l ++ [if v = true then 1 else 0]) := by
  unfold codec_PutBool.f
  cases v
  · have := putU (l := l) (n := 0) hl (by decide)
    rw [encU_small (by decide)] at this
    simpa using this
  · have := putU (l := l) (n := 1) hl (by decide)
    rw [encU_small (by decide)] at this
    simpa using this
/-- A proper beginning of an encoding is too short. -/
theorem dec_short {a : Int} (b : Nat) : ∀ {n i v j : Nat}, n < b → (0 < i → 0 < n) → i + (encU n).length ≤ 10 → j < (encU n).length → decGo a i v ((encU n).take j) = (0, 0, 11) := by
  induction b with
  | zero => intro n i v j h; omega
  | succ b ih =>
    intro n i v j hb hp hl hj
    by_cases hs : n < 128
    · rw [encU_small hs] at hj ⊢
      simp at hj
      subst hj
      rfl
    · rw [encU_big hs] at hj hl ⊢
      cases j with
      | zero => rfl
      | succ j =>
        rw [List.length_cons] at hj hl
        have hpos := encU_pos (n / 128)
        rw [List.take_succ_cons, decGo, if_neg (by omega), if_neg (by omega)]
        exact ih (by omega) (fun _ => by omega) (by omega) (by omega)
theorem dec_err {a : Int} {l : List Int} (hB : byteB l = true) : ∀ {i v : Nat} {u next e : Int}, decGo a i v l = (u, next, e) → e ≠ 0 → u = 0 ∧ next = 0 ∧ (e = 11 ∨ e = 12) := by
  induction l with
  | nil => intro i v u next e h he; simp [decGo] at h; omega
  | cons c cs ih =>
    intro i v u next e h he
    have hcs : byteB cs = true := List.all_eq_true.2 fun x hx => List.all_eq_true.1 hB x (List.mem_cons_of_mem _ hx)
    rw [decGo] at h
    by_cases hb : (0 < i ∧ c = 0) ∨ (i = 9 ∧ c ≠ 1)
    · rw [if_pos hb] at h; simp at h; omega
    · rw [if_neg hb] at h
      by_cases hs : c < 128
      · rw [if_pos hs] at h; simp at h; omega
      · rw [if_neg hs] at h; exact ih hcs h he
theorem textAt {l rest : List Int} {s : ByteArray} {most : Int} (h1 : byteB l = true) (h2 : byteB rest = true) (hl : l.length < 100000) (hr : rest.length < 100000) (hs : s.size ≤ 400) (hm : (Lit.int .i64 most).wf = true) :
    codec_Text.f (l ++ (encU s.size ++ (bytesOf s ++ rest))) (l.length : Int) most = some (if (s.size : Int) > mx most 0 then (⟨#[]⟩, 0, 13) else (s, (l.length : Int) + (encU s.size).length + s.size, 0)) := by
  unfold codec_Text.f
  have hlen := encU_len10 (v := s.size) (by omega)
  rw [if_pos ⟨by simp [bytesOf_length]; unfold maxLen; omega, hm⟩, takeU_at h1 (byteB_append (bytesOf_byteB s) h2) (by omega)]
  simp only [Option.map_some, textF]
  rw [if_neg (by simp)]
  congr 1
  by_cases hbig : (s.size : Int) > mx most 0
  · rw [if_pos hbig, if_pos hbig]
  · rw [if_neg hbig, if_neg hbig, if_neg (by simp [bytesOf_length]; omega)]
    have e1 : ((l.length : Int) + (encU s.size).length).toNat = l.length + (encU s.size).length := by omega
    have e2 : ((l.length : Int) + (encU s.size).length + s.size).toNat = l.length + (encU s.size).length + s.size := by omega
    rw [e1, e2]
    have e3 : (((l ++ (encU s.size ++ (bytesOf s ++ rest))).take (l.length + (encU s.size).length + s.size)).drop (l.length + (encU s.size).length)) = bytesOf s := by
      have a1 : l ++ (encU s.size ++ (bytesOf s ++ rest)) = (l ++ encU s.size ++ bytesOf s) ++ rest := by simp
      have a2 : l.length + (encU s.size).length + s.size = (l ++ encU s.size ++ bytesOf s).length := by simp [bytesOf_length, Nat.add_assoc]
      rw [a1, a2, List.take_left, show l.length + (encU s.size).length = (l ++ encU s.size).length by simp, List.drop_left]
    rw [e3, str_bytes]
end Go.Proofs.Ytnaamckkepdkkaa.P
