/- Maps whose keys are arrays of four bytes: what the machine's operations on them come to. -/
import Derived.Test.YtjckjcekapkkjaaPx0
import Derived.Test.YtjckjcekapkkjaaHOps
import Derived.Test.YtjckjcekapkkjaaHWrAdd
import Derived.Test.YtjckjcekapkkjaaPx1
import Derived.WideKeyArr
import Derived.WideKeyArr2
import Derived.WideKeyEntry
import Derived.Lib.Hide
namespace Go.Proofs.Ytjckjcekapkkjaa.P
open Go.RowKit Go.Proofs.YtjckjcekapkkjaaW.PrintWords Go.Proofs.YtjckjcekapkkjaaW.PrintLast Go.Proofs.YtjckjcekapkkjaaW.PrintMore
set_option linter.unusedVariables false
set_option linter.unusedSimpArgs false

/-- Two ops that are not to be joined. -/
def apart (x y : Dop) : Prop := ¬ (opLt x ∧ opLt y ∨ opCp x ∧ opCp y ∧ x.f0 + x.f1 = y.f0)
def okOps (l : List Dop) : Prop := ∀ o ∈ l, opCp o ∨ opLt o
theorem cp_not_lt {o : Dop} (h : opCp o) : ¬ opLt o := fun h2 => h2.2.2 h.2
/-- Right ops on a base of n bytes. -/
def goodOps (n : Int) (l : List Dop) : Prop := ∀ o ∈ l, goodOp n o
theorem goodOps.ok {n : Int} {l : List Dop} (h : goodOps n l) : okOps l := fun o ho => good_kind (h o ho)
end Go.Proofs.Ytjckjcekapkkjaa.P
namespace Go.Proofs.Ytjckjcekapkkjaa.P
open Go.RowKit Go.Proofs.YtjckjcekapkkjaaW.PrintWords Go.Proofs.YtjckjcekapkkjaaW.PrintLast Go.Proofs.YtjckjcekapkkjaaW.PrintMore
set_option linter.unusedVariables false
set_option linter.unusedSimpArgs false

theorem fold_any (a n : Int) (hn : n ≤ 4611686018427387904) : ∃ r, make_Fold.f a n = some r ∧ 0 ≤ r ∧ (1 < n → r < n) ∧ (n ≤ 1 → r = 0) := by
  unfold make_Fold.f
  by_cases h : n ≤ 1
  · rw [if_pos h]; exact ⟨0, rfl, by omega, by omega, by omega⟩
  · rw [if_neg h, if_neg (by omega)]
    have h1 : (Int.tmod a n) < n := Int.tmod_lt_of_pos a (by omega)
    have h2 : -n < Int.tmod a n := by
      have := Int.tmod_lt_of_pos (-a) (show 0 < n by omega)
      rw [Int.neg_tmod] at this
      omega
    by_cases h3 : Int.tmod a n < 0
    · rw [if_pos h3]
      have e : wrap64 (Int.tmod a n + n) = Int.tmod a n + n := by unfold wrap64; omega
      rw [e]
      exact ⟨_, rfl, by omega, by omega, by omega⟩
    · rw [if_neg h3]
      exact ⟨_, rfl, by omega, by omega, by omega⟩
end Go.Proofs.Ytjckjcekapkkjaa.P
namespace Go.Proofs.Ytjckjcekapkkjaa.P
open Go.RowKit Go.WideMaps Go.Proofs.YtjckjcekapkkjaaW.PrintWords Go.Proofs.YtjckjcekapkkjaaW.PrintLast Go.Proofs.YtjckjcekapkkjaaW.PrintMore
set_option linter.unusedVariables false
set_option linter.unusedSimpArgs false

def kv (x : List Int) : Value := .agg (x.map (Value.int .u8)).toArray
theorem mp_arr : ArrKey Try.prog 61 5 4 := ⟨Try.underlying61, by kernel_rfl, by kernel_rfl, by kernel_rfl⟩
theorem mp_law : KeyLaw Try.prog 61 := mp_arr.law
theorem mp_keyOf (a b c d : Int) (ha : 0 ≤ a ∧ a < 256) (hb : 0 ≤ b ∧ b < 256) (hc : 0 ≤ c ∧ c < 256) (hd : 0 ≤ d ∧ d < 256) : ∃ l, keyOf Try.prog 61 (kv [a, b, c, d]) = some l := by
  have hsz : 0 < Try.prog.types.size := of_decide_eq_true (by kernel_rfl)
  obtain ⟨m0, hm0⟩ : ∃ m, Try.prog.types.size = m + 1 := ⟨Try.prog.types.size - 1, by omega⟩
  have hkt := mp_arr.keyType ⟨m0, hm0⟩
  unfold keyOf kv
  simp only [Try.underlying61]
  rw [if_pos (by simp [hkt, Value.formed, Try.underlying61, mp_arr.size]), hm0]
  unfold Program.keyLits
  simp only [Try.underlying61, Value.cells]
  rw [if_pos (by rw [mp_arr.size]; simp)]
  have k0 : ∀ x : Int, 0 ≤ x ∧ x < 256 → Try.prog.keyLits (m0 + 1) 5 [.int .u8 x] = some [.int .u8 x] := fun x hx => by
    unfold Program.keyLits
    simp only [Try.underlying5]
    rw [if_pos ⟨trivial, by simp [Lit.wf, IntKind.min, IntKind.max, IntKind.signed, IntKind.bits]; omega⟩]
  rw [mp_arr.one, show List.range 4 = [0, 1, 2, 3] from rfl]
  simp [k0 a ha, k0 b hb, k0 c hc, k0 d hd]
end Go.Proofs.Ytjckjcekapkkjaa.P
