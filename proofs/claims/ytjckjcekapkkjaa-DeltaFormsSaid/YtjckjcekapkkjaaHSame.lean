/- The contract of the reference's Same, where both deltas are one: it returns true. -/
-- HAND stockyard/stockyardref26.Same quiet
import Derived.Test.YtjckjcekapkkjaaPx0
import Derived.Test.YtjckjcekapkkjaaHOps
import Derived.Lib.Hide
import Derived.Outline
import Derived.Deep.DeepMust
namespace Go.Proofs.Ytjckjcekapkkjaa.P
open Go.RowKit Go.Proofs.YtjckjcekapkkjaaW.PrintWords Go.Proofs.YtjckjcekapkkjaaW.PrintLast Go.Proofs.YtjckjcekapkkjaaW.PrintMore
set_option linter.unusedVariables false
set_option linter.unusedSimpArgs false

instance : DecidableEq S39 := fun a b => decidable_of_iff (a.f0 = b.f0 ∧ a.f1 = b.f1 ∧ a.f2 = b.f2) (by cases a; cases b; simp)
def ref26_Same.f (l0 l1 : List Dop) : Option Bool := if l0 = l1 then some true else none

set_option maxRecDepth 100000 in
set_option maxHeartbeats 4000000 in
theorem ref26_Same.calls (A0 : Option Addr) (c0 : Nat) (l0 : List S39) (A1 : Option Addr) (c1 : Nat) (l1 : List S39) (r : Bool) (w : World) (hr0 : Kd.C k39 w A0 l0.length l0) (hc0 : l0.length ≤ c0) (hr1 : Kd.C k39 w A1 l1.length l1) (hc1 : l1.length ≤ c1) (h : ref26_Same.f l0 l1 = some r) :
    Calls Try.prog 20 #[.slice A0 l0.length c0, .slice A1 l1.length c1] w fun e w' => e = .returned (.bool r) ∧ Drawn0 w w' := by
  unfold ref26_Same.f at h
  by_cases he : l0 = l1
  case neg => rw [if_neg he] at h; cases h
  rw [if_pos he] at h
  obtain rfl := Option.some.inj h
  subst he
  clear h
  have HR0 := Lib.hid hr0
  have HR1 := Lib.hid hr1
  have hmx : (l0.length : Int) ≤ 9223372036854775807 := by have := hr0.2.1; omega
  clear hr0 hr1
  go_enter Try.func20, Try.ntmps20
  go_wp2_with fail
  go_loopw [5] (fun i wr => ∃ k : Nat, i = .int .i64 (k : Int) ∧ k ≤ l0.length ∧ Drawn0 w wr) (fun i _ => l0.length - (intOf i).toNat)
  case atStart => exact ⟨0, rfl, by omega, Drawn0.refl _⟩
  case round =>
    obtain ⟨k, rfl, hk, ⟨m, rfl⟩⟩ := hrel
    by_cases hlt : k < l0.length
    · obtain ⟨ad, A2, c2, rfl, e0, e1, e2, hl2, hC2⟩ := at_T39 HR0.out (k : Int) (by omega) (by omega)
      obtain ⟨ad', A2', c2', rfl, e0', e1', e2', hl2', hC2'⟩ := at_T39 HR1.out (k : Int) (by omega) (by omega)
      rw [rd_ops k hlt, Int.toNat_natCast] at *
      generalize l0[k] = o at *
      obtain ⟨f0, f1, f2⟩ := o
      simp only at *
      have hs : ∀ n, (convert 26 9 (.slice A2 f2.length c2)).run Try.prog (w.drewN n) = .ok (.string (strOfNums f2)) (w.drewN n) := fun n => Kd.C_string Try.underlying26 Try.underlying5 Try.underlying9 (Kd.C_drewN hC2 n)
      have hs' : ∀ n, (convert 26 9 (.slice A2' f2.length c2')).run Try.prog (w.drewN n) = .ok (.string (strOfNums f2)) (w.drewN n) := fun n => Kd.C_string Try.underlying26 Try.underlying5 Try.underlying9 (Kd.C_drewN hC2' n)
      have hx : (f0 != f0) = false := by simp
      have hy : (f1 != f1) = false := by simp
      have hz : ((strOfNums f2).toList == (strOfNums f2).toList) = true := by simp
      clear hC2 hC2' hl2 hl2'
      generalize strOfNums f2 = sx at *
      generalize f2.length = n2 at *
      go_wp2_with fail
      go_quiet (fail)
      go_wp2
      go_roundw
      case rel => exact ⟨k + 1, by go_num, by omega, by repeat (first | exact Drawn0.refl _ | apply Drawn0.step)⟩
      case measure => simp [intOf]; omega
    · go_wp2
      go_ret
      exact ⟨rfl, (Drawn0.refl _).step _⟩
end Go.Proofs.Ytjckjcekapkkjaa.P
