/- The contract of delta.kind: a copy, a literal, or nothing. -/
import Derived.Test.YtjckjcekapkkjaaPx0
import Derived.Lib.Hide
import Derived.Outline
import Derived.Deep.DeepMust
namespace Go.Proofs.Ytjckjcekapkkjaa.P
open Go.RowKit Go.Proofs.YtjckjcekapkkjaaW.PrintWords Go.Proofs.YtjckjcekapkkjaaW.PrintLast Go.Proofs.YtjckjcekapkkjaaW.PrintMore
set_option linter.unusedVariables false
set_option linter.unusedSimpArgs false

set_option maxHeartbeats 1000000 in
theorem kind_copy (a0 a1 : Int) (A : Option Addr) (c : Nat) (w : World) (h : 1 ≤ a1) :
    Calls Try.prog 47 #[.agg #[.int .i64 a0, .int .i64 a1, .slice A 0 c]] w fun e w' => e = .returned (.iface 72 (.agg #[.int .i64 a0, .int .i64 a1])) ∧ Below w.heap.size w w' := by
  go_enter Try.func47, Try.ntmps47
  go_wp2
  all_goals go_ret
  all_goals exact ⟨rfl, by repeat (first | exact Below.refl _ _ | apply below_alloc | apply pw_below_drewN | apply below_drew)⟩
set_option maxHeartbeats 1000000 in
theorem kind_literal (a0 a1 : Int) (A : Option Addr) (n c : Nat) (w : World) (h0 : a0 = 0) (h1 : a1 = 0) (h : 0 < n) :
    Calls Try.prog 47 #[.agg #[.int .i64 a0, .int .i64 a1, .slice A n c]] w fun e w' => e = .returned (.iface 73 (.slice A n c)) ∧ Below w.heap.size w w' := by
  subst h0 h1
  go_enter Try.func47, Try.ntmps47
  go_wp2
  all_goals go_ret
  all_goals exact ⟨rfl, by repeat (first | exact Below.refl _ _ | apply below_alloc | apply pw_below_drewN | apply below_drew)⟩
set_option maxHeartbeats 1000000 in
theorem kind_none1 (a0 a1 : Int) (A : Option Addr) (n c : Nat) (w : World) (h : 1 ≤ a1) (hn : 0 < n) :
    Calls Try.prog 47 #[.agg #[.int .i64 a0, .int .i64 a1, .slice A n c]] w fun e w' => e = .returned (.nilIface) ∧ Below w.heap.size w w' := by
  have b1 : (a1 == 0) = false := by simp; omega
  have b2 : ((n : Int) == 0) = false := by simp; omega
  go_enter Try.func47, Try.ntmps47
  go_wp2
  all_goals go_ret
  all_goals exact ⟨rfl, by repeat (first | exact Below.refl _ _ | apply below_alloc | apply pw_below_drewN | apply below_drew)⟩
set_option maxHeartbeats 1000000 in
theorem kind_none2 (a0 a1 : Int) (A : Option Addr) (n c : Nat) (w : World) (h : a1 < 0) :
    Calls Try.prog 47 #[.agg #[.int .i64 a0, .int .i64 a1, .slice A n c]] w fun e w' => e = .returned (.nilIface) ∧ Below w.heap.size w w' := by
  have b1 : (a1 == 0) = false := by simp; omega
  go_enter Try.func47, Try.ntmps47
  go_wp2
  all_goals go_ret
  all_goals exact ⟨rfl, by repeat (first | exact Below.refl _ _ | apply below_alloc | apply pw_below_drewN | apply below_drew)⟩
set_option maxHeartbeats 1000000 in
theorem kind_none3 (a0 a1 : Int) (A : Option Addr) (n c : Nat) (w : World) (h : a1 = 0) (h0 : a0 ≠ 0) :
    Calls Try.prog 47 #[.agg #[.int .i64 a0, .int .i64 a1, .slice A n c]] w fun e w' => e = .returned (.nilIface) ∧ Below w.heap.size w w' := by
  subst h
  have b1 : (a0 == 0) = false := by simpa using h0
  go_enter Try.func47, Try.ntmps47
  go_wp2
  all_goals go_ret
  all_goals exact ⟨rfl, by repeat (first | exact Below.refl _ _ | apply below_alloc | apply pw_below_drewN | apply below_drew)⟩
set_option maxHeartbeats 1000000 in
theorem kind_none4 (a0 a1 : Int) (A : Option Addr) (c : Nat) (w : World) (h : a1 = 0) (h0 : a0 = 0) :
    Calls Try.prog 47 #[.agg #[.int .i64 a0, .int .i64 a1, .slice A 0 c]] w fun e w' => e = .returned (.nilIface) ∧ Below w.heap.size w w' := by
  subst h h0
  go_enter Try.func47, Try.ntmps47
  go_wp2
  all_goals go_ret
  all_goals exact ⟨rfl, by repeat (first | exact Below.refl _ _ | apply below_alloc | apply pw_below_drewN | apply below_drew)⟩
end Go.Proofs.Ytjckjcekapkkjaa.P
