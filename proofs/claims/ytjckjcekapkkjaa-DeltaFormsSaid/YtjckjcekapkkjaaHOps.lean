/- Deltas as lists of ops: copies and literals, their sizes, the check. -/
import Derived.Test.YtjckjcekapkkjaaPx0
import Derived.Test.YtjckjcekapkkjaaHPutUint
namespace Go.Proofs.Ytjckjcekapkkjaa.P
open Go.RowKit Go.Proofs.YtjckjcekapkkjaaW.PrintWords Go.Proofs.YtjckjcekapkkjaaW.PrintLast Go.Proofs.YtjckjcekapkkjaaW.PrintMore
set_option linter.unusedVariables false
set_option linter.unusedSimpArgs false

abbrev Dop := S39
def opCp (o : Dop) : Prop := 1 ≤ o.f1 ∧ o.f2 = []
def opLt (o : Dop) : Prop := o.f1 = 0 ∧ o.f0 = 0 ∧ o.f2 ≠ []
instance (o : Dop) : Decidable (opCp o) := by unfold opCp; infer_instance
instance (o : Dop) : Decidable (opLt o) := by unfold opLt; infer_instance
def opLen (o : Dop) : Int := o.f1 + o.f2.length
/-- The numbers are Go's, the literals' bytes fit in memory. -/
def opsB (l : List Dop) : Bool := l.all fun o => (Lit.int .i64 o.f0).wf && (Lit.int .i64 o.f1).wf && decide (o.f2.length ≤ 140737488355328)
def chk (base : Int) : Int → List Dop → Int × Int
  | n, [] => (n, 0)
  | n, o :: os =>
    if ¬ opCp o ∧ ¬ opLt o then (0, 260)
    else if opCp o ∧ (o.f0 < 0 ∨ o.f0 > base ∨ o.f1 > base - o.f0) then (0, 261)
    else if n + opLen o > 1048576 then (0, 262) else chk base (n + opLen o) os
def checkS (base : Int) (l : List Dop) : Int × Int := if base < 0 ∨ base > 1048576 then (0, 262) else if l.length > 4096 then (0, 263) else chk base 0 l

theorem opsB_rd {l : List Dop} (h : opsB l = true) (k : Nat) (hk : k < l.length) : (-9223372036854775808 ≤ (l[k]).f0 ∧ (l[k]).f0 ≤ 9223372036854775807) ∧ (-9223372036854775808 ≤ (l[k]).f1 ∧ (l[k]).f1 ≤ 9223372036854775807) ∧ (l[k]).f2.length ≤ 140737488355328 := by
  have := List.all_eq_true.1 h l[k] (List.getElem_mem hk)
  simp [Lit.wf, IntKind.min, IntKind.max, IntKind.signed, IntKind.bits] at this
  exact ⟨this.1.1, this.1.2, this.2⟩
theorem rd_ops {l : List Dop} (k : Nat) (hk : k < l.length) : rd_T39 l (k : Int) = l[k] := by
  unfold rd_T39
  simp [List.getElem?_eq_getElem hk]
theorem chk_cons {base n : Int} {l : List Dop} {k : Nat} (hk : k < l.length) : chk base n (l.drop k) =
    if ¬ opCp l[k] ∧ ¬ opLt l[k] then (0, 260)
    else if opCp l[k] ∧ (l[k].f0 < 0 ∨ l[k].f0 > base ∨ l[k].f1 > base - l[k].f0) then (0, 261)
    else if n + opLen l[k] > 1048576 then (0, 262) else chk base (n + opLen l[k]) (l.drop (k + 1)) := by
  rw [List.drop_eq_getElem_cons hk, chk]
/-- An op behind a normal delta. -/
def addOp (out : List Dop) (o : Dop) : List Dop :=
  match out.getLast? with
  | none => [o]
  | some la =>
    if opLt la ∧ opLt o then out.dropLast ++ [⟨0, 0, la.f2 ++ o.f2⟩]
    else if opCp la ∧ opCp o ∧ la.f0 + la.f1 = o.f0 then out.dropLast ++ [⟨la.f0, la.f1 + o.f1, []⟩]
    else out ++ [o]
/-- The length of what two lists have in common at their begin. -/
def lcp : List Int → List Int → Nat
  | x :: xs, y :: ys => if x = y then lcp xs ys + 1 else 0
  | _, _ => 0
/-- The first of the longest strings that begin t and occur in a (a begins at place s; best, from: what was found ahead of it). -/
def matchS (t : List Int) : List Int → Nat → Nat → Nat → Nat × Nat
  | [], _, best, from_ => (best, from_)
  | x :: a, s, best, from_ => if lcp (x :: a) t > best then matchS t a (s + 1) (lcp (x :: a) t) s else matchS t a (s + 1) best from_
/-- Cover t from the left (k: rounds). -/
def makeGo (a : List Int) : Nat → List Dop → List Int → List Dop
  | 0, out, _ => out
  | _ + 1, out, [] => out
  | k + 1, out, x :: t =>
    let m := matchS (x :: t) a 0 0 0
    if 4 ≤ m.1 then makeGo a k (addOp out ⟨(m.2 : Int), (m.1 : Int), []⟩) ((x :: t).drop m.1)
    else makeGo a k (addOp out ⟨0, 0, [x]⟩) t
def makeS (a b : List Int) : List Dop := makeGo a b.length [] b
def encOp (o : Dop) : List Int := if opCp o then encU (2 * o.f1 + 1).toNat ++ encU o.f0.toNat else encU (2 * o.f2.length) ++ o.f2
def encOps (l : List Dop) : List Int := encU l.length ++ l.flatMap encOp
def costB (l : List Dop) : Bool := l.all fun o => decide (opLt o ∨ opCp o ∧ 0 ≤ o.f0)
end Go.Proofs.Ytjckjcekapkkjaa.P
