/- A delta as the row of its bytes: a normal delta is told by them; composing, applying. -/
import Derived.Test.YtjckjcekapkkjaaPx0
import Derived.Test.YtjckjcekapkkjaaHOps
import Derived.Test.YtjckjcekapkkjaaHWrAdd
namespace Go.Proofs.Ytjckjcekapkkjaa.P
open Go.RowKit Go.Proofs.YtjckjcekapkkjaaW.PrintWords Go.Proofs.YtjckjcekapkkjaaW.PrintLast Go.Proofs.YtjckjcekapkkjaaW.PrintMore
set_option linter.unusedVariables false
set_option linter.unusedSimpArgs false

/-- A byte of a delta's result: the base's byte at p, or a byte of its own. -/
inductive Atom where
  | cp (p : Int)
  | lit (b : Int)
def opAtoms (o : Dop) : List Atom := if o.f2 = [] then (List.range o.f1.toNat).map (fun i : Nat => Atom.cp (o.f0 + i)) else o.f2.map Atom.lit
def atoms (l : List Dop) : List Atom := l.flatMap opAtoms
/-- Two ops that are not to be joined. -/
def apart (x y : Dop) : Prop := ¬ (opLt x ∧ opLt y ∨ opCp x ∧ opCp y ∧ x.f0 + x.f1 = y.f0)
def okOps (l : List Dop) : Prop := ∀ o ∈ l, opCp o ∨ opLt o
theorem atoms_cons (o : Dop) (m : List Dop) : atoms (o :: m) = opAtoms o ++ atoms m := by simp [atoms]
theorem cp_not_lt {o : Dop} (h : opCp o) : ¬ opLt o := fun h2 => h2.2.2 h.2
theorem opAtoms_len {o : Dop} (h : opCp o ∨ opLt o) : ((opAtoms o).length : Int) = opLen o := by
  unfold opAtoms opLen
  rcases h with ⟨h1, h2⟩ | ⟨h1, h2, h3⟩
  · rw [if_pos h2, h2]; simp; omega
  · rw [if_neg h3, h1]; simp
/-- The part of an op from a to b - 1. -/
def opPart (o : Dop) (a b : Int) : Dop := if opCp o then ⟨o.f0 + a, b - a, []⟩ else ⟨0, 0, (o.f2.take b.toNat).drop a.toNat⟩
theorem opPart_ok {o : Dop} {a b : Int} (h : opCp o ∨ opLt o) (h0 : 0 ≤ a) (h1 : a < b) (h2 : b ≤ opLen o) : opCp (opPart o a b) ∨ opLt (opPart o a b) := by
  unfold opPart
  split
  · exact .inl ⟨by show 1 ≤ b - a; omega, rfl⟩
  · rename_i hc
    have hl := h.resolve_left hc
    refine .inr ⟨rfl, rfl, ?_⟩
    simp only
    intro e
    have e := congrArg List.length e
    unfold opLen at h2
    rw [hl.1] at h2
    simp at e
    omega
theorem partS_cons (out : List Dop) (o : Dop) (os : List Dop) (at_ from_ to_ : Int) : partS out (o :: os) at_ from_ to_ = partS (if mx (from_ - at_) 0 < mn (to_ - at_) (opLen o) then addOp out (opPart o (mx (from_ - at_) 0) (mn (to_ - at_) (opLen o))) else out) os (at_ + opLen o) from_ to_ := by
  rw [partS]
  unfold opPart
  congr 1
  split
  · split <;> rfl
  · rfl
theorem opLen_pos {o : Dop} (h : opCp o ∨ opLt o) : 1 ≤ opLen o := by
  unfold opLen
  rcases h with ⟨h1, h2⟩ | ⟨h1, h2, h3⟩
  · rw [h2]; simp; exact h1
  · have : 0 < o.f2.length := List.length_pos_iff.2 h3
    omega
/-- Right ops on a base of n bytes. -/
def goodOps (n : Int) (l : List Dop) : Prop := ∀ o ∈ l, goodOp n o
theorem goodOps.ok {n : Int} {l : List Dop} (h : goodOps n l) : okOps l := fun o ho => good_kind (h o ho)
theorem atoms_len : ∀ {l : List Dop}, okOps l → ((atoms l).length : Int) = (l.map opLen).sum
  | [], _ => rfl
  | o :: l, h => by
    rw [atoms_cons, List.length_append, List.map_cons, List.sum_cons, ← atoms_len (l := l) (fun x hx => h x (by simp [hx])), ← opAtoms_len (h o (by simp))]
    omega
/-- A byte of the result, out of the base. -/
def evA (base : List Int) (x : Atom) : Int := match x with | .cp p => base.getD p.toNat 0 | .lit b => b
/-- The result of a right delta. -/
def applyS (base : List Int) (l : List Dop) : List Int := (atoms l).map (evA base)
end Go.Proofs.Ytjckjcekapkkjaa.P
