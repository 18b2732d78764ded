/- A delta as the row of its bytes: a normal delta is told by them; composing, applying. -/
import Derived.Test.YtjckjcekapkkjaaPx0
import Derived.Test.YtjckjcekapkkjaaHOps
import Derived.Test.YtjckjcekapkkjaaHWrAdd
namespace Go.Proofs.Ytjckjcekapkkjaa.P
open Go.RowKit Go.Proofs.YtjckjcekapkkjaaW.PrintWords Go.Proofs.YtjckjcekapkkjaaW.PrintLast Go.Proofs.YtjckjcekapkkjaaW.PrintMore
set_option linter.unusedVariables false
set_option linter.unusedSimpArgs false

theorem getD_lt {α : Type} {l : List α} {d : α} {i : Nat} (h : i < l.length) : l.getD i d = l[i] := by simp [List.getD_eq_getElem?_getD, h]
/-- A byte of a delta's result: the base's byte at p, or a byte of its own. -/
inductive Atom where
  | cp (p : Int)
  | lit (b : Int)
def opAtoms (o : Dop) : List Atom := if o.f2 = [] then (List.range o.f1.toNat).map (fun i : Nat => Atom.cp (o.f0 + i)) else o.f2.map Atom.lit
def atoms (l : List Dop) : List Atom := l.flatMap opAtoms
/-- Two ops that are not to be joined. -/
def apart (x y : Dop) : Prop := ¬ (opLt x ∧ opLt y ∨ opCp x ∧ opCp y ∧ x.f0 + x.f1 = y.f0)
def okOps (l : List Dop) : Prop := ∀ o ∈ l, opCp o ∨ opLt o
theorem atoms_cons (o : Dop) (m : List Dop) : atoms (o :: m) = opAtoms o ++ atoms m := by simp [atoms]
theorem atoms_nil : atoms [] = [] := rfl
theorem opAtoms_len {o : Dop} (h : opCp o ∨ opLt o) : ((opAtoms o).length : Int) = opLen o := by
  unfold opAtoms opLen
  rcases h with ⟨h1, h2⟩ | ⟨h1, h2, h3⟩
  · rw [if_pos h2, h2]; simp; omega
  · rw [if_neg h3, h1]; simp
/-- Right ops on a base of n bytes. -/
def goodOps (n : Int) (l : List Dop) : Prop := ∀ o ∈ l, goodOp n o
theorem goodOps.ok {n : Int} {l : List Dop} (h : goodOps n l) : okOps l := fun o ho => good_kind (h o ho)
theorem atoms_len : ∀ {l : List Dop}, okOps l → ((atoms l).length : Int) = (l.map opLen).sum
  | [], _ => rfl
  | o :: l, h => by
    rw [atoms_cons, List.length_append, List.map_cons, List.sum_cons, ← atoms_len (l := l) (fun x hx => h x (by simp [hx])), ← opAtoms_len (h o (by simp))]
    omega
/-- A byte of the result, out of the base. -/
def evA (base : List Int) (x : Atom) : Int := match x with | .cp p => base.getD p.toNat 0 | .lit b => b
/-- The result of a right delta. -/
def applyS (base : List Int) (l : List Dop) : List Int := (atoms l).map (evA base)
theorem applyS_op (base : List Int) (o : Dop) (h : (opCp o ∧ 0 ≤ o.f0 ∧ o.f0 + o.f1 ≤ base.length) ∨ opLt o) : (opAtoms o).map (evA base) = if o.f2 = [] then (base.drop o.f0.toNat).take o.f1.toNat else o.f2 := by
  unfold opAtoms
  rcases h with ⟨⟨h1, h2⟩, h3, h4⟩ | h1
  · rw [if_pos h2, if_pos h2, List.map_map]
    apply List.ext_getElem
    · simp; omega
    · intro i h5 h6
      simp at h5 h6
      simp only [List.getElem_map, List.getElem_range, Function.comp, evA, List.getElem_take, List.getElem_drop]
      rw [getD_lt (by omega)]
      congr 1
      omega
  · rw [if_neg h1.2.2, if_neg h1.2.2, List.map_map]
    conv => rhs; rw [← List.map_id o.f2]
    rfl
end Go.Proofs.Ytjckjcekapkkjaa.P
