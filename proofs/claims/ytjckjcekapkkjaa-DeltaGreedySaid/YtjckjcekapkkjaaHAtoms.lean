/- A delta as the row of its bytes: a normal delta is told by them; composing, applying. -/
import Derived.Test.YtjckjcekapkkjaaPx0
import Derived.Test.YtjckjcekapkkjaaHOps
import Derived.Test.YtjckjcekapkkjaaHWrAdd
namespace Go.Proofs.Ytjckjcekapkkjaa.P
open Go.RowKit Go.Proofs.YtjckjcekapkkjaaW.PrintWords Go.Proofs.YtjckjcekapkkjaaW.PrintLast Go.Proofs.YtjckjcekapkkjaaW.PrintMore
set_option linter.unusedVariables false
set_option linter.unusedSimpArgs false

theorem getD_lt {α : Type} {l : List α} {d : α} {i : Nat} (h : i < l.length) : l.getD i d = l[i] := by simp [List.getD_eq_getElem?_getD, h]
/-- A byte of a delta's result: the base's byte at p, or a byte of its own. -/
inductive Atom where
  | cp (p : Int)
  | lit (b : Int)
def opAtoms (o : Dop) : List Atom := if o.f2 = [] then (List.range o.f1.toNat).map (fun i : Nat => Atom.cp (o.f0 + i)) else o.f2.map Atom.lit
def atoms (l : List Dop) : List Atom := l.flatMap opAtoms
/-- Two ops that are not to be joined. -/
def apart (x y : Dop) : Prop := ¬ (opLt x ∧ opLt y ∨ opCp x ∧ opCp y ∧ x.f0 + x.f1 = y.f0)
def nrm : List Dop → Prop
  | x :: y :: l => apart x y ∧ nrm (y :: l)
  | _ => True
def okOps (l : List Dop) : Prop := ∀ o ∈ l, opCp o ∨ opLt o
theorem atoms_append (l m : List Dop) : atoms (l ++ m) = atoms l ++ atoms m := by simp [atoms]
theorem atoms_cons (o : Dop) (m : List Dop) : atoms (o :: m) = opAtoms o ++ atoms m := by simp [atoms]
theorem atoms_one (o : Dop) : atoms [o] = opAtoms o := by simp [atoms]
theorem atoms_nil : atoms [] = [] := rfl
theorem opAtoms_cp (p : Int) (s : Nat) : opAtoms ⟨p, s, []⟩ = (List.range s).map (fun i : Nat => Atom.cp (p + i)) := by simp [opAtoms]
theorem opAtoms_lit (l : List Int) (h : l ≠ []) (a b : Int) : opAtoms ⟨a, b, l⟩ = l.map Atom.lit := by simp [opAtoms, h]
theorem opAtoms_len {o : Dop} (h : opCp o ∨ opLt o) : ((opAtoms o).length : Int) = opLen o := by
  unfold opAtoms opLen
  rcases h with ⟨h1, h2⟩ | ⟨h1, h2, h3⟩
  · rw [if_pos h2, h2]; simp; omega
  · rw [if_neg h3, h1]; simp
theorem nrm_snoc : ∀ (l : List Dop) (x y : Dop), nrm (l ++ [x]) → apart x y → nrm (l ++ [x] ++ [y])
  | [], x, y, _, h => ⟨h, trivial⟩
  | [a], x, y, h1, h => ⟨h1.1, h, trivial⟩
  | a :: b :: l, x, y, h1, h => ⟨h1.1, nrm_snoc (b :: l) x y h1.2 h⟩
theorem nrm_init : ∀ (l : List Dop) (x : Dop), nrm (l ++ [x]) → nrm l
  | [], x, _ => trivial
  | [a], x, _ => trivial
  | a :: b :: l, x, h => ⟨h.1, nrm_init (b :: l) x h.2⟩
theorem nrm_last : ∀ (l : List Dop) (x y : Dop), nrm (l ++ [x] ++ [y]) → apart x y
  | [], x, y, h => h.1
  | [a], x, y, h => h.2.1
  | a :: b :: l, x, y, h => nrm_last (b :: l) x y h.2
theorem nrm_swap (l : List Dop) (x y : Dop) (h : nrm (l ++ [x])) (hxy : ∀ z, apart z x → apart z y) : nrm (l ++ [y]) := by
  rcases snoc_cases l with rfl | ⟨i, z, rfl⟩
  · trivial
  · exact nrm_snoc i z y (nrm_init _ _ h) (hxy z (nrm_last _ _ _ h))
theorem okOps_snoc {l : List Dop} {x : Dop} (h : okOps (l ++ [x])) : okOps l ∧ (opCp x ∨ opLt x) := ⟨fun o ho => h o (by simp [ho]), h x (by simp)⟩
theorem okOps_app {l m : List Dop} (h : okOps l) (h2 : okOps m) : okOps (l ++ m) := fun o ho => (List.mem_append.1 ho).elim (h o) (h2 o)
theorem addOp_ok {l : List Dop} {o : Dop} (h : okOps l) (ho : opCp o ∨ opLt o) : okOps (addOp l o) := by
  rcases snoc_cases l with rfl | ⟨init, la, rfl⟩
  · rw [addOp_nil]; intro x hx; rw [List.mem_singleton.1 hx]; exact ho
  · obtain ⟨h1, h2⟩ := okOps_snoc h
    rw [addOp_snoc]
    split
    · rename_i hb
      exact okOps_app h1 (fun x hx => by rw [List.mem_singleton.1 hx]; exact .inr ⟨rfl, rfl, by simp [hb.1.2.2]⟩)
    · split
      · rename_i hb
        exact okOps_app h1 (fun x hx => by rw [List.mem_singleton.1 hx]; exact .inl ⟨by have := hb.1.1; have := hb.2.1.1; show 1 ≤ la.f1 + o.f1; omega, rfl⟩)
      · exact okOps_app h (fun x hx => by rw [List.mem_singleton.1 hx]; exact ho)
theorem addOp_atoms {l : List Dop} {o : Dop} (h : okOps l) (ho : opCp o ∨ opLt o) : atoms (addOp l o) = atoms l ++ opAtoms o := by
  rcases snoc_cases l with rfl | ⟨init, la, rfl⟩
  · rw [addOp_nil, atoms_one, atoms_nil]; rfl
  · obtain ⟨h1, h2⟩ := okOps_snoc h
    rw [addOp_snoc]
    split
    · rename_i hb
      rw [atoms_append, atoms_append, atoms_one, atoms_one, List.append_assoc]
      congr 1
      obtain ⟨⟨_, _, a3⟩, ⟨_, _, b3⟩⟩ := hb
      unfold opAtoms
      rw [if_neg a3, if_neg b3, if_neg (by simp [a3])]
      simp
    · split
      · rename_i hb
        obtain ⟨⟨a1, a2⟩, ⟨b1, b2⟩, e⟩ := hb
        rw [atoms_append, atoms_append, atoms_one, atoms_one, List.append_assoc]
        congr 1
        unfold opAtoms
        rw [if_pos a2, if_pos b2, if_pos rfl]
        simp only
        rw [show (la.f1 + o.f1).toNat = la.f1.toNat + o.f1.toNat by omega, List.range_add, List.map_append, List.map_map]
        congr 1
        refine List.map_congr_left (fun i _ => ?_)
        simp only [Function.comp]
        congr 1
        omega
      · rw [atoms_append, atoms_one]
theorem addOp_nrm {l : List Dop} {o : Dop} (h : okOps l) (hn : nrm l) (ho : opCp o ∨ opLt o) : nrm (addOp l o) := by
  rcases snoc_cases l with rfl | ⟨init, la, rfl⟩
  · rw [addOp_nil]; trivial
  · obtain ⟨h1, h2⟩ := okOps_snoc h
    rw [addOp_snoc]
    split
    · rename_i hb
      refine nrm_swap init la _ hn (fun z hz => ?_)
      rintro (⟨q1, q2⟩ | ⟨q1, q2, q3⟩)
      · exact hz (.inl ⟨q1, hb.1⟩)
      · exact hb.1.2.2 (by simpa using congrArg (List.take la.f2.length) q2.2)
    · split
      · rename_i hb
        refine nrm_swap init la _ hn (fun z hz => ?_)
        rintro (⟨q1, q2⟩ | ⟨q1, q2, q3⟩)
        · exact q2.2.2 rfl
        · exact hz (.inr ⟨q1, hb.1, q3⟩)
      · rename_i hb hc
        refine nrm_snoc init la o hn ?_
        rintro (q | q)
        · exact hb q
        · exact hc q
theorem opLen_pos {o : Dop} (h : opCp o ∨ opLt o) : 1 ≤ opLen o := by
  unfold opLen
  rcases h with ⟨h1, h2⟩ | ⟨h1, h2, h3⟩
  · rw [h2]; simp; exact h1
  · have : 0 < o.f2.length := List.length_pos_iff.2 h3
    omega
/-- Right ops on a base of n bytes. -/
def goodOps (n : Int) (l : List Dop) : Prop := ∀ o ∈ l, goodOp n o
theorem goodOps.ok {n : Int} {l : List Dop} (h : goodOps n l) : okOps l := fun o ho => good_kind (h o ho)
theorem atoms_len : ∀ {l : List Dop}, okOps l → ((atoms l).length : Int) = (l.map opLen).sum
  | [], _ => rfl
  | o :: l, h => by
    rw [atoms_cons, List.length_append, List.map_cons, List.sum_cons, ← atoms_len (l := l) (fun x hx => h x (by simp [hx])), ← opAtoms_len (h o (by simp))]
    omega
/-- A byte of the result, out of the base. -/
def evA (base : List Int) (x : Atom) : Int := match x with | .cp p => base.getD p.toNat 0 | .lit b => b
/-- The result of a right delta. -/
def applyS (base : List Int) (l : List Dop) : List Int := (atoms l).map (evA base)
theorem applyS_op (base : List Int) (o : Dop) (h : (opCp o ∧ 0 ≤ o.f0 ∧ o.f0 + o.f1 ≤ base.length) ∨ opLt o) : (opAtoms o).map (evA base) = if o.f2 = [] then (base.drop o.f0.toNat).take o.f1.toNat else o.f2 := by
  unfold opAtoms
  rcases h with ⟨⟨h1, h2⟩, h3, h4⟩ | h1
  · rw [if_pos h2, if_pos h2, List.map_map]
    apply List.ext_getElem
    · simp; omega
    · intro i h5 h6
      simp at h5 h6
      simp only [List.getElem_map, List.getElem_range, Function.comp, evA, List.getElem_take, List.getElem_drop]
      rw [getD_lt (by omega)]
      congr 1
      omega
  · rw [if_neg h1.2.2, if_neg h1.2.2, List.map_map]
    conv => rhs; rw [← List.map_id o.f2]
    rfl
end Go.Proofs.Ytjckjcekapkkjaa.P
