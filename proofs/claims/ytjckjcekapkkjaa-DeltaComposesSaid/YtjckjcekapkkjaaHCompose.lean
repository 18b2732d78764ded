/- The contract of delta.Compose. -/
-- HAND stockyard/delta.Compose
import Derived.Test.YtjckjcekapkkjaaPx0
import Derived.Test.YtjckjcekapkkjaaHAtoms
import Derived.Test.YtjckjcekapkkjaaHCheck
import Derived.Test.YtjckjcekapkkjaaHChkOk
import Derived.Test.YtjckjcekapkkjaaHMakeEv
import Derived.Test.YtjckjcekapkkjaaHMakeOk
import Derived.Test.YtjckjcekapkkjaaHOps
import Derived.Test.YtjckjcekapkkjaaHWrAdd
import Derived.Test.YtjckjcekapkkjaaHWriter
import Derived.Shelf.SlSorted.Search
import Derived.Lib.Hide
import Derived.Outline
import Derived.Deep.DeepMust
namespace Go.Proofs.Ytjckjcekapkkjaa.P
open Go.RowKit Go.Proofs.YtjckjcekapkkjaaW.PrintWords Go.Proofs.YtjckjcekapkkjaaW.PrintLast Go.Proofs.YtjckjcekapkkjaaW.PrintMore
set_option linter.unusedVariables false
set_option linter.unusedSimpArgs false

/-- How many bytes the first i ops make. -/
def pre (l : List Dop) (i : Nat) : Int := sizeS (l.take i)
theorem sizeS_cons (o : Dop) (l : List Dop) : sizeS (o :: l) = opLen o + sizeS l := by simp [sizeS]
theorem sizeS_app (l m : List Dop) : sizeS (l ++ m) = sizeS l + sizeS m := by simp [sizeS]
theorem pre_zero (l : List Dop) : pre l 0 = 0 := by simp [pre, sizeS]
theorem pre_succ {l : List Dop} {i : Nat} (h : i < l.length) : pre l (i + 1) = pre l i + opLen l[i] := by
  unfold pre
  rw [List.take_succ_eq_append_getElem h, sizeS_app]
  simp [sizeS]
theorem sizeS_nonneg {l : List Dop} (h : okOps l) : 0 ≤ sizeS l := by
  have := applyS_len (base := []) h
  omega
theorem pre_le {l : List Dop} (h : okOps l) (i : Nat) : 0 ≤ pre l i ∧ pre l i ≤ sizeS l := by
  unfold pre
  have h1 : okOps (l.take i) := fun o ho => h o (List.mem_of_mem_take ho)
  have h2 : okOps (l.drop i) := fun o ho => h o (List.mem_of_mem_drop ho)
  have e : sizeS l = sizeS (l.take i) + sizeS (l.drop i) := by rw [← sizeS_app, List.take_append_drop]
  have := sizeS_nonneg h1
  have := sizeS_nonneg h2
  omega
theorem pre_mono {l : List Dop} (h : okOps l) {i j : Nat} (hij : i ≤ j) : pre l i ≤ pre l j := by
  have : l.take i = (l.take j).take i := by rw [List.take_take, Nat.min_eq_left hij]
  have h1 : okOps (l.take j) := fun o ho => h o (List.mem_of_mem_take ho)
  have := (pre_le h1 i).2
  unfold pre at *
  rw [List.take_take, Nat.min_eq_left hij] at this
  exact this
theorem part_none : ∀ (os out : List Dop) (at_ f : Int), partS out os at_ f f = out
  | [], out, at_, f => rfl
  | o :: os, out, at_, f => by
    rw [partS_cons, if_neg (by unfold mx mn; split <;> split <;> omega)]
    exact part_none os out _ f
theorem part_same : ∀ (os out : List Dop) (at_ f f' t : Int), okOps os → f ≤ at_ → f' ≤ at_ → partS out os at_ f t = partS out os at_ f' t
  | [], out, at_, f, f', t, _, _, _ => rfl
  | o :: os, out, at_, f, f', t, h, h1, h2 => by
    have hp := opLen_pos (h o (by simp))
    have e : mx (f - at_) 0 = 0 := by unfold mx; split <;> omega
    have e' : mx (f' - at_) 0 = 0 := by unfold mx; split <;> omega
    rw [partS_cons, partS_cons, e, e']
    exact part_same os _ _ f f' t (fun x hx => h x (by simp [hx])) (by omega) (by omega)
theorem part_skip {o : Dop} {os out : List Dop} {at_ f t : Int} (h : at_ + opLen o ≤ f) : partS out (o :: os) at_ f t = partS out os (at_ + opLen o) f t := by
  rw [partS_cons, if_neg (by unfold mx mn; split <;> split <;> omega)]
theorem part_to {l out : List Dop} {f t : Int} (hl : okOps l) : ∀ (i : Nat), i ≤ l.length → pre l i ≤ f → partS out l 0 f t = partS out (l.drop i) (pre l i) f t
  | 0, _, _ => by rw [pre_zero]; rfl
  | i + 1, hi, hf => by
    have hi' : i < l.length := hi
    have hp := opLen_pos (hl _ (List.getElem_mem hi'))
    have e := pre_succ hi'
    rw [part_to hl i (by omega) (by omega), List.drop_eq_getElem_cons hi', part_skip (by omega), ← e]
theorem part_step {l out : List Dop} {f t : Int} (hl : okOps l) {i : Nat} (hi : i < l.length) (h1 : pre l i ≤ f) (h2 : f < pre l (i + 1)) (h3 : f < t) :
    partS out (l.drop i) (pre l i) f t = partS (addOp out (opPart l[i] (f - pre l i) (mn t (pre l (i + 1)) - pre l i))) (l.drop (i + 1)) (pre l (i + 1)) (mn t (pre l (i + 1))) t := by
  have e := pre_succ hi
  have hp := opLen_pos (hl _ (List.getElem_mem hi))
  have e1 : mx (f - pre l i) 0 = f - pre l i := by unfold mx; split <;> omega
  have e2 : mn (t - pre l i) (opLen l[i]) = mn t (pre l (i + 1)) - pre l i := by unfold mn; split <;> split <;> omega
  rw [List.drop_eq_getElem_cons hi, partS_cons, e1, e2, if_pos (by unfold mn; split <;> omega), ← e]
  exact part_same _ _ _ _ _ _ (fun x hx => hl x (List.mem_of_mem_drop hx)) (by omega) (by unfold mn; split <;> omega)
theorem addOp_mono (l : List Dop) (o : Dop) : l.length ≤ (addOp l o).length := by
  rcases snoc_cases l with rfl | ⟨init, la, rfl⟩
  · simp
  · rw [addOp_snoc]; split
    · simp
    · split <;> simp
theorem partS_mono : ∀ (os out : List Dop) (at_ f t : Int), out.length ≤ (partS out os at_ f t).length
  | [], out, at_, f, t => Nat.le_refl _
  | o :: os, out, at_, f, t => by
    rw [partS_cons]
    refine Nat.le_trans ?_ (partS_mono os _ _ f t)
    split
    · exact addOp_mono _ _
    · exact Nat.le_refl _
theorem compGo_mono (first : List Dop) : ∀ (os out : List Dop), out.length ≤ (compGo first out os).length
  | [], out => Nat.le_refl _
  | o :: os, out => by
    rw [compGo]
    refine Nat.le_trans ?_ (compGo_mono first os _)
    split
    · exact partS_mono _ _ _ _ _
    · exact addOp_mono _ _
theorem opPart_good {n : Int} {o : Dop} {a b : Int} (h : goodOp n o) (h0 : 0 ≤ a) (h1 : a < b) (h2 : b ≤ opLen o) : goodOp n (opPart o a b) := by
  have hk := opPart_ok (good_kind h) h0 h1 h2
  rcases h with ⟨hc, a3, a4⟩ | hl
  · have hl : opLen o = o.f1 := by unfold opLen; rw [hc.2]; simp
    unfold opPart at hk ⊢
    rw [if_pos hc] at hk ⊢
    exact .inl ⟨⟨by show 1 ≤ b - a; omega, rfl⟩, by show 0 ≤ o.f0 + a; omega, by show o.f0 + a + (b - a) ≤ n; omega⟩
  · have hn : ¬ opCp o := fun h => cp_not_lt h hl
    unfold opPart at hk ⊢
    rw [if_neg hn] at hk ⊢
    exact .inr (hk.resolve_left (fun h => by have := h.1; simp at this))
theorem opPart_lit {o : Dop} {a b : Int} (h : opLt o) : opPart o a b = ⟨0, 0, (o.f2.take b.toNat).drop a.toNat⟩ := by
  unfold opPart; rw [if_neg (fun hc => cp_not_lt hc h)]
theorem opPart_cp {o : Dop} {a b : Int} (h : opCp o) : opPart o a b = ⟨o.f0 + a, b - a, []⟩ := by
  unfold opPart; rw [if_pos h]
/-- Where the parts of a delta's result end. -/
def endsR : List Dop → Int → List Int
  | [], _ => []
  | o :: os, at_ => (at_ + opLen o) :: endsR os (at_ + opLen o)
theorem endsR_len : ∀ (l : List Dop) (at_ : Int), (endsR l at_).length = l.length
  | [], _ => rfl
  | o :: os, at_ => by simp [endsR, endsR_len os]
theorem endsR_get : ∀ (l : List Dop) (at_ : Int) (i : Nat) (h : i < (endsR l at_).length), (endsR l at_)[i] = at_ + pre l (i + 1)
  | [], at_, i, h => by simp [endsR] at h
  | o :: os, at_, 0, h => by simp [endsR, pre, sizeS]
  | o :: os, at_, i + 1, h => by
    simp only [endsR, List.getElem_cons_succ]
    rw [endsR_get os]
    have : pre (o :: os) (i + 1 + 1) = opLen o + pre os (i + 1) := by unfold pre; rw [List.take_succ_cons, sizeS_cons]
    omega
theorem ends_count : ∀ (l : List Dop) (at_ f : Int), okOps l → at_ ≤ f → (endsR l at_).countP (fun y => !decide (f + 1 ≤ y)) ≤ l.length ∧
    at_ + pre l ((endsR l at_).countP (fun y => !decide (f + 1 ≤ y))) ≤ f ∧ ((endsR l at_).countP (fun y => !decide (f + 1 ≤ y)) < l.length → f < at_ + pre l ((endsR l at_).countP (fun y => !decide (f + 1 ≤ y)) + 1))
  | [], at_, f, _, h => by simp [endsR, pre, sizeS]; exact h
  | o :: os, at_, f, hl, h => by
    have ho := opLen_pos (hl o (by simp))
    have hos : okOps os := fun x hx => hl x (by simp [hx])
    by_cases hc : at_ + opLen o ≤ f
    · obtain ⟨q1, q2, q3⟩ := ends_count os (at_ + opLen o) f hos hc
      rw [endsR, List.countP_cons_of_pos (by simp; omega)]
      generalize (endsR os (at_ + opLen o)).countP (fun y => !decide (f + 1 ≤ y)) = c at *
      have e : ∀ j, pre (o :: os) (j + 1) = opLen o + pre os j := fun j => by unfold pre; rw [List.take_succ_cons, sizeS_cons]
      refine ⟨by simp; exact q1, by rw [e]; omega, fun hlt => ?_⟩
      have := q3 (by simpa using hlt)
      rw [e]; omega
    · have hz : (endsR (o :: os) at_).countP (fun y => !decide (f + 1 ≤ y)) = 0 := by
        rw [List.countP_eq_zero]
        intro y hy
        obtain ⟨i, hi, rfl⟩ := List.mem_iff_getElem.1 hy
        rw [endsR_get]
        have := pre_mono hl (i := 1) (j := i + 1) (by omega)
        have e1 : pre (o :: os) 1 = opLen o := by simp [pre, sizeS]
        simp; omega
      rw [hz, pre_zero]
      refine ⟨by omega, by omega, fun _ => ?_⟩
      have e1 : pre (o :: os) (0 + 1) = opLen o := by simp [pre, sizeS]
      rw [e1]; omega
end Go.Proofs.Ytjckjcekapkkjaa.P

namespace Go.Proofs.Ytjckjcekapkkjaa.P
open Go.RowKit Go.Shelf Go.Proofs.YtjckjcekapkkjaaW.PrintWords Go.Proofs.YtjckjcekapkkjaaW.PrintLast Go.Proofs.YtjckjcekapkkjaaW.PrintMore
set_option linter.unusedVariables false
set_option linter.unusedSimpArgs false

def renS : Ren := ⟨fun k => if k = 14 then 53 else if k = 16 then 60 else if k = 22 then 61 else k, fun k => if k = 3 then 3 else if k = 4 then 4 else if k = 28 then 22 else if k = 35 then 89 else if k = 38 then 83 else k, fun k => k⟩
set_option maxRecDepth 100000 in
theorem laysS : SlLaysO.n14 Try.prog renS where
  mixed := by kernel_rfl
  f14 := by kernel_rfl
  f16 := by kernel_rfl
  f22 := by kernel_rfl
  t0 := by kernel_rfl
  a0 := fun _ => by kernel_rfl
  z0 := fun _ => by kernel_rfl
  v0 := fun _ => by kernel_rfl
  t3 := by kernel_rfl
  a3 := fun _ => by kernel_rfl
  z3 := fun _ => by kernel_rfl
  v3 := fun _ => by kernel_rfl
  t4 := by kernel_rfl
  a4 := fun _ => by kernel_rfl
  z4 := fun _ => by kernel_rfl
  v4 := fun _ => by kernel_rfl
  t28 := by kernel_rfl
  a28 := fun _ => by kernel_rfl
  z28 := fun _ => by kernel_rfl
  v28 := fun _ => by kernel_rfl
  t35 := by kernel_rfl
  a35 := fun _ => by kernel_rfl
  z35 := fun _ => by kernel_rfl
  v35 := fun _ => by kernel_rfl
  t38 := by kernel_rfl
  a38 := fun _ => by kernel_rfl
  z38 := fun _ => by kernel_rfl
  v38 := fun _ => by kernel_rfl
theorem search_ends (A : Option Addr) (c : Nat) (l : List Dop) (f : Int) (w : World) (hl : okOps l) (hn : l.length ≤ 4096) (hA : 0 < l.length → ∀ a, A = some a → a.spot = none ∧ a.block < w.heap.size) (hC : Kd.C (Kd.int .i64) w A l.length (endsR l 0)) :
    Calls Try.prog 53 #[.slice A l.length c, .int .i64 (f + 1)] w fun e w' => e = .returned (.int .i64 ((endsR l 0).countP (fun y => !decide (f + 1 ≤ y)) : Nat)) ∧ Below w.heap.size w w' := by
  have hlen := endsR_len l 0
  by_cases h0 : l.length = 0
  · have e : endsR l 0 = [] := List.length_eq_zero_iff.1 (by omega)
    rw [h0, e]
    exact Any.sort_SearchInts_none laysS A c (f + 1) w
  · obtain ⟨ad, rfl, _⟩ := Kd.at_int hC (0 : Int) (by omega) (by omega)
    obtain ⟨blk, off, spot⟩ := ad
    obtain ⟨hs, hb⟩ := hA (by omega) _ rfl
    simp only at hs hb
    subst hs
    have := Any.sort_SearchInts laysS blk off c (endsR l 0).toArray (f + 1) w ?_ hb (by simp; omega) ?_
    · rw [show (endsR l 0).toArray.size = l.length by simp [hlen]] at this
      exact this
    · intro i hi
      have hi' : i < l.length := by simp [hlen] at hi; exact hi
      obtain ⟨ad', e, hc⟩ := Kd.at_int hC (i : Int) (by omega) (by omega)
      injection e with e
      subst e
      have e2 : (⟨blk, off, none⟩ : Addr).add ((i : Int).toNat) = ⟨blk, off + i, none⟩ := by
        unfold Addr.add
        by_cases h0 : i = 0 <;> simp [h0]
      rw [e2] at hc
      have hi2 : i < (endsR l 0).length := by omega
      rw [hc, rd_at hi2]
      simp [hi, List.getElem?_eq_getElem hi2]
    · intro a b hab hb' h
      have hb2 : b < (endsR l 0).length := by simpa using hb'
      have ha2 : a < (endsR l 0).length := by omega
      simp only [List.getElem!_toArray, getElem!_pos, ha2, hb2, endsR_get, decide_eq_true_eq] at h ⊢
      have := pre_mono hl (i := a + 1) (j := b + 1) (by omega)
      omega
end Go.Proofs.Ytjckjcekapkkjaa.P

namespace Go.Proofs.Ytjckjcekapkkjaa.P
open Go.RowKit Go.Proofs.YtjckjcekapkkjaaW.PrintWords Go.Proofs.YtjckjcekapkkjaaW.PrintLast Go.Proofs.YtjckjcekapkkjaaW.PrintMore
set_option linter.unusedVariables false
set_option linter.unusedSimpArgs false

def delta_Compose.f (a0 : Int) (l1 l2 : List Dop) : Option (List Dop × Int) := if opsB l1 = true ∧ opsB l2 = true then some (compS a0 l1 l2) else none
/-- The ends of the first i parts, the others not yet written. -/
def endsTo (l : List Dop) (i : Nat) : List Int := (endsR l 0).take i ++ List.replicate (l.length - i) 0
theorem endsTo_len (l : List Dop) (i : Nat) (h : i ≤ l.length) : (endsTo l i).length = l.length := by
  unfold endsTo; rw [List.length_append, List.length_take, endsR_len, List.length_replicate]; omega
theorem endsTo_zero (l : List Dop) : endsTo l 0 = List.replicate l.length 0 := by simp [endsTo]
theorem endsTo_all (l : List Dop) : endsTo l l.length = endsR l 0 := by
  unfold endsTo; rw [Nat.sub_self, List.take_of_length_le (by rw [endsR_len]; omega)]; simp
theorem endsTo_set {l : List Dop} {i : Nat} (h : i < l.length) : (endsTo l i).set i (pre l (i + 1)) = endsTo l (i + 1) := by
  have hl : i < (endsR l 0).length := by rw [endsR_len]; exact h
  have hg := endsR_get l 0 i hl
  unfold endsTo
  rw [List.set_append_right _ _ (by rw [List.length_take]; omega), List.length_take, Nat.min_eq_left (by omega), Nat.sub_self]
  obtain ⟨d, hd⟩ : ∃ d, l.length - i = d + 1 := ⟨l.length - i - 1, by omega⟩
  rw [hd, List.replicate_succ, List.set_cons_zero, show l.length - (i + 1) = d by omega, List.take_succ_eq_append_getElem hl, hg, List.append_assoc]
  simp

theorem ints_at {W : World} {base n c k : Nat} {ok : Nat → Prop} {A : Option Addr} {xs : List Int} (h : Kd.R (Kd.int .i64) 3 W base ok (.slice A n c) xs) (hl : xs.length = n) (hk : k < n) :
    ∃ b, A = some ⟨b, 0, none⟩ ∧ base ≤ b ∧ b < W.heap.size ∧ (∃ old, W.cell? ⟨b, k, none⟩ = some (.int .i64 old)) ∧ W.frozen? ⟨b, k, none⟩ = false := by
  obtain ⟨b, cap, e3, hbb, hblt, cells, hcells⟩ := Kd.R_form h (by omega)
  injection e3 with e3 _ e5
  subst e3
  obtain ⟨ad5, e6, hcell⟩ := Kd.at_int (Kd.R_reads' h).2.2 (k : Int) (by omega) (by omega)
  injection e6 with e6
  subst e6
  obtain ⟨_, _, _, _, hfr⟩ := Kd.R_elem h (0 : Int) (k : Int) (by omega) (by omega)
  have hfr := hfr 0
  have e : (⟨b, 0, none⟩ : Addr).add ((k : Int).toNat) = ⟨b, k, none⟩ := by
    unfold Addr.add
    by_cases h0 : k = 0 <;> simp [h0]
  rw [e] at hcell
  rw [show (Kd.int IntKind.i64).sz = 1 from rfl, Nat.mul_one, Nat.add_zero, Int.toNat_natCast] at hfr
  exact ⟨b, rfl, hbb, hblt, ⟨_, hcell⟩, hfr⟩

theorem rd_ends {l : List Dop} {i : Nat} (h : i < l.length) : rd (endsR l 0) (i : Int) = pre l (i + 1) := by
  have hl : i < (endsR l 0).length := by rw [endsR_len]; exact h
  have := endsR_get l 0 i hl
  unfold rd
  rw [Int.toNat_natCast]
  rw [Int.zero_add] at this
  simp [List.getD, List.getElem?_eq_getElem hl, this]
theorem pre_all (l : List Dop) : pre l l.length = sizeS l := by unfold pre; rw [List.take_of_length_le (Nat.le_refl _)]
attribute [local go_sem] max2_int min2_int max_two min_two

set_option maxRecDepth 100000 in
set_option maxHeartbeats 4000000 in
theorem delta_Compose.calls (a0 : Int) (A1 : Option Addr) (c1 : Nat) (l1 : List S39) (A2 : Option Addr) (c2 : Nat) (l2 : List S39) (r1 : List S39) (r2 : Int) (w : World) (hr1 : Kd.C k39 w A1 l1.length l1) (hc1 : l1.length ≤ c1) (hr2 : Kd.C k39 w A2 l2.length l2) (hc2 : l2.length ≤ c2) (h : delta_Compose.f a0 l1 l2 = some (r1, r2)) :
    Calls Try.prog 34 #[.int .i64 a0, .slice A1 l1.length c1, .slice A2 l2.length c2] w fun e w' => ∃ v0_ : Value, e = .returned (.tuple #[v0_, .int .i64 r2]) ∧ Kd.S k39 39 w' w.heap.size (fun _ => True) v0_ r1 ∧ Below w.heap.size w w' := by
  unfold delta_Compose.f at h
  by_cases hB : opsB l1 = true ∧ opsB l2 = true
  case neg => rw [if_neg hB] at h; cases h
  rw [if_pos hB] at h
  have h := Option.some.inj h
  have HB := Lib.hid hB
  have HR1 := Lib.hid hr1
  have HR2 := Lib.hid hr2
  have HC1 := Lib.hid hc1
  have HC2 := Lib.hid hc2
  obtain ⟨n, e1, hck1⟩ : ∃ n e, checkS a0 l1 = (n, e) := ⟨_, _, rfl⟩
  obtain ⟨m, e2, hck2⟩ : ∃ m e, checkS n l2 = (m, e) := ⟨_, _, rfl⟩
  have HK1 := Lib.hid (show delta_Check.f a0 l1 = some (n, e1) by unfold delta_Check.f; rw [if_pos hB.1, hck1])
  have HK2 := Lib.hid (show delta_Check.f n l2 = some (m, e2) by unfold delta_Check.f; rw [if_pos hB.2, hck2])
  unfold compS at h
  rw [hck1] at h
  simp only at h
  rw [hck2] at h
  simp only at h
  clear hB hr1 hr2 hc1 hc2
  by_cases he1 : e1 = 0
  case neg =>
    have he' : (e1 != 0) = true := by simpa using he1
    rw [if_pos he1] at h
    simp only [Prod.mk.injEq] at h
    obtain ⟨rfl, rfl⟩ := h
    clear he1 hck1 hck2
    go_enter Try.func34, Try.ntmps34
    go_wp2_with fail
    refine (delta_Check.calls a0 A1 c1 l1 n e1 w HR1.out HC1.out HK1.out).mono ?_
    rintro e' w1 ⟨rfl, B1⟩
    go_wp2
    go_ret2
    exact ⟨_, rfl, Kd.S_nil _ _ _ _ _, B1⟩
  subst he1
  rw [if_neg (fun h => h rfl)] at h
  by_cases he2 : e2 = 0
  case neg =>
    have he' : (e2 != 0) = true := by simpa using he2
    rw [if_pos he2] at h
    simp only [Prod.mk.injEq] at h
    obtain ⟨rfl, rfl⟩ := h
    clear he2 hck1 hck2
    go_enter Try.func34, Try.ntmps34
    go_wp2_with fail
    refine (delta_Check.calls a0 A1 c1 l1 n 0 w HR1.out HC1.out HK1.out).mono ?_
    rintro e' w1 ⟨rfl, B1⟩
    have HR2' := Lib.hid (Kd.C_below HR2.out B1)
    go_wp2_with fail
    refine (delta_Check.calls n A2 c2 l2 m e2 w1 HR2'.out HC2.out HK2.out).mono ?_
    rintro e' w2 ⟨rfl, B2⟩
    have B3 := below_step B1 B2
    go_wp2
    go_ret2
    exact ⟨_, rfl, Kd.S_nil _ _ _ _ _, B3⟩
  subst he2
  rw [if_neg (fun h => h rfl)] at h
  obtain ⟨q1, q2, q3, q4, q5, q6, q7, q8⟩ := checkS_ok hck1
  obtain ⟨p1, p2, p3, p4, p5, p6, p7, p8⟩ := checkS_ok hck2
  have HG1 := Lib.hid q4
  have HG2 := Lib.hid p4
  have HH := Lib.hid h
  have HN := Lib.hid q5
  have HM := Lib.hid p5
  clear q4 p4 h q5 p5 hck1 hck2
  go_enter Try.func34, Try.ntmps34
  go_wp2_with fail
  refine (delta_Check.calls a0 A1 c1 l1 n 0 w HR1.out HC1.out HK1.out).mono ?_
  rintro e' w1 ⟨rfl, B1⟩
  have HR2' := Lib.hid (Kd.C_below HR2.out B1)
  go_wp2_with fail
  refine (delta_Check.calls n A2 c2 l2 m 0 w1 HR2'.out HC2.out HK2.out).mono ?_
  rintro e' w2 ⟨rfl, B2⟩
  have B3 := below_step B1 B2
  clear B1 B2 HR2'
  have hz2 := B3.size
  go_wp2_with ((with_reducible refine gate_dst (N := 44) rfl ?_); go_must (refine Kd.R_make (Kd.int .i64) (w0 := w) w.heap.size 3 ?hg (N := 44) ?hd 22 (.tmp 43) (.tmp 43) rfl (l1.length : Int) rfl rfl Try.underlying22 (.int .i64 0) 8 info_int rfl (by decide) (by decide) (0 : Int) (ok := fun _ => True) (okp := fun _ => True) rfl (fun _ h => h) trivial (by omega) (by omega) B3 hz2 ?_); (case hd => rfl); (case hg => rfl); intro v1 w3 hE hB4 hgr hown)
  obtain ⟨A3, c3, rfl⟩ := Kd.R_slice hE
  simp only [List.length_replicate, Int.toNat_natCast] at *
  have HE := Lib.hid hE
  clear hE hgr hown
  go_loopw [13, 47] (fun s i wr => ∃ k : Nat, s = .int .i64 (pre l1 k) ∧ i = .int .i64 (k : Int) ∧ k ≤ l1.length ∧ Kd.R (Kd.int .i64) 3 wr w.heap.size (fun _ => True) (.slice A3 l1.length c3) (endsTo l1 k) ∧ Below w.heap.size w wr) (fun _ i _ => l1.length - (intOf i).toNat)
  case atStart => exact ⟨0, by rw [pre_zero], rfl, by omega, by rw [endsTo_zero]; exact HE.out, hB4⟩
  case round =>
    obtain ⟨k, rfl, rfl, hk, hR, hb⟩ := hrel
    have HR := Lib.hid hR
    clear hR
    by_cases hlt : k < l1.length
    · obtain ⟨ad, A4, c4, rfl, e0, e1, e2, hl2, hC2⟩ := at_T39 (Kd.C_below HR1.out hb) (k : Int) (by omega) (by omega)
      obtain ⟨b, e3, hbb, hblt, ⟨old, hcell⟩, hfr⟩ := ints_at HR.out (endsTo_len l1 k hk) hlt
      subst e3
      have HSET := Lib.hid (endsTo_set hlt)
      have hps := pre_succ hlt
      have hok : okOps l1 := fun o ho => good_kind (HG1.out o ho)
      have hp0 := pre_le hok k
      have hp1 := pre_le hok (k + 1)
      have hnn := HN.out
      have hgo := HG1.out _ (List.getElem_mem hlt)
      have hfl := opLen_good hgo
      have hf1 : -1048576 ≤ l1[k].f1 ∧ l1[k].f1 ≤ 1048576 := by
        rcases hgo with ⟨⟨a, _⟩, b, c⟩ | ⟨a, b, _⟩ <;> omega
      have hops : opLen l1[k] = l1[k].f1 + (l1[k].f2.length : Int) := rfl
      rw [rd_ops k hlt, Int.toNat_natCast] at *
      rw [hops] at hps
      have HPS := Lib.hid hps
      have hw1 : -9223372036854775808 ≤ l1[k].f1 + (l1[k].f2.length : Int) ∧ l1[k].f1 + (l1[k].f2.length : Int) ≤ 9223372036854775807 := by omega
      have hw2 : -9223372036854775808 ≤ pre l1 k + (l1[k].f1 + (l1[k].f2.length : Int)) ∧ pre l1 k + (l1[k].f1 + (l1[k].f2.length : Int)) ≤ 9223372036854775807 := by omega
      clear hgo hfl hok hnn hp1 hps hops hC2
      generalize l1[k] = o at *
      obtain ⟨f0, f1, f2⟩ := o
      simp only at *
      have HPUT := Lib.hid (show Kd.R (Kd.int .i64) 3 (wr.setCell ⟨b, k, none⟩ (.int .i64 (pre l1 k + (f1 + (f2.length : Int))))) w.heap.size (fun _ => True) (.slice (some ⟨b, 0, none⟩) l1.length c3) (endsTo l1 (k + 1)) from by
        have hel := endsTo_len l1 k hk
        have hh := HR.out
        rw [← hel] at hh ⊢
        have := (Kd.R_put (enc := Value.int .i64) (h1 := fun _ => rfl) hh (k : Int) (pre l1 k + (f1 + (f2.length : Int)))).1
        rw [Int.toNat_natCast, ← HPS.out, HSET.out] at this
        rw [← HPS.out]
        exact this)
      go_wp2
      go_roundw
      case rel => exact ⟨k + 1, by rw [HPS.out], by go_num, by omega, Kd.R_alloc HPUT.out _, below_alloc (hb.setCell hbb _) _⟩
      case measure => simp [intOf]; omega
    · obtain rfl : k = l1.length := by omega
      rw [endsTo_all] at HR
      have HE2 := Lib.hid (show Kd.C (Kd.int .i64) wr A3 l1.length (endsR l1 0) by have := (Kd.R_reads' HR.out).2.2; rwa [endsR_len] at this)
      have HA3 := Lib.hid (show 0 < l1.length → ∀ a, A3 = some a → a.spot = none ∧ a.block < wr.heap.size from by
        rintro h0 a rfl
        obtain ⟨b, cap, e3, hbb, hblt, _⟩ := Kd.R_form HR.out (by rw [endsR_len]; exact h0)
        injection e3 with e3 _ _
        injection e3 with e3
        subst e3
        exact ⟨rfl, hblt⟩)
      clear HR HE
      rename World => W1
      have hz1 := hb.size
      go_wp2_with fail
      go_loopw [67] (fun i wr => ∃ (j : Nat) (out : List Dop), i = .int .i64 (j : Int) ∧ j ≤ l2.length ∧ WrSt wr W1.heap.size W1.heap.size out ∧ (∀ x ∈ out, goodOp a0 x) ∧ (totS out : Int) ≤ pre l2 j ∧ out.length ≤ 4096 + j ∧ compGo l1 out (l2.drop j) = compGo l1 [] l2 ∧ Below W1.heap.size W1 wr) (fun i _ => l2.length - (intOf i).toNat)
      case atStart => exact ⟨0, [], rfl, by omega, wr_start (Nat.le_refl _), fun x hx => by simp at hx, by simp [totS, pre_zero], by simp, rfl, below_alloc (Below.refl _ _) _⟩
      case round =>
        obtain ⟨j, out, rfl, hj, hW, hG, hT, hL, hcg, hb2⟩ := hrel
        have HW := Lib.hid hW
        have hgl : W1.heap.size < wr.heap.size := by
          obtain ⟨v, hg, _⟩ := hW
          exact lt_of_block hg
        have HG := Lib.hid hG
        have HCG := Lib.hid hcg
        clear hW hG hcg
        have hz2 := hb2.size
        by_cases hjl : j < l2.length
        · obtain ⟨ad, A4, c4, rfl, e0, e1, e2, hl2, hC2⟩ := at_T39 (Kd.C_below (Kd.C_below HR2.out hb) hb2) (j : Int) (by omega) (by omega)
          have hgo := HG2.out _ (List.getElem_mem hjl)
          have hps := pre_succ hjl
          have hcc : compGo l1 out (l2.drop j) = compGo l1 (if opCp l2[j] then partS out l1 0 l2[j].f0 (l2[j].f0 + l2[j].f1) else addOp out l2[j]) (l2.drop (j + 1)) := by rw [List.drop_eq_getElem_cons hjl, compGo]
          have hok2 : okOps l2 := fun o ho => good_kind (HG2.out o ho)
          have hpj := pre_le hok2 j
          have hpj1 := pre_le hok2 (j + 1)
          have hmm := HM.out
          have hmle : pre l2 j ≤ m := by omega
          have hmle1 : pre l2 (j + 1) ≤ m := by omega
          have htl := tot_mem (List.getElem_mem hjl)
          rw [rd_ops j hjl, Int.toNat_natCast] at *
          have HCC := Lib.hid hcc
          have HPS := Lib.hid hps
          clear hcc hps hok2 hmm hpj1
          generalize l2[j] = o at *
          have hF : 0 ≤ o.f0 ∧ 0 ≤ o.f1 ∧ o.f0 + o.f1 ≤ n := by
            rcases hgo with ⟨⟨a, _⟩, b, c⟩ | ⟨a, b, _⟩ <;> omega
          have HGO := Lib.hid hgo
          clear hgo
          go_upto_if 74 with (fail)
          go_cut [] (fun wc => ∃ out1, WrSt wc W1.heap.size W1.heap.size out1 ∧ (∀ x ∈ out1, goodOp a0 x) ∧ wc.heap[wr.heap.size]? = some (.cells #[.int .i64 o.f0, .int .i64 o.f1, .slice A4 o.f2.length c4] 39 (0, 0)) ∧ (totS out1 : Int) + o.f1 ≤ pre l2 (j + 1) ∧ out1.length ≤ 4096 + j + 1 ∧ compGo l1 (partS out1 l1 0 o.f0 (o.f0 + o.f1)) (l2.drop (j + 1)) = compGo l1 [] l2 ∧ Below W1.heap.size W1 wc)
          case first =>
            rcases HGO.out with ⟨hcp, h3, h4⟩ | hlit
            · have hcp2 := hcp.2
              have hcp1 := hcp.1
              have hnl : opLen o = o.f1 := by unfold opLen; rw [hcp2]; simp
              have HFIN := Lib.hid (show compGo l1 (partS out l1 0 o.f0 (o.f0 + o.f1)) (l2.drop (j + 1)) = compGo l1 [] l2 by rw [← HCG.out, HCC.out, if_pos hcp])
              have HT := Lib.hid (show (totS out : Int) + o.f1 ≤ pre l2 (j + 1) by rw [HPS.out, hnl]; omega)
              have hz0 : o.f2.length = 0 := by rw [hcp2]; rfl
              have q5 : decide ((0 : Int) < (o.f2.length : Int)) = false := decide_eq_false (by omega)
              have q5' : decide (0 < o.f2.length) = false := decide_eq_false (by omega)
              clear hcp hcp2 hnl hz0
              try simp only [q5, q5'] at *
              go_wp2
              go_meet
              case rel => exact ⟨out, WrSt.below HW.out (below_alloc (Below.refl _ _) _), HG.out, (Go.MapKept.heap_alloc _ _).1, HT.out, by omega, HFIN.out, below_alloc hb2 _⟩
            · have hlit' := Lib.hid hlit
              have hne : o.f2 ≠ [] := hlit.2.2
              have hp : 0 < o.f2.length := List.length_pos_iff.2 hne
              have hnl : opLen o = o.f2.length := by unfold opLen; rw [hlit.1]; simp
              have hz1' := hlit.1
              have hz0' := hlit.2.1
              have HO := Lib.hid (show o = ⟨0, 0, o.f2⟩ from by
                obtain ⟨x0, x1, x2⟩ := o
                simp only at hz1' hz0'
                rw [hz1', hz0'])
              have HFIN := Lib.hid (show compGo l1 (partS (addOp out ⟨0, 0, o.f2⟩) l1 0 o.f0 (o.f0 + o.f1)) (l2.drop (j + 1)) = compGo l1 [] l2 by rw [hz0', hz1', Int.add_zero, part_none, ← HCG.out, HCC.out, if_neg (fun h => cp_not_lt h hlit), ← HO.out])
              have htt : totS (addOp out ⟨0, 0, o.f2⟩) = totS out + o.f2.length := addOp_tot (fun x hx => good_kind (HG.out x hx)) (.inr ⟨rfl, rfl, hne⟩)
              have hps5 := HPS.out
              have HT := Lib.hid (show (totS (addOp out ⟨0, 0, o.f2⟩) : Int) + o.f1 ≤ pre l2 (j + 1) by omega)
              clear htt hps5
              have hal := addOp_len out ⟨0, 0, o.f2⟩
              have q5 : decide ((0 : Int) < (o.f2.length : Int)) = true := decide_eq_true (by omega)
              have q5' : decide (0 < o.f2.length) = true := decide_eq_true (by omega)
              have HNE := Lib.hid hne
              clear hlit hne hnl hz1' hz0'
              go_wp2_with fail
              refine (writer_write_addP (fun k => k ≠ wr.heap.size) W1.heap.size W1.heap.size A4 c4 o.f2 out a0 _ (Kd.C_alloc hC2 _) (fun k hk => by simp at hk; omega) (WrStP.below (WrStP.mono HW.out (fun k hk _ => by omega)) (below_alloc (Below.refl _ _) _)) HG.out q2 (by omega) HNE.out (by omega) (by omega)).mono ?_
              rintro e' w4 ⟨rfl, hW2, hb3, hfr⟩
              have HW2 := Lib.hid hW2
              have HB3 := Lib.hid hb3
              have HFR := Lib.hid (hfr wr.heap.size (by simp) (by omega) (fun h => h rfl))
              clear hW2 hb3 hfr
              go_wp2
              go_meet
              case rel => exact ⟨_, WrStP.mono HW2.out (fun _ _ _ => trivial), addOp_good HG.out (.inr ⟨rfl, rfl, HNE.out⟩), HFR.out.trans (Go.MapKept.heap_alloc _ _).1, HT.out, by omega, HFIN.out, Below.trans (below_alloc hb2 _) HB3.out⟩
          case rest =>
            obtain ⟨out1, hW1, hG1, hbx, hT1, hL1, hcg1, hbw⟩ := hcut
            have HW1 := Lib.hid hW1
            have HGG := Lib.hid hG1
            have HCG1 := Lib.hid hcg1
            have HBX := Lib.hid hbx
            have z0 := blk_cell hbx 0
            have z1 := blk_cell hbx 1
            simp only [List.getElem?_toArray, List.getElem?_cons_zero, List.getElem?_cons_succ] at z0 z1
            clear hW1 hG1 hcg1 hbx HCG HCC HW HG
            have hw3 : -9223372036854775808 ≤ o.f0 + o.f1 ∧ o.f0 + o.f1 ≤ 9223372036854775807 := by omega
            have hbw' := below_step hb hbw
            go_upto_region 21 with (fail)
            go_quiet (fail)
            go_wp2_with fail
            have hwz := hbw.size
            refine (search_ends A3 c3 l1 o.f0 _ (fun x hx => good_kind (HG1.out x hx)) q3 (fun h0 a ha => ⟨(HA3.out h0 a ha).1, Nat.lt_of_lt_of_le (HA3.out h0 a ha).2 (by simp; omega)⟩) (Kd.C_below (Kd.C_below HE2.out hbw) (pw_below_drewN (Below.refl _ _) _))).mono ?_
            rintro e' w5 ⟨rfl, hb5⟩
            obtain ⟨s1, s2, s3⟩ := ends_count l1 0 o.f0 (fun x hx => good_kind (HG1.out x hx)) hF.1
            generalize (endsR l1 0).countP (fun y => !decide (o.f0 + 1 ≤ y)) = c0 at *
            simp only [Int.zero_add] at s2 s3
            have s3' := Lib.hid s3
            clear s3
            have hbw5 := below_step (pw_below_drewN hbw _) hb5
            have HB5 := Lib.hid (below_step (pw_below_drewN (Below.refl wc.heap.size wc) _) hb5)
            clear hb5
            go_wp2_with fail
            go_loopw [19, 21] (fun f i wx => ∃ (i0 : Nat) (f0 : Int) (out2 : List Dop), f = .int .i64 f0 ∧ i = .int .i64 (i0 : Int) ∧ i0 ≤ l1.length ∧ 0 ≤ f0 ∧ f0 ≤ o.f0 + o.f1 ∧ (f0 < o.f0 + o.f1 → i0 < l1.length ∧ pre l1 i0 ≤ f0 ∧ f0 < pre l1 (i0 + 1)) ∧ compGo l1 (partS out2 (l1.drop i0) (pre l1 i0) f0 (o.f0 + o.f1)) (l2.drop (j + 1)) = compGo l1 [] l2 ∧ (totS out2 : Int) + (o.f0 + o.f1 - f0) ≤ pre l2 (j + 1) ∧ out2.length ≤ 4096 + j + 1 ∧ WrSt wx W1.heap.size W1.heap.size out2 ∧ (∀ x ∈ out2, goodOp a0 x) ∧ Below W1.heap.size W1 wx) (fun _ i _ => l1.length - (intOf i).toNat)
            case atStart =>
              refine ⟨c0, o.f0, out1, rfl, rfl, s1, hF.1, by omega, fun hlt => ?_, ?_, by omega, hL1, WrSt.below HW1.out HB5.out, HGG.out, hbw5⟩
              · have hc : c0 < l1.length := by
                  rcases Nat.lt_or_ge c0 l1.length with h | h
                  · exact h
                  · have e : c0 = l1.length := by omega
                    rw [e, pre_all] at s2
                    have := HN.out
                    omega
                exact ⟨hc, s2, s3'.out hc⟩
              · rw [← part_to (fun x hx => good_kind (HG1.out x hx)) c0 s1 s2]; exact HCG1.out
            case round =>
              obtain ⟨i0, f0, out2, rfl, rfl, hi, hf0, hft, hin, hcg2, ht2, hl2', hW3, hG3, hb6⟩ := hrel
              have HW3 := Lib.hid hW3
              have HG3 := Lib.hid hG3
              have HCG2 := Lib.hid hcg2
              have HIN := Lib.hid hin
              clear hW3 hG3 hcg2 hin
              by_cases hlt : f0 < o.f0 + o.f1
              · obtain ⟨hil, hp1, hp2⟩ := HIN.out hlt
                obtain ⟨ad', A5, c5, rfl, g0, g1, g2, hl5, hC5⟩ := at_T39 (Kd.C_below (Kd.C_below HR1.out hb) hb6) (i0 : Int) (by omega) (by omega)
                obtain ⟨ad7, rfl, hcell⟩ := Kd.at_int (Kd.C_below HE2.out hb6) (i0 : Int) (by omega) (by omega)
                rw [rd_ends hil, Int.toNat_natCast] at hcell
                have hgo := HG1.out _ (List.getElem_mem hil)
                have hps := pre_succ hil
                have hok : okOps l1 := fun o ho => good_kind (HG1.out o ho)
                have hpi := pre_le hok i0
                have hpi1 := pre_le hok (i0 + 1)
                have hnn := HN.out
                have hfl := opLen_good hgo
                have hops : opLen l1[i0] = l1[i0].f1 + (l1[i0].f2.length : Int) := rfl
                obtain ⟨M, hM, hM1, hM2, hM3, hM4⟩ : ∃ M, (if pre l1 (i0 + 1) < o.f0 + o.f1 then pre l1 (i0 + 1) else o.f0 + o.f1) = M ∧ f0 < M ∧ M ≤ pre l1 (i0 + 1) ∧ M ≤ o.f0 + o.f1 ∧ (M < o.f0 + o.f1 → M = pre l1 (i0 + 1)) := by
                  refine ⟨_, rfl, ?_⟩
                  split <;> refine ⟨by omega, by omega, by omega, fun _ => by omega⟩
                have HST := Lib.hid (part_step (out := out2) hok hil hp1 hp2 hlt)
                have hmn : mn (o.f0 + o.f1) (pre l1 (i0 + 1)) = M := hM
                rw [hmn] at HST
                have HPG := Lib.hid (opPart_good (n := a0) (a := f0 - pre l1 i0) (b := M - pre l1 i0) hgo (by omega) (by omega) (by omega))
                have HNX := Lib.hid (show M < o.f0 + o.f1 → i0 + 1 < l1.length ∧ pre l1 (i0 + 1) ≤ M ∧ M < pre l1 (i0 + 1 + 1) from fun hm => by
                  have e := hM4 hm
                  have hi1 : i0 + 1 < l1.length := by
                    rcases Nat.lt_or_ge (i0 + 1) l1.length with h | h
                    · exact h
                    · have e2 : i0 + 1 = l1.length := by omega
                      rw [e2, pre_all] at e
                      omega
                  have := pre_succ hi1
                  have := opLen_pos (hok _ (List.getElem_mem hi1))
                  exact ⟨hi1, by omega, by omega⟩)
                have HM4 := Lib.hid hM4
                have HMN := Lib.hid hmn
                clear hM4 hmn hok
                rw [rd_ops i0 hil, Int.toNat_natCast] at *
                generalize l1[i0] = x at *
                have hlb : x.f2.length ≤ 1048576 := by omega
                have HOPS := Lib.hid hops
                have HPS2 := Lib.hid hps
                have hwi : pre l1 i0 = pre l1 (i0 + 1) - x.f1 - (x.f2.length : Int) := by omega
                have HWI := Lib.hid hwi
                have hd1 : -9223372036854775808 ≤ pre l1 (i0 + 1) - x.f1 ∧ pre l1 (i0 + 1) - x.f1 ≤ 9223372036854775807 := by rcases hgo with ⟨⟨a, _⟩, b, c⟩ | ⟨a, b, _⟩ <;> omega
                have hd2 : -9223372036854775808 ≤ pre l1 (i0 + 1) - x.f1 - (x.f2.length : Int) ∧ pre l1 (i0 + 1) - x.f1 - (x.f2.length : Int) ≤ 9223372036854775807 := by omega
                have hd3 : -9223372036854775808 ≤ f0 - (pre l1 (i0 + 1) - x.f1 - (x.f2.length : Int)) ∧ f0 - (pre l1 (i0 + 1) - x.f1 - (x.f2.length : Int)) ≤ 9223372036854775807 := by omega
                have hd4 : -9223372036854775808 ≤ M - f0 ∧ M - f0 ≤ 9223372036854775807 := by omega
                clear hwi hops hps hnn
                have HGO := Lib.hid hgo
                clear hgo
                rcases HGO.out with hcp | hlit
                · have hx2 : x.f2.length = 0 := by rw [hcp.1.2]; rfl
                  have q5 : decide ((0 : Int) < (x.f2.length : Int)) = false := decide_eq_false (by omega)
                  have q5' : decide (0 < x.f2.length) = false := decide_eq_false (by omega)
                  clear hx2
                  have hd5 : -9223372036854775808 ≤ x.f0 + (f0 - (pre l1 (i0 + 1) - x.f1 - (x.f2.length : Int))) ∧ x.f0 + (f0 - (pre l1 (i0 + 1) - x.f1 - (x.f2.length : Int))) ≤ 9223372036854775807 := by have := HWI.out; have := HPS2.out; have := HOPS.out; have := hcp.2.1; have := hcp.2.2; omega
                  have EP := Lib.hid (show opPart x (f0 - pre l1 i0) (M - pre l1 i0) = ⟨x.f0 + (f0 - (pre l1 (i0 + 1) - x.f1 - (x.f2.length : Int))), M - f0, []⟩ by
                    have hwi := HWI.out
                    rw [opPart_cp hcp.1, show x.f0 + (f0 - pre l1 i0) = x.f0 + (f0 - (pre l1 (i0 + 1) - x.f1 - (x.f2.length : Int))) by omega, show M - pre l1 i0 - (f0 - pre l1 i0) = M - f0 by omega])
                  have hpg := HPG.out
                  rw [EP.out] at hpg
                  have HP1 := Lib.hid (hpg.resolve_right (fun h => h.2.2 rfl))
                  have HP2 := Lib.hid hpg
                  have hd6 : f0 + (M - f0) = M := by omega
                  clear hpg
                  have HCP := Lib.hid hcp
                  clear hcp
                  go_upto_region 26 with (fail)
                  go_quiet (fail)
                  go_wp2_with fail
                  refine (writer_copy_add W1.heap.size W1.heap.size ⟨x.f0 + (f0 - (pre l1 (i0 + 1) - x.f1 - (x.f2.length : Int))), M - f0, []⟩ out2 a0 _ (WrSt.below HW3.out (pw_below_drewN (Below.refl _ _) _)) HG3.out HP1.out q2 (by omega)).mono ?_
                  rintro e' w6 ⟨rfl, hW6, hb7⟩
                  have HW6 := Lib.hid hW6
                  have HB8 := Lib.hid (Below.trans (pw_below_drewN hb6 _) hb7)
                  have HG6 := Lib.hid (addOp_good HG3.out HP2.out)
                  have HCG6 := Lib.hid (show compGo l1 (partS (addOp out2 ⟨x.f0 + (f0 - (pre l1 (i0 + 1) - x.f1 - (x.f2.length : Int))), M - f0, []⟩) (l1.drop (i0 + 1)) (pre l1 (i0 + 1)) M (o.f0 + o.f1)) (l2.drop (j + 1)) = compGo l1 [] l2 by rw [← EP.out, ← HST.out]; exact HCG2.out)
                  have HT6 := Lib.hid (show (totS (addOp out2 ⟨x.f0 + (f0 - (pre l1 (i0 + 1) - x.f1 - (x.f2.length : Int))), M - f0, []⟩) : Int) + (o.f0 + o.f1 - M) ≤ pre l2 (j + 1) by
                    rw [addOp_tot (fun x hx => good_kind (HG3.out x hx)) (good_kind HP2.out)]
                    simp only [List.length_nil]
                    omega)
                  clear hW6 hb7
                  have HAL := Lib.hid (addOp_len out2 ⟨x.f0 + (f0 - (pre l1 (i0 + 1) - x.f1 - (x.f2.length : Int))), M - f0, []⟩)
                  generalize addOp out2 ⟨x.f0 + (f0 - (pre l1 (i0 + 1) - x.f1 - (x.f2.length : Int))), M - f0, []⟩ = out3 at *
                  have hal := HAL.out
                  obtain ⟨A9, c9, hc9, hS9⟩ := wr_end HW6.out
                  have HS9 := Lib.hid hS9
                  clear hS9
                  by_cases hbig : out3.length > 4096
                  · have hgt : (compGo l1 [] l2).length > 4096 := by
                      rw [← HCG6.out]
                      exact Nat.lt_of_lt_of_le hbig (Nat.le_trans (partS_mono _ _ _ _ _) (compGo_mono _ _ _))
                    have hh := HH.out
                    rw [if_pos hgt] at hh
                    simp only [Prod.mk.injEq] at hh
                    obtain ⟨rfl, rfl⟩ := hh
                    clear hgt
                    have q9 : decide ((out3.length : Int) > 4096) = true := by simp; omega
                    go_wp2
                    go_ret2
                    exact ⟨_, rfl, Kd.S_nil _ _ _ _ _, below_step hb HB8.out⟩
                  · have q9 : decide ((out3.length : Int) > 4096) = false := by simp; omega
                    go_wp2
                    go_roundw
                    case rel => exact ⟨i0 + 1, M, out3, rfl, by go_num, by omega, by omega, hM3, HNX.out, HCG6.out, HT6.out, by omega, HW6.out, HG6.out, HB8.out⟩
                    case measure => simp [intOf]; omega
                · have hx2 : 0 < x.f2.length := List.length_pos_iff.2 hlit.2.2
                  have q5 : decide ((0 : Int) < (x.f2.length : Int)) = true := decide_eq_true (by omega)
                  have q5' : decide (0 < x.f2.length) = true := decide_eq_true (by omega)
                  have hx1 := hlit.1
                  obtain ⟨lo, hlo⟩ : ∃ lo : Nat, f0 - (pre l1 (i0 + 1) - x.f1 - (x.f2.length : Int)) = (lo : Int) := ⟨(f0 - (pre l1 (i0 + 1) - x.f1 - (x.f2.length : Int))).toNat, by have := HWI.out; omega⟩
                  obtain ⟨hi2, hhi⟩ : ∃ hi2 : Nat, (lo : Int) + (M - f0) = (hi2 : Int) := ⟨((lo : Int) + (M - f0)).toNat, by omega⟩
                  have hlh : lo < hi2 := by omega
                  have hhl : hi2 ≤ x.f2.length := by have := HOPS.out; have := HPS2.out; have := HWI.out; omega
                  have EP := Lib.hid (show opPart x (f0 - pre l1 i0) (M - pre l1 i0) = ⟨0, 0, (x.f2.take hi2).drop lo⟩ by
                    have hwi := HWI.out
                    rw [opPart_lit hlit, show (f0 - pre l1 i0).toNat = lo by omega, show (M - pre l1 i0).toNat = hi2 by omega])
                  have hpg := HPG.out
                  rw [EP.out] at hpg
                  have HP2 := Lib.hid hpg
                  have hd6 : f0 + (M - f0) = M := by omega
                  have hpl : ((x.f2.take hi2).drop lo).length = hi2 - lo := by rw [List.length_drop, List.length_take]; omega
                  have HPL := Lib.hid hpl
                  have hd7 : -9223372036854775808 ≤ (hi2 : Int) ∧ (hi2 : Int) ≤ 9223372036854775807 := by omega
                  clear hpg hpl hx1
                  have HLT := Lib.hid hlit
                  clear hlit
                  go_upto_region 26 with (fail)
                  go_quiet (fail)
                  go_wp2_with fail
                  have hC6 := Kd.C_mid (lo := lo) (hi := hi2) (c := c5) (Kd.C_below hC5 (pw_below_drewN (Below.refl _ _) nq)) (by omega) hhl hl5
                  rw [if_neg (by omega : ¬ c5 = lo)] at hC6
                  simp only [show (Kd.int IntKind.u8).sz = 1 from rfl, Nat.mul_one] at hC6
                  rw [← HPL.out]
                  refine (writer_write_add W1.heap.size W1.heap.size (Option.map (fun x => x.add lo) A5) (c5 - lo) ((x.f2.take hi2).drop lo) out2 a0 _ hC6 (WrSt.below HW3.out (pw_below_drewN (Below.refl _ _) _)) HG3.out q2 (by omega) (fun h => by have := HPL.out; rw [h] at this; simp at this; omega) (by omega) (by rw [HPL.out]; omega)).mono ?_
                  rintro e' w6 ⟨rfl, hW6, hb7⟩
                  have HW6 := Lib.hid hW6
                  have HB8 := Lib.hid (Below.trans (pw_below_drewN hb6 _) hb7)
                  have HG6 := Lib.hid (addOp_good HG3.out HP2.out)
                  have HCG6 := Lib.hid (show compGo l1 (partS (addOp out2 ⟨0, 0, (x.f2.take hi2).drop lo⟩) (l1.drop (i0 + 1)) (pre l1 (i0 + 1)) M (o.f0 + o.f1)) (l2.drop (j + 1)) = compGo l1 [] l2 by rw [← EP.out, ← HST.out]; exact HCG2.out)
                  have HT6 := Lib.hid (show (totS (addOp out2 ⟨0, 0, (x.f2.take hi2).drop lo⟩) : Int) + (o.f0 + o.f1 - M) ≤ pre l2 (j + 1) by
                    rw [addOp_tot (fun x hx => good_kind (HG3.out x hx)) (good_kind HP2.out)]
                    have := HPL.out
                    simp only at this ⊢
                    omega)
                  clear hW6 hb7 hC6
                  have HAL := Lib.hid (addOp_len out2 ⟨0, 0, (x.f2.take hi2).drop lo⟩)
                  generalize addOp out2 ⟨0, 0, (x.f2.take hi2).drop lo⟩ = out3 at *
                  have hal := HAL.out
                  obtain ⟨A9, c9, hc9, hS9⟩ := wr_end HW6.out
                  have HS9 := Lib.hid hS9
                  clear hS9
                  by_cases hbig : out3.length > 4096
                  · have hgt : (compGo l1 [] l2).length > 4096 := by
                      rw [← HCG6.out]
                      exact Nat.lt_of_lt_of_le hbig (Nat.le_trans (partS_mono _ _ _ _ _) (compGo_mono _ _ _))
                    have hh := HH.out
                    rw [if_pos hgt] at hh
                    simp only [Prod.mk.injEq] at hh
                    obtain ⟨rfl, rfl⟩ := hh
                    clear hgt
                    have q9 : decide ((out3.length : Int) > 4096) = true := by simp; omega
                    go_wp2
                    go_ret2
                    exact ⟨_, rfl, Kd.S_nil _ _ _ _ _, below_step hb HB8.out⟩
                  · have q9 : decide ((out3.length : Int) > 4096) = false := by simp; omega
                    go_wp2
                    go_roundw
                    case rel => exact ⟨i0 + 1, M, out3, rfl, by go_num, by omega, by omega, hM3, HNX.out, HCG6.out, HT6.out, by omega, HW6.out, HG6.out, HB8.out⟩
                    case measure => simp [intOf]; omega
              · have e : f0 = o.f0 + o.f1 := by omega
                have HF := Lib.hid (show compGo l1 out2 (l2.drop (j + 1)) = compGo l1 [] l2 by rw [← HCG2.out, e, part_none])
                clear e
                go_wp2
                go_roundw
                case rel => exact ⟨j + 1, out2, by go_num, by omega, HW3.out, HG3.out, by omega, by omega, HF.out, hb6⟩
                case measure => simp [intOf]; omega
        · obtain rfl : j = l2.length := by omega
          obtain ⟨A9, c9, hc9, hS9⟩ := wr_end HW.out
          have hfin : compGo l1 [] l2 = out := by rw [← HCG.out, List.drop_of_length_le (Nat.le_refl _)]; rfl
          have hh := HH.out
          rw [hfin] at hh
          have HS9 := Lib.hid (Kd.S_lower hS9 hz1)
          clear hS9 hfin
          by_cases hbig : out.length > 4096
          · rw [if_pos hbig] at hh
            simp only [Prod.mk.injEq] at hh
            obtain ⟨rfl, rfl⟩ := hh
            have q9 : decide ((out.length : Int) > 4096) = true := by simp; omega
            go_wp2
            go_ret2
            exact ⟨_, rfl, Kd.S_nil _ _ _ _ _, below_step hb hb2⟩
          · rw [if_neg hbig] at hh
            simp only [Prod.mk.injEq] at hh
            obtain ⟨rfl, rfl⟩ := hh
            have q9 : decide ((out.length : Int) > 4096) = false := by simp; omega
            go_wp2
            go_ret2
            exact ⟨_, rfl, HS9.out, below_step hb hb2⟩
end Go.Proofs.Ytjckjcekapkkjaa.P
