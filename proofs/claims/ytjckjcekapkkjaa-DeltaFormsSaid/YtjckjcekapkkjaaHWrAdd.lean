/- The writer's methods add an op to a normal delta. -/
import Derived.Test.YtjckjcekapkkjaaPx0
import Derived.Test.YtjckjcekapkkjaaHOps
import Derived.Test.YtjckjcekapkkjaaHWrite
import Derived.Test.YtjckjcekapkkjaaHWriter
import Derived.Lib.Hide
namespace Go.Proofs.Ytjckjcekapkkjaa.P
open Go.RowKit Go.Proofs.YtjckjcekapkkjaaW.PrintWords Go.Proofs.YtjckjcekapkkjaaW.PrintLast Go.Proofs.YtjckjcekapkkjaaW.PrintMore
set_option linter.unusedVariables false
set_option linter.unusedSimpArgs false

/-- A copy that lies in a base of this size, or a literal. -/
def goodOp (base : Int) (o : Dop) : Prop := (opCp o ∧ 0 ≤ o.f0 ∧ o.f0 + o.f1 ≤ base) ∨ opLt o
/-- How many literal bytes. -/
def totS (l : List Dop) : Nat := (l.map fun o => o.f2.length).sum
theorem addOp_nil (o : Dop) : addOp [] o = [o] := rfl
theorem addOp_snoc (init : List Dop) (la o : Dop) : addOp (init ++ [la]) o =
    if opLt la ∧ opLt o then init ++ [⟨0, 0, la.f2 ++ o.f2⟩]
    else if opCp la ∧ opCp o ∧ la.f0 + la.f1 = o.f0 then init ++ [⟨la.f0, la.f1 + o.f1, []⟩]
    else init ++ [la] ++ [o] := by
  simp [addOp]
theorem snoc_cases {α : Type} (l : List α) : l = [] ∨ ∃ init la, l = init ++ [la] := by
  rcases List.eq_nil_or_concat l with h | ⟨i, a, h⟩
  · exact .inl h
  · exact .inr ⟨i, a, by simpa using h⟩
theorem addOp_good {base : Int} {l : List Dop} {o : Dop} (h : ∀ x ∈ l, goodOp base x) (ho : goodOp base o) : ∀ x ∈ addOp l o, goodOp base x := by
  rcases snoc_cases l with rfl | ⟨init, la, rfl⟩
  · rw [addOp_nil]; intro x hx; rw [List.mem_singleton.1 hx]; exact ho
  · have hi : ∀ x ∈ init, goodOp base x := fun x hx => h x (by simp [hx])
    have hl : goodOp base la := h la (by simp)
    rw [addOp_snoc]
    split
    · rename_i hb
      intro x hx
      rcases List.mem_append.1 hx with hx | hx
      · exact hi x hx
      · rw [List.mem_singleton.1 hx]
        exact .inr ⟨rfl, rfl, by simp [hb.1.2.2]⟩
    · split
      · rename_i hb
        intro x hx
        rcases List.mem_append.1 hx with hx | hx
        · exact hi x hx
        · rw [List.mem_singleton.1 hx]
          obtain ⟨⟨a1, a2⟩, ⟨b1, b2⟩, e⟩ := hb
          rcases hl with ⟨_, c1, c2⟩ | hl
          · rcases ho with ⟨_, d1, d2⟩ | ho
            · exact .inl ⟨⟨by show 1 ≤ la.f1 + o.f1; omega, rfl⟩, c1, by show la.f0 + (la.f1 + o.f1) ≤ base; omega⟩
            · exact absurd b2 ho.2.2
          · exact absurd a2 hl.2.2
      · intro x hx
        rcases List.mem_append.1 hx with hx | hx
        · exact h x hx
        · rw [List.mem_singleton.1 hx]; exact ho
theorem addOp_tot {l : List Dop} {o : Dop} (h : ∀ x ∈ l, opCp x ∨ opLt x) (ho : opCp o ∨ opLt o) : totS (addOp l o) = totS l + o.f2.length := by
  rcases snoc_cases l with rfl | ⟨init, la, rfl⟩
  · rw [addOp_nil]; simp [totS]
  · rw [addOp_snoc]
    split
    · simp [totS]; omega
    · split
      · rename_i hb
        simp [totS, hb.1.2, hb.2.1.2]
      · simp [totS]; omega
theorem addOp_len (l : List Dop) (o : Dop) : (addOp l o).length ≤ l.length + 1 := by
  rcases snoc_cases l with rfl | ⟨init, la, rfl⟩
  · simp [addOp]
  · rw [addOp_snoc]; split
    · simp
    · split <;> simp
theorem good_kind {base : Int} {x : Dop} (h : goodOp base x) : opCp x ∨ opLt x := h.imp (fun h => h.1) id
theorem tot_mem {l : List Dop} {x : Dop} (h : x ∈ l) : x.f2.length ≤ totS l := by
  induction l with
  | nil => cases h
  | cons y ys ih =>
    simp only [totS, List.map_cons, List.sum_cons] at ih ⊢
    rcases List.mem_cons.1 h with rfl | h
    · omega
    · have := ih h; omega

theorem writer_copy_addP (P : Nat → Prop) (base g : Nat) (o : Dop) (l : List Dop) (B : Int) (w : World) (hP : ∀ k, w.heap.size ≤ k → P k) (hw : WrStP P w base g l) (hg : ∀ x ∈ l, goodOp B x) (ho : opCp o ∧ 0 ≤ o.f0 ∧ o.f0 + o.f1 ≤ B) (hB : B ≤ 1048576) (hl : l.length < 1000000) :
    Calls Try.prog 44 #[.pointer (some ⟨g, 0, none⟩), .int .i64 o.f0, .int .i64 o.f1] w fun e w' => e = .returned (.tuple #[]) ∧ WrStP P w' base g (addOp l o) ∧ Below base w w' ∧ ∀ i, i < w.heap.size → i ≠ g → ¬ P i → w'.heap[i]? = w.heap[i]? := by
  obtain ⟨⟨h1, h2⟩, h3, h4⟩ := ho
  obtain ⟨f0, f1, f2⟩ := o
  simp only at h1 h2 h3 h4
  subst h2
  rcases snoc_cases l with rfl | ⟨init, la, rfl⟩
  · exact writer_copy_nil P base g f0 f1 w hP hw
  · have hla := hg la (by simp)
    have hil : init.length < 1000000 := by simp at hl; omega
    rw [addOp_snoc, if_neg (fun h => h.2.2.2 rfl)]
    rcases hla with ⟨⟨a1, a2⟩, a3, a4⟩ | ⟨a1, a2, a3⟩
    · by_cases e : la.f0 + la.f1 = f0
      · rw [if_pos ⟨⟨a1, a2⟩, ⟨h1, rfl⟩, e⟩]
        exact writer_copy_join P base g f0 f1 init la w hP hw hil (by omega) (by omega) (by omega) a2 e
      · rw [if_neg (fun h => e h.2.2)]
        exact writer_copy_new P base g f0 f1 init la w hP hw hil (by omega) (by omega) (.inr ⟨by rw [a2]; rfl, e⟩)
    · rw [if_neg (fun h => a3 h.1.2)]
      exact writer_copy_new P base g f0 f1 init la w hP hw hil (by omega) (by omega) (.inl (List.length_pos_iff.2 a3))
theorem writer_write_addP (P : Nat → Prop) (base g : Nat) (A : Option Addr) (c : Nat) (bs : List Int) (l : List Dop) (B : Int) (w : World) (hr : Kd.C (Kd.int .u8) w A bs.length bs) (hP : ∀ k, w.heap.size ≤ k → P k) (hw : WrStP P w base g l) (hg : ∀ x ∈ l, goodOp B x) (hB : B ≤ 1048576) (hl : l.length < 1000000)
    (hne : bs ≠ []) (ht : totS l < 1000000000) (hbs : bs.length < 1000000000) :
    Calls Try.prog 43 #[.pointer (some ⟨g, 0, none⟩), .slice A bs.length c] w fun e w' => e = .returned (.tuple #[]) ∧ WrStP P w' base g (addOp l ⟨0, 0, bs⟩) ∧ Below base w w' ∧ ∀ i, i < w.heap.size → i ≠ g → ¬ P i → w'.heap[i]? = w.heap[i]? := by
  rcases snoc_cases l with rfl | ⟨init, la, rfl⟩
  · exact writer_write_nil P base g A c bs w hr hP hw hbs
  · have hla := hg la (by simp)
    have hil : init.length < 1000000 := by simp at hl; omega
    have hlt : la.f2.length < 1000000000 := by have := tot_mem (l := init ++ [la]) (x := la) (by simp); omega
    have hlit : opLt (⟨0, 0, bs⟩ : Dop) := ⟨rfl, rfl, hne⟩
    rw [addOp_snoc]
    rcases hla with ⟨⟨a1, a2⟩, a3, a4⟩ | ⟨a1, a2, a3⟩
    · rw [if_neg (fun h => h.1.2.2 a2), if_neg (fun h => hne h.2.1.2)]
      exact writer_write_new P base g A c bs init la w hr hP hw hil a2 hbs
    · rw [if_pos ⟨⟨a1, a2, a3⟩, hlit⟩]
      have := writer_write_join P base g A c bs init la w hr hP hw hil (List.length_pos_iff.2 a3) hlt hbs
      rw [a1, a2] at this
      exact this
theorem writer_copy_add (base g : Nat) (o : Dop) (l : List Dop) (B : Int) (w : World) (hw : WrSt w base g l) (hg : ∀ x ∈ l, goodOp B x) (ho : opCp o ∧ 0 ≤ o.f0 ∧ o.f0 + o.f1 ≤ B) (hB : B ≤ 1048576) (hl : l.length < 1000000) :
    Calls Try.prog 44 #[.pointer (some ⟨g, 0, none⟩), .int .i64 o.f0, .int .i64 o.f1] w fun e w' => e = .returned (.tuple #[]) ∧ WrSt w' base g (addOp l o) ∧ Below base w w' :=
  (writer_copy_addP (fun _ => True) base g o l B w (fun _ _ => trivial) hw hg ho hB hl).mono fun _ _ h => ⟨h.1, h.2.1, h.2.2.1⟩
theorem writer_write_add (base g : Nat) (A : Option Addr) (c : Nat) (bs : List Int) (l : List Dop) (B : Int) (w : World) (hr : Kd.C (Kd.int .u8) w A bs.length bs) (hw : WrSt w base g l) (hg : ∀ x ∈ l, goodOp B x) (hB : B ≤ 1048576) (hl : l.length < 1000000)
    (hne : bs ≠ []) (ht : totS l < 1000000000) (hbs : bs.length < 1000000000) :
    Calls Try.prog 43 #[.pointer (some ⟨g, 0, none⟩), .slice A bs.length c] w fun e w' => e = .returned (.tuple #[]) ∧ WrSt w' base g (addOp l ⟨0, 0, bs⟩) ∧ Below base w w' :=
  (writer_write_addP (fun _ => True) base g A c bs l B w hr (fun _ _ => trivial) hw hg hB hl hne ht hbs).mono fun _ _ h => ⟨h.1, h.2.1, h.2.2.1⟩
end Go.Proofs.Ytjckjcekapkkjaa.P
