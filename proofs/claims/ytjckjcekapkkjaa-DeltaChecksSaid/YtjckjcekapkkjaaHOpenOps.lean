/- A raw list of ops among a row's arguments: what its cells say, and the bounds of its numbers and lengths. -/
import Derived.Test.YtjckjcekapkkjaaPx0
import Derived.Deep.Strs
import Derived.Deep.Slices
import Derived.SizedLaws
import Derived.ChangeSlices
import Derived.ChangeArms
namespace Go.Proofs.Ytjckjcekapkkjaa.P
open Go.RowKit Go.Proofs.YtjckjcekapkkjaaW.PrintWords Go.Proofs.YtjckjcekapkkjaaW.PrintLast Go.Proofs.YtjckjcekapkkjaaW.PrintMore Go.Deep Go.ChangeShapes Go.WideShapes
set_option linter.unusedVariables false
set_option linter.unusedSimpArgs false

instance : Inhabited S39 := ⟨⟨0, 0, []⟩⟩
/-- What is known of each op of a raw list. -/
def rawOp (o : S39) : Prop := (Lit.int .i64 o.f0).wf = true ∧ (Lit.int .i64 o.f1).wf = true ∧ o.f2.length ≤ 140737488351232 ∧ ∀ x ∈ o.f2, (Lit.int .u8 x).wf = true
def rawOps (l : List S39) : Prop := l.length * 40 ≤ 140737488351232 ∧ ∀ o ∈ l, rawOp o
/-- The data of a list of ops: each op's bytes are no more than its slice's places. -/
def rawData {H : Type} : List S39 → List (DataW H) → Prop
  | [], [] => True
  | o :: os, d :: ds => (∃ y0 y1 y2, d = .agg [y0, y1, y2] ∧ (o.f2 = [] ∨ ∃ e s, y2 = .slice e s ∧ o.f2.length ≤ e.length + s.length)) ∧ rawData os ds
  | _, _ => False
theorem rawData_map {H : Type} {O : Nat → S39} {D : Nat → DataW H} : ∀ (L : List Nat), (∀ i ∈ L, ∃ y0 y1 y2, D i = .agg [y0, y1, y2] ∧ ((O i).f2 = [] ∨ ∃ e s, y2 = .slice e s ∧ (O i).f2.length ≤ e.length + s.length)) → rawData (L.map O) (L.map D)
  | [], _ => trivial
  | i :: L, h => ⟨h i (by simp), rawData_map L (fun j hj => h j (by simp [hj]))⟩
section
variable {H : Type} {enc : TypeId × Value → H} {W : World} {base fuel : Nat} {spare : Nat → Bool} {held : Bool}
/-- Bytes. -/
theorem raw_bytes {v : Value} {cs : List Value} {x : DataW H × List MemPlace} (hs : ∀ b, spare b = true) (h : DataW.trod enc Try.prog W base spare held fuel 26 cs = some x) :
    ∃ A zs c, cs = [.slice A zs.length c] ∧ zs.length ≤ c ∧ (Kd.int .u8).C W A zs.length zs ∧ (∀ n ∈ zs, (Lit.int .u8 n).wf = true) ∧ (x.1 = .nil ∧ zs = [] ∨ ∃ el sp, x.1 = .slice el sp ∧ zs.length ≤ el.length + sp.length) := by
  rcases open_ints Try.underlying26 Try.underlying5 (by kernel_rfl) h with ⟨rfl, rfl⟩ | ⟨a, len, cap, zs, rfl, hb, hl, hm, hz, hx, hc, hw⟩
  · exact ⟨none, [], 0, rfl, Nat.le_refl _, Kd.C_nil _ _, by simp, .inl ⟨rfl, rfl⟩⟩
  · rw [hs, if_pos rfl] at hz
    have hlen : (zs.take len).length = len := by rw [List.length_take]; omega
    refine ⟨some a, zs.take len, cap, by rw [hlen], by omega, ?_, fun n hn => hw n (List.mem_of_mem_take hn), .inr ⟨lits .u8 (zs.take len), lits .u8 (zs.drop len), by rw [hx], by rw [hlen]; simp [lits]; omega⟩⟩
    refine ⟨rfl, by rw [hlen]; have : maxLen ≤ 9223372036854775807 := by decide
                    omega, fun _ => ⟨a, rfl, fun j p hj => ⟨[.int .u8 p], rfl, rfl, fun i u hu => ?_⟩⟩⟩
    obtain ⟨hj1, hj2⟩ := List.getElem?_eq_some_iff.1 hj
    have hj3 : j < len := by omega
    have hj4 : j < zs.length := by omega
    have e : zs.getD j 0 = p := by
      rw [List.getD_eq_getElem?_getD, List.getElem?_eq_getElem hj4, Option.getD_some, ← hj2, List.getElem_take]
    rcases i with _ | i
    · simp at hu
      subst hu
      have := hc j hj4
      rw [e] at this
      rw [show (Kd.int IntKind.u8).sz = 1 from rfl, Nat.mul_one, Nat.add_zero]
      exact this
    · simp at hu
theorem open_opsD {a : Option Addr} {len cap : Nat} {d : DataW H} {ps : List MemPlace} {ts : List TypeId} {ds : List (DataW H)} {j : Nat} (hs : ∀ b, spare b = true)
    (hsz : (DataW.weightsEach Try.prog ts ds).all (· ≤ reachBytes) = true) (ht : ts[j]? = some 29) (hd : ds[j]? = some d) (h : DataW.Trod enc Try.prog W base spare held 29 (.slice a len cap) d ps) :
    ∃ l : List S39, len = l.length ∧ l.length ≤ cap ∧ k39.C W a l.length l ∧ rawOps l ∧ ((d = .nil ∧ l = []) ∨ ∃ el sp, d = .slice el sp ∧ rawData l el) := by
  obtain ⟨fuel, hf⟩ := h
  have hwt := fun n hn => List.all_eq_true.1 hsz n (DataW.weights_mem_each ht hd n hn)
  rcases open_slice Try.underlying29 hf with ⟨hcs, hnil⟩ | ⟨x, l0, c0, m, n, D, Pl, hcs, hb, hl, hm, hmm, hx, hall⟩
  · simp [Value.cells] at hcs
    obtain ⟨rfl, rfl, rfl⟩ := hcs
    exact ⟨[], rfl, Nat.le_refl _, Kd.C_nil _ _, ⟨by simp, by simp⟩, .inl ⟨(Prod.mk.inj hnil).1, rfl⟩⟩
  · simp [Value.cells] at hcs
    obtain ⟨rfl, rfl, rfl⟩ := hcs
    rw [hs, if_pos rfl] at hmm
    subst hmm
    obtain ⟨hx1, hx2⟩ := Prod.mk.inj hx
    subst hx1
    have hC : Try.prog.cellsOf 39 = 3 := by kernel_rfl
    have hC0 : Try.prog.cellsOf 3 = 1 := by kernel_rfl
    have hC2 : Try.prog.cellsOf 26 = 1 := by kernel_rfl
    have hB : Try.prog.bytesOf 39 = 40 := by kernel_rfl
    have hB1 : Try.prog.bytesOf 5 = 1 := by kernel_rfl
    rw [hC] at hall
    have hone : ∀ i, i < m → ∃ o : S39, rawOp o ∧ (∃ y0 y1 y2, D i = .agg [y0, y1, y2] ∧ (o.f2 = [] ∨ ∃ e s, y2 = .slice e s ∧ o.f2.length ≤ e.length + s.length)) ∧ ∃ c, c.length = 3 ∧ k39.K W o c ∧ ∀ q u, c[q]? = some u → W.cell? (x.add (i * 3 + q)) = some u := by
      intro i hi
      obtain ⟨cs, hc, ht3⟩ := hall i hi
      obtain ⟨_, hl3, hcell⟩ := World.cells?_some hc
      obtain ⟨y0, y1, y2, n', hy, _, t0, t1, t2⟩ := trod_struct3 Try.underlying39 ht3
      simp only [hC0, hC2] at t0 t1 t2
      match cs, hl3 with
      | [v0, v1, v2], _ =>
        simp only [List.drop_zero, List.drop_succ_cons, List.take_succ_cons, List.take_zero] at t0 t1 t2
        obtain ⟨f0, e0, _, w0⟩ := DataW.trod_int Try.underlying3 t0
        obtain ⟨f1, e1, _, w1⟩ := DataW.trod_int Try.underlying3 t1
        obtain ⟨A, zs, c, e2, lc, hr, hz, hx2⟩ := raw_bytes (v := v2) hs t2
        obtain rfl : v0 = .int .i64 f0 := by simpa using e0
        obtain rfl : v1 = .int .i64 f1 := by simpa using e1
        obtain rfl : v2 = .slice A zs.length c := by simpa using e2
        refine ⟨⟨f0, f1, zs⟩, ⟨w0, w1, ?_, hz⟩, ⟨y0.1, y1.1, y2.1, congrArg Prod.fst hy, hx2.imp (fun h => h.2) (fun h => h)⟩, _, rfl, k39_mk W ⟨f0, f1, zs⟩ lc hr, fun q u hq => ?_⟩
        · rcases hx2 with ⟨_, rfl⟩ | ⟨el, sp, ex, hle⟩
          · simp
          · have hD : D i = .agg [y0.1, y1.1, .slice el sp] := by
              have := congrArg Prod.fst hy
              rw [ex] at this
              exact this
            have hin : (el.length + sp.length) * 1 ∈ DataW.weights Try.prog 29 (.slice ((List.range len).map D) ((List.range (m - len)).map fun j => D (len + j))) := by
              simp only [DataW.weights, Try.underlying29]
              refine List.mem_cons_of_mem _ ?_
              have hmem : ∀ (l : List (DataW H)), D i ∈ l → (el.length + sp.length) * 1 ∈ DataW.weightsAll Try.prog 39 l := by
                intro l
                induction l with
                | nil => intro h; cases h
                | cons z zs ih =>
                  intro h
                  rw [DataW.weightsAll]
                  rcases List.mem_cons.1 h with e | h
                  · rw [← e, hD]
                    refine List.mem_append_left _ ?_
                    simp only [DataW.weights, Try.underlying39, DataW.weightsEach, List.map_cons, List.map_nil, Try.underlying26, hB1]
                    simp
                  · exact List.mem_append_right _ (ih h)
              by_cases hil : i < len
              · exact List.mem_append_left _ (hmem _ (List.mem_map.2 ⟨i, List.mem_range.2 hil, rfl⟩))
              · exact List.mem_append_right _ (hmem _ (List.mem_map.2 ⟨i - len, List.mem_range.2 (by omega), congrArg D (show len + (i - len) = i by omega)⟩))
            have := hwt _ hin
            have e : reachBytes = 140737488351232 := rfl
            simp only [decide_eq_true_eq] at this
            simp only
            omega
        · have hq3 : q < 3 := by
            have := (List.getElem?_eq_some_iff.1 hq).1
            simpa using this
          have := hcell q hq3
          rw [hq] at this
          rw [← this]
          rw [Addr.add_add]
    obtain ⟨O, hO⟩ := choose_lt hone
    have hlen : ((List.range len).map O).length = len := by simp
    refine ⟨(List.range len).map O, hlen.symm, by omega, ⟨rfl, by rw [hlen]; have : maxLen ≤ 9223372036854775807 := by decide
                                                                  omega, fun _ => ⟨x, rfl, fun j p hj => ?_⟩⟩, ⟨?_, ?_⟩, .inr ⟨_, _, rfl, rawData_map _ (fun i hi => (hO i (by have := List.mem_range.1 hi; omega)).2.1)⟩⟩
    · rw [List.getElem?_map] at hj
      obtain ⟨j', hj', rfl⟩ := Option.map_eq_some_iff.1 hj
      obtain ⟨hj1, hj2⟩ := List.getElem?_eq_some_iff.1 hj'
      rw [List.getElem_range] at hj2
      subst hj2
      rw [List.length_range] at hj1
      obtain ⟨_, _, c, h1, h2, h3⟩ := hO j (by omega)
      exact ⟨c, h1, h2, h3⟩
    · have := hwt ((((List.range len).map D).length + ((List.range (m - len)).map fun j => D (len + j)).length) * 40) (by simp only [DataW.weights, Try.underlying29, hB]; exact List.mem_cons_self)
      have e : reachBytes = 140737488351232 := rfl
      simp only [decide_eq_true_eq, List.length_map, List.length_range] at this
      rw [hlen]
      omega
    · intro o ho
      obtain ⟨i, hi, rfl⟩ := List.mem_map.1 ho
      exact (hO i (by have := List.mem_range.1 hi; omega)).1
theorem open_ops {a : Option Addr} {len cap : Nat} {d : DataW H} {ps : List MemPlace} {ts : List TypeId} {ds : List (DataW H)} {j : Nat} (hs : ∀ b, spare b = true)
    (hsz : (DataW.weightsEach Try.prog ts ds).all (· ≤ reachBytes) = true) (ht : ts[j]? = some 29) (hd : ds[j]? = some d) (h : DataW.Trod enc Try.prog W base spare held 29 (.slice a len cap) d ps) :
    ∃ l : List S39, len = l.length ∧ l.length ≤ cap ∧ k39.C W a l.length l ∧ rawOps l := by
  obtain ⟨l, h1, h2, h3, h4, _⟩ := open_opsD hs hsz ht hd h
  exact ⟨l, h1, h2, h3, h4⟩
end
end Go.Proofs.Ytjckjcekapkkjaa.P
