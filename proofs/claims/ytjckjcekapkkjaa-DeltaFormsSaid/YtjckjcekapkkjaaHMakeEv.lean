/- The operations of delta.Make on its map and its keys: events. -/
import Derived.Test.YtjckjcekapkkjaaPx0
import Derived.Test.YtjckjcekapkkjaaHMap
import Derived.Test.YtjckjcekapkkjaaHMapSt
import Derived.Deep.MidRow
import Derived.Deep.WholeRow
import Derived.Laws.Cover3
import Derived.Lib.Hide
namespace Go.Proofs.Ytjckjcekapkkjaa.P
open Go.RowKit Go.Proofs.YtjckjcekapkkjaaW.PrintWords Go.Proofs.YtjckjcekapkkjaaW.PrintLast Go.Proofs.YtjckjcekapkkjaaW.PrintMore
set_option linter.unusedVariables false
set_option linter.unusedSimpArgs false

section
variable {ops : Array Oper} {rest : List Oper} {o : Oper} {a : Act} {Q : Exit → Act → World → Prop} {W : World}
theorem ev_makeMap (hgd : o.guard = none) {t : TypeId} (ho : o.op = .makeMap t none)
    (h : ∀ b W1, b = W.heap.size → W1 = W.alloc (.map #[] 0) → wpList Try.prog ops Q rest (a.put o.dst (.map (some b))) W1) : wpList Try.prog ops Q (o :: rest) a W := by
  refine Kd.event_run hgd ?_ (h _ _ rfl rfl)
  unfold execOp
  simp [ho, Instr.makeMap, Result.andThen]
theorem ev_arrayAt (hgd : o.guard = none) {x : Operand} (ho : o.op = .sliceToArrayPointer 61 x) (A : Option Addr) (n c : Nat) (hx : a.eval x = .slice A n c) (hn : 4 ≤ n)
    (h : wpList Try.prog ops Q rest (a.put o.dst (.pointer A)) W) : wpList Try.prog ops Q (o :: rest) a W := by
  refine Kd.event_run hgd ?_ h
  unfold execOp
  simp [ho, hx, Instr.arrayAt, run_underlying Try.underlying61, Nat.not_lt.2 hn, Result.andThen]
theorem ev_load4 (hgd : o.guard = none) {x : Operand} (ho : o.op = .load 61 x) (p : Addr) (key : List Int) (hx : a.eval x = .pointer (some p)) (hk : key.length = 4)
    (hc : ∀ (j : Nat) (hj : j < key.length), W.cell? (p.add j) = some (.int .u8 key[j]))
    (h : wpList Try.prog ops Q rest (a.put o.dst (kv key)) W) : wpList Try.prog ops Q (o :: rest) a W := by
  have hl : (loadCells p 4).run Try.prog W = .ok (key.map (Value.int .u8)).toArray W := by
    have := run_loadCells_list (P := Try.prog) W p (key.map (Value.int .u8)) (fun j v hv => by
      rw [List.getElem?_map] at hv
      rcases Nat.lt_or_ge j key.length with hj | hj
      · rw [List.getElem?_eq_getElem hj] at hv
        simp only [Option.map_some, Option.some.injEq] at hv
        rw [← hv]; exact hc j hj
      · rw [List.getElem?_eq_none hj] at hv; cases hv)
    rwa [List.length_map, hk] at this
  obtain ⟨i, hi, hs⟩ : ∃ i, Try.prog.info? 61 = some i ∧ i.size = 4 := ⟨_, rfl, by kernel_rfl⟩
  have hagg : (isAgg 61).run Try.prog W = .ok true W := by
    unfold isAgg
    rw [Sem.run_bind, run_underlying Try.underlying61 W]
    simp
  refine Kd.event_run hgd ?_ h
  unfold execOp kv
  simp [ho, hx, Instr.loadAt, Instr.sureAddr, loadVar, Sem.run_bind, hagg, sizeOf, typeInfo, hi, hs, hl, Result.andThen]
theorem ev_entry (hgd : o.guard = none) {t : TypeId} {m x : Operand} (ho : o.op = .mapEntry t m x) (vm vx v : Value) (W1 : World) (hm : a.eval m = vm) (hx : a.eval x = vx)
    (hrun : (Instr.mapEntry t vm vx).run Try.prog W = .ok v W1) (h : wpList Try.prog ops Q rest (a.put o.dst v) W1) : wpList Try.prog ops Q (o :: rest) a W := by
  refine Kd.event_run hgd ?_ h
  unfold execOp
  simp [ho, hm, hx, hrun, Result.andThen]
theorem ev_lookup (hgd : o.guard = none) {t : TypeId} {m x : Operand} (ho : o.op = .lookup t m x false) (vm vx v : Value) (W1 : World) (hm : a.eval m = vm) (hx : a.eval x = vx)
    (hrun : (Instr.lookup t vm vx false).run Try.prog W = .ok v W1) (h : wpList Try.prog ops Q rest (a.put o.dst v) W1) : wpList Try.prog ops Q (o :: rest) a W := by
  refine Kd.event_run hgd ?_ h
  unfold execOp
  simp [ho, hm, hx, hrun, Result.andThen]
theorem ev_entryStore (hgd : o.guard = none) (hN : o.dst = none) {t : TypeId} {m s x : Operand} (ho : o.op = .entryStore t m s x) (vm vs vx : Value) (W1 : World) (hm : a.eval m = vm) (hs : a.eval s = vs) (hx : a.eval x = vx)
    (hrun : (Instr.entryStore t vm vs vx).run Try.prog W = .ok () W1) (h : wpList Try.prog ops Q rest a W1) : wpList Try.prog ops Q (o :: rest) a W := by
  refine wpList_plain hgd fun K hK => ?_
  unfold Oper.wp
  rw [show (execOp a.eval o).run Try.prog W = .ok .skip W1 from by unfold execOp; simp [ho, hm, hs, hx, hrun, Result.andThen]]
  show K (a.put o.dst undef) W1
  rw [hN]
  exact hK _ _ h
theorem ev_store4 (hgd : o.guard = none) (hN : o.dst = none) {x y : Operand} (ho : o.op = .store 61 x y) (key : List Int) (c : Array Value) (hx : a.eval x = .pointer (some ⟨W.heap.size, 0, none⟩)) (hy : a.eval y = kv key) (hk : key.length = 4) (hc : c.size = 4)
    (h : wpList Try.prog ops Q rest a (W.alloc (.cells (key.map (Value.int .u8)).toArray 61))) : wpList Try.prog ops Q (o :: rest) a (W.alloc (.cells c 61)) := by
  have hi : (Try.prog.info? 61).map (·.size) = some (key.map (Value.int .u8)).toArray.size := by
    rw [List.size_toArray, List.length_map, hk]; kernel_rfl
  have hr := run_storeAt_new (P := Try.prog) W 61 c (key.map (Value.int .u8)).toArray hi (by simp [hk, hc]) (by simp [Value.oneCell'])
  refine wpList_plain hgd fun K hK => ?_
  unfold Oper.wp
  rw [show (execOp a.eval o).run Try.prog (W.alloc (.cells c 61)) = .ok .skip (W.alloc (.cells (key.map (Value.int .u8)).toArray 61)) from by unfold execOp; simp [ho, hx, hy, kv, hr, Result.andThen]]
  show K (a.put o.dst undef) _
  rw [hN]
  exact hK _ _ h
theorem ev_entry_map {base b k : Nat} {l key : List Int} (M : MapSt W base b l k) (hk : Key4 key) (hkk : (l.drop k).take 4 = key) (hgd : o.guard = none) {m x : Operand} (ho : o.op = .mapEntry 60 m x) (hm : a.eval m = .map (some b)) (hx : a.eval x = kv key)
    (h : ∀ (A : Option Addr) (c st : Nat) (W3 : World), (∀ i, i ≠ b → W3.heap[i]? = W.heap[i]?) → W3.heap.size = W.heap.size → Below base W W3 → Ri W3 base (fun j => j ≠ b) (.slice A (places l k key).length c) (places l k key) →
      (∀ (w2 : World) (v1 : Value), W3.grownBy w2 (Value.slice A (places l k key).length c).ownBlock → Ri w2 base (fun _ => True) v1 (places l k key ++ [(k : Int)]) → (v1.ownBlock = (Value.slice A (places l k key).length c).ownBlock ∨ ∃ d, v1.ownBlock = some d ∧ W3.heap.size ≤ d) →
        ∃ w4, (Instr.entryStore 60 (.map (some b)) (.int .i64 st) v1).run Try.prog w2 = .ok () w4 ∧ MapSt w4 base b l (k + 1) ∧ Below base w2 w4) →
      wpList Try.prog ops Q rest (a.put o.dst (.tuple #[.slice A (places l k key).length c, .int .i64 st])) W3) : wpList Try.prog ops Q (o :: rest) a W := by
  obtain ⟨v0, st, es1, clock1, h1, h2, h3⟩ := map_entry_run M hk
  obtain ⟨hbb, es, clock, hb, _⟩ := M
  obtain ⟨A, c, rfl⟩ := Kd.R_slice h2
  obtain ⟨g1, g2⟩ := heap_sb (o' := .map es1 clock1) hb
  have hsz : (Go.ChangeMaps.setBlock W b (.map es1 clock1)).heap.size = W.heap.size := by simp [Go.ChangeMaps.setBlock]
  have hblt : b < W.heap.size := by
    rcases Nat.lt_or_ge b W.heap.size with h | h
    · exact h
    · rw [Array.getElem?_eq_none h] at hb; cases hb
  refine ev_entry hgd ho _ _ _ _ hm hx h1 (h A c st _ g2 hsz ⟨rfl, rfl, rfl, by omega, fun i hi => g2 i (by omega)⟩ (Kd.R_mono (Kd.R_step h2 (fun i hi _ => g2 i hi)) (fun _ h => h)) ?_)
  intro w2 v1 hg hR hat
  have hne : some b ≠ (Value.slice A (places l k key).length c).ownBlock := fun he => h2.1 b he.symm rfl
  have hw2 : w2.heap[b]? = some (.map es1 clock1) := (hg.block b (by omega) hne).trans g1
  obtain ⟨o4, q1, q2⟩ := h3 w2 v1 hw2 (fun i hi hib hio => (hg.block i (by omega) hio).trans (g2 i hib)) hR (by rw [hsz] at hat; exact hat) hkk
  exact ⟨_, q1, q2, ⟨rfl, rfl, rfl, by simp [Go.ChangeMaps.setBlock], fun i hi => (heap_sb hw2).2 i (by omega)⟩⟩
end
theorem info_int : (Try.prog.info? 3).map (fun i => (i.zero, i.size, i.bytes)) = some (some (.int .i64 0), 1, 8) := by kernel_rfl
theorem heap_second (W : World) (o1 o2 : Obj) : ((W.alloc o1).alloc o2).heap[W.heap.size + 1]? = some o2 := by
  have h := (Go.MapKept.heap_alloc (W.alloc o1) o2).1
  have e : (W.alloc o1).heap.size = W.heap.size + 1 := by simp
  rwa [e] at h
theorem C_box {W : World} {N : Nat} {x : Int} {t : TypeId} (h : W.heap[N]? = some (.cells #[.int .i64 x] t (0, 0))) : Kd.C (Kd.int .i64) W (some ⟨N, 0, none⟩) 1 [x] := by
  refine ⟨rfl, by omega, fun _ => ⟨_, rfl, fun j p hj => ⟨[.int .i64 p], rfl, rfl, fun i u hu => ?_⟩⟩⟩
  have hj0 : j = 0 := by
    rcases j with _ | j
    · rfl
    · simp at hj
  have hi0 : i = 0 := by
    rcases i with _ | i
    · rfl
    · simp at hu
  subst hj0 hi0
  simp only [List.getElem?_cons_zero, Option.some.injEq] at hj hu
  subst hj hu
  exact cell_of_one h
theorem cell_new4 (W : World) (key : List Int) (t : TypeId) (j : Nat) (hj : j < key.length) : (W.alloc (.cells (key.map (Value.int .u8)).toArray t)).cell? ((⟨W.heap.size, 0, none⟩ : Addr).add j) = some (.int .u8 key[j]) := by
  rw [Addr.add_mid, World.cell?_alloc_at _ _ _ _ rfl]
  simp [hj]
theorem rd_at {l : List Int} {k : Nat} (h : k < l.length) : rd l (k : Int) = l[k] := by
  simp [rd, rdOf, h]
theorem key_cells {W : World} {A : Option Addr} {l : List Int} (h : Kd.C (Kd.int .u8) W A l.length l) {ad : Addr} (hA : A = some ad) {k : Nat} (hk : k + 4 ≤ l.length) (j : Nat) (hj : j < ((l.drop k).take 4).length) : W.cell? ((ad.add k).add j) = some (.int .u8 ((l.drop k).take 4)[j]) := by
  have hj' : j < 4 ∧ k + j < l.length := by simp at hj; omega
  obtain ⟨ad', e, hc⟩ := Kd.at_int h ((k + j : Nat) : Int) (by omega) (by omega)
  rw [hA] at e
  injection e with e
  subst e
  rw [rd_at hj'.2] at hc
  simp only [Int.toNat_natCast] at hc
  have e2 : (ad.add k).add j = ad.add (k + j) := by
    unfold Addr.add
    by_cases h0 : k = 0 <;> by_cases h1 : j = 0 <;> simp [h0, h1, Nat.add_assoc]
  rw [e2]
  simpa using hc
theorem key4_at {l : List Int} (h : (l.all fun x => decide (0 ≤ x) && decide (x < 256)) = true) {k : Nat} (hk : k + 4 ≤ l.length) : Key4 ((l.drop k).take 4) := by
  refine ⟨by simp; omega, fun x hx => ?_⟩
  have := List.all_eq_true.1 h x (List.mem_of_mem_drop (List.mem_of_mem_take hx))
  simpa using this
end Go.Proofs.Ytjckjcekapkkjaa.P
