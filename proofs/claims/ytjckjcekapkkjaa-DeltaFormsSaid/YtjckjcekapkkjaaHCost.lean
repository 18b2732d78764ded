/- The contract of delta.Cost: the number of bytes of the encoding, or 0. -/
-- HAND stockyard/delta.Cost
import Derived.Test.YtjckjcekapkkjaaPx0
import Derived.Test.YtjckjcekapkkjaaHCheck
import Derived.Test.YtjckjcekapkkjaaHEncode
import Derived.Test.YtjckjcekapkkjaaHKind
import Derived.Test.YtjckjcekapkkjaaHOps
import Derived.Test.YtjckjcekapkkjaaHPutUint
import Derived.Lib.Hide
import Derived.Outline
import Derived.Deep.DeepMust
namespace Go.Proofs.Ytjckjcekapkkjaa.P
open Go.RowKit Go.Proofs.YtjckjcekapkkjaaW.PrintWords Go.Proofs.YtjckjcekapkkjaaW.PrintLast Go.Proofs.YtjckjcekapkkjaaW.PrintMore
set_option linter.unusedVariables false
set_option linter.unusedSimpArgs false

def encLen (v : Int) : Int := ((encU v.toNat).length : Int)
def costGo : Int → List Dop → Int
  | n, [] => n
  | n, o :: os => if opCp o then (if o.f0 < 0 then 0 else costGo (n + (encLen (2 * o.f1 + 1) + encLen o.f0)) os) else if opLt o then costGo (n + (encLen (2 * o.f2.length) + o.f2.length)) os else 0
theorem costGo_cons {n : Int} {l : List Dop} {k : Nat} (hk : k < l.length) : costGo n (l.drop k) = if opCp l[k] then (if l[k].f0 < 0 then 0 else costGo (n + (encLen (2 * l[k].f1 + 1) + encLen l[k].f0)) (l.drop (k + 1))) else if opLt l[k] then costGo (n + (encLen (2 * l[k].f2.length) + l[k].f2.length)) (l.drop (k + 1)) else 0 := by
  rw [List.drop_eq_getElem_cons hk, costGo]
def costSum (l : List Dop) : Nat := (l.map fun o => 20 + o.f2.length).sum
def delta_Cost.f (l0 : List Dop) : Option Int := if opsB l0 = true ∧ costSum l0 ≤ 4611686018427387904 then some (costGo (encLen l0.length) l0) else none
theorem encLen_b (v : Int) (h : v ≤ 18446744073709551615) : 1 ≤ encLen v ∧ encLen v ≤ 10 := by
  have := encU_pos v.toNat
  have := encU_len10 (v := v.toNat) (by omega)
  unfold encLen
  omega
theorem costSum_drop {l : List Dop} {i : Nat} (h : i < l.length) : costSum (l.drop i) = 20 + l[i].f2.length + costSum (l.drop (i + 1)) := by
  rw [List.drop_eq_getElem_cons h]; simp only [costSum, List.map_cons, List.sum_cons]

theorem u64_id {x : Int} (h0 : 0 ≤ x) (h1 : x ≤ 18446744073709551615) : IntKind.u64.wrap x = x := by
  simp [IntKind.wrap, IntKind.signed, IntKind.bits]
  omega
set_option maxHeartbeats 1000000 in
theorem cost_one (v : Int) (w : World) (h0 : 0 ≤ v) (h1 : v ≤ 18446744073709551615) :
    Calls Try.prog 50 #[.int .u64 v] w fun e w' => e = .returned (.int .i64 (encLen v)) ∧ Below w.heap.size w w' := by
  go_enter Try.func50, Try.ntmps50
  go_wp2_with (go_at_call 51; go_must (refine (codec_PutUint.calls none 0 [] v (encU v.toNat) _ ?c1 ?c2 ?c3).mono ?_); (case c1 => exact Kd.C_nil _ _); (case c2 => simp); (case c3 => unfold codec_PutUint.f; rw [if_pos (by simp; omega)]; rfl); rintro e w1 ⟨v0, rfl, ho, hb⟩; obtain ⟨A1, c1, rfl⟩ := Kd.R_slice ho)
  go_ret
  exact ⟨rfl, hb⟩

section
variable {P : Program} {ops : Array Oper} {Q : Exit → Act → World → Prop}
/-- A call of a function value that stands in a slot. -/
theorem goesV_ {oi : Oper} {N : Option Tmp} {a : Act} {w : World} {K : Act → World → Prop} {f : FuncId} {fn : Func} {cv : Operand} {xs : Array Operand} {ts : Array TypeId} (hf : P.funcs[f]? = some fn) (hname : (fn.name == "runtime.NumGoroutine") = false) (hb : fn.body.isSome = true) (args : Array Value)
    (hw : Region.wanted oi (yielded ops a.tmps) = true) (hN : oi.dst = N) (hop : oi.op = .call { callee := .value cv, args := xs, argTypes := ts }) (hcv : a.eval cv = .func (.func f) #[] #[]) (hargs : xs.map a.eval = args)
    (h : Calls P f args w fun e w' => ∃ v, e = .returned v ∧ K (a.put N v) w') : if Region.wanted oi (yielded ops a.tmps) = true then Oper.wp P oi a w K Q else K (a.put N undef) w := by
  refine call_ f args hw hN ?_ h
  have he := enters_ hf hname hb args w
  unfold execOp
  simp [hop, resolve, Deferred.ofValue, invoke, hcv, hargs, he]
end
set_option maxRecDepth 100000 in
set_option maxHeartbeats 4000000 in
theorem delta_Cost.calls (A0 : Option Addr) (c0 : Nat) (l0 : List Dop) (r : Int) (w : World) (hr0 : Kd.C k39 w A0 l0.length l0) (hc0 : l0.length ≤ c0) (h : delta_Cost.f l0 = some r) :
    Calls Try.prog 28 #[.slice A0 l0.length c0] w fun e w' => e = .returned (.int .i64 r) ∧ Below w.heap.size w w' := by
  unfold delta_Cost.f at h
  by_cases hB : opsB l0 = true ∧ costSum l0 ≤ 4611686018427387904
  case neg => rw [if_neg hB] at h; cases h
  rw [if_pos hB] at h
  have h := Option.some.inj h
  obtain ⟨hB, hsum⟩ := hB
  have HB := Lib.hid hB
  have HR := Lib.hid hr0
  have hl0 := hr0.2.1
  have hhd := encLen_b (l0.length : Int) (by omega)
  have hu : IntKind.u64.wrap (l0.length : Int) = (l0.length : Int) := u64_id (by omega) (by omega)
  have HS : Hid (costGo (encLen l0.length) (l0.drop 0) = r) := h
  have HC : Hid (encLen l0.length + costSum (l0.drop 0) ≤ 4611686018427387914) := Lib.hid (by simp; omega)
  clear hB hr0 h
  have t1 := ta_copied
  have t2 := ta_literal
  have t3 := ta_lit_copied
  have t4 := ta_nil_copied
  have t5 := ta_nil_literal
  go_enter Try.func28, Try.ntmps28
  go_wp2_with (go_at_call 50; go_must (refine (cost_one (l0.length : Int) _ (by omega) (by omega)).mono ?_); rintro e w1 ⟨rfl, hb0⟩)
  have HB0 := Lib.hid hb0
  generalize encLen (l0.length : Int) = n0 at *
  go_loopw [4, 17] (fun s i wr => ∃ (k : Nat) (n : Int), s = .int .i64 n ∧ i = .int .i64 (k : Int) ∧ k ≤ l0.length ∧ 0 ≤ n ∧ Hid (n + costSum (l0.drop k) ≤ 4611686018427387914) ∧ Hid (costGo n (l0.drop k) = r) ∧ Below w.heap.size w wr) (fun _ i _ => l0.length - (intOf i).toNat)
  case atStart => exact ⟨0, n0, rfl, rfl, by omega, by omega, HC, HS, HB0.out⟩
  case round =>
    obtain ⟨k, n, rfl, rfl, hk, hn0, hc, hs, hb⟩ := hrel
    clear HS HC HB0
    by_cases hlt : k < l0.length
    · obtain ⟨ad, A2, c2, rfl, e0, e1, e2, hl2, hC2⟩ := at_T39 (Kd.C_below HR.out hb) (k : Int) (by omega) (by omega)
      have hd := Lib.hid (hs.out.symm.trans (costGo_cons hlt))
      have hcd := hc.out
      rw [costSum_drop hlt] at hcd
      obtain ⟨⟨g0, g1⟩, ⟨g2, g3⟩, g4⟩ := opsB_rd HB.out k hlt
      rw [rd_ops k hlt, Int.toNat_natCast] at *
      clear hC2 hs hc
      generalize l0[k] = o at *
      obtain ⟨f0, f1, f2⟩ := o
      simp only at *
      have hz := hb.size
      by_cases hcp : 1 ≤ f1 ∧ f2 = []
      · obtain ⟨h1, rfl⟩ := hcp
        simp only [List.length_nil] at *
        by_cases hneg : f0 < 0
        · have hd1 := hd.out
          rw [if_pos ⟨h1, rfl⟩, if_pos hneg] at hd1
          subst hd1
          clear hd
          go_wp2_with (go_at_call 47; go_must (refine (kind_copy f0 f1 A2 c2 _ h1).mono ?_); rintro e w1 ⟨rfl, hb1⟩)
          go_ret
          exact ⟨rfl, (by repeat (first | exact hb | exact hb1 | (refine below_step ?_ hb1) | apply below_alloc | apply pw_below_drewN | apply below_drew | apply Below.setCell))⟩
        · rw [if_pos ⟨h1, rfl⟩, if_neg hneg] at hd
          go_upto_region 13 with (go_at_call 47; go_must (refine (kind_copy f0 f1 A2 c2 _ h1).mono ?_); rintro e w1 ⟨rfl, hb1⟩)
          have hx1 : IntKind.u64.wrap (IntKind.u64.wrap (2 * IntKind.u64.wrap f1) + 1) = 2 * f1 + 1 := by
            rw [u64_id (x := f1) (by omega) (by omega), u64_id (x := 2 * f1) (by omega) (by omega), u64_id (by omega) (by omega)]
          have hx2 : IntKind.u64.wrap f0 = f0 := u64_id (by omega) (by omega)
          have hel1 := encLen_b (2 * f1 + 1) (by omega)
          have hel2 := encLen_b f0 (by omega)
          have hB2 : Below w.heap.size w (w1.alloc (Obj.cells #[Value.int IntKind.i64 f0, Value.int IntKind.i64 f1] 72)) := (by repeat (first | exact hb | exact hb1 | (refine below_step ?_ hb1) | apply below_alloc | apply pw_below_drewN | apply below_drew | apply Below.setCell))
          have hcell0 : (w1.alloc (Obj.cells #[Value.int IntKind.i64 f0, Value.int IntKind.i64 f1] 72)).cell? ⟨w1.heap.size, 0, none⟩ = some (.int .i64 f0) := by simp
          have hcell1 : (w1.alloc (Obj.cells #[Value.int IntKind.i64 f0, Value.int IntKind.i64 f1] 72)).cell? ⟨w1.heap.size, 1, none⟩ = some (.int .i64 f1) := by simp
          generalize w1.alloc (Obj.cells #[Value.int IntKind.i64 f0, Value.int IntKind.i64 f1] 72) = W2 at *
          generalize w1.heap.size = g7 at *
          clear hb1 e0 e1 e2
          refine start_ (n := 16) (S := fun w' => w'.cell? ⟨g7, 0, none⟩ = some (.int .i64 f0) ∧ w'.cell? ⟨g7, 1, none⟩ = some (.int .i64 f1)) (ds := []) #[false, false, false, false, false, false, false, false, false, false, false, false, false, false, false, false] (by kernel_rfl) rfl rfl ⟨hcell0, hcell1⟩ (fun hHeld => ?_)
          refine pure_ (i := 0) (N := some 29) (v := ?_) (a' := ?_) #[true, false, false, false, false, false, false, false, false, false, false, false, false, false, false, false] rfl rfl (by kernel_rfl) (fun _ _ _ h => h) (Or.inl ⟨by rfl, ?_⟩) ?_ ?_
          rotate_left
          · intro w'
            go_simp
            with_reducible rfl
          rotate_left
          · simp only [Act.put, List.setIfInBounds_toArray, List.set_cons_zero, List.set_cons_succ, i64_w, i32_w]
            rfl
          refine pure_ (i := 1) (N := some 30) (v := ?_) (a' := ?_) #[true, true, false, false, false, false, false, false, false, false, false, false, false, false, false, false] rfl rfl (by kernel_rfl) (fun _ _ _ h => h) (Or.inl ⟨by rfl, ?_⟩) ?_ ?_
          rotate_left
          · intro w'
            go_simp
            with_reducible rfl
          rotate_left
          · simp only [Act.put, List.setIfInBounds_toArray, List.set_cons_zero, List.set_cons_succ, i64_w, i32_w]
            rfl
          refine pure_ (i := 2) (N := some 31) (v := ?_) (a' := ?_) #[true, true, true, false, false, false, false, false, false, false, false, false, false, false, false, false] rfl rfl (by kernel_rfl) (fun _ _ _ h => h) (Or.inl ⟨by rfl, ?_⟩) ?_ ?_
          rotate_left
          · intro w'
            go_simp
            with_reducible rfl
          rotate_left
          · simp only [Act.put, List.setIfInBounds_toArray, List.set_cons_zero, List.set_cons_succ, i64_w, i32_w]
            rfl
          refine pure_ (i := 8) (N := some 37) (v := ?_) (a' := ?_) #[true, true, true, false, false, false, false, false, true, false, false, false, false, false, false, false] rfl rfl (by kernel_rfl) (fun _ _ _ h => h) (Or.inl ⟨by rfl, ?_⟩) ?_ ?_
          rotate_left
          · intro w'
            go_simp
            with_reducible rfl
          rotate_left
          · simp only [Act.put, List.setIfInBounds_toArray, List.set_cons_zero, List.set_cons_succ, i64_w, i32_w]
            rfl
          refine pure_ (i := 9) (N := some 38) (v := ?_) (a' := ?_) #[true, true, true, false, false, false, false, false, true, true, false, false, false, false, false, false] rfl rfl (by kernel_rfl) (fun _ _ _ h => h) (Or.inl ⟨by rfl, ?_⟩) ?_ ?_
          rotate_left
          · intro w'
            go_simp
            with_reducible rfl
          rotate_left
          · simp only [Act.put, List.setIfInBounds_toArray, List.set_cons_zero, List.set_cons_succ, i64_w, i32_w]
            rfl
          refine take_ (i := 3) (N := some 32) (v := ?_) (a' := ?_) #[true, true, true, true, false, false, false, false, true, true, false, false, false, false, false, false] rfl rfl (by kernel_rfl) (fun _ _ _ h => h) (Or.inl ⟨by rfl, ?_⟩) hHeld ?_ ?_
          rotate_left
          · rintro w' ⟨s0, s1⟩
            go_simp
            with_reducible rfl
          rotate_left
          · simp only [Act.put, List.setIfInBounds_toArray, List.set_cons_zero, List.set_cons_succ, i64_w, i32_w]
            rfl
          refine pure_ (i := 4) (N := some 33) (v := ?_) (a' := ?_) #[true, true, true, true, true, false, false, false, true, true, false, false, false, false, false, false] rfl rfl (by kernel_rfl) (fun _ _ _ h => h) (Or.inl ⟨by rfl, ?_⟩) ?_ ?_
          rotate_left
          · intro w'
            go_simp
            with_reducible rfl
          rotate_left
          · simp only [Act.put, List.setIfInBounds_toArray, List.set_cons_zero, List.set_cons_succ, i64_w, i32_w]
            rfl
          refine pure_ (i := 5) (N := some 34) (v := ?_) (a' := ?_) #[true, true, true, true, true, true, false, false, true, true, false, false, false, false, false, false] rfl rfl (by kernel_rfl) (fun _ _ _ h => h) (Or.inl ⟨by rfl, ?_⟩) ?_ ?_
          rotate_left
          · intro w'
            go_simp
            with_reducible rfl
          rotate_left
          · simp only [Act.put, List.setIfInBounds_toArray, List.set_cons_zero, List.set_cons_succ, i64_w, i32_w]
            rfl
          refine pure_ (i := 6) (N := some 35) (v := ?_) (a' := ?_) #[true, true, true, true, true, true, true, false, true, true, false, false, false, false, false, false] rfl rfl (by kernel_rfl) (fun _ _ _ h => h) (Or.inl ⟨by rfl, ?_⟩) ?_ ?_
          rotate_left
          · intro w'
            go_simp
            with_reducible rfl
          rotate_left
          · simp only [Act.put, List.setIfInBounds_toArray, List.set_cons_zero, List.set_cons_succ, i64_w, i32_w]
            rfl
          refine take_ (i := 10) (N := some 39) (v := ?_) (a' := ?_) #[true, true, true, true, true, true, true, false, true, true, true, false, false, false, false, false] rfl rfl (by kernel_rfl) (fun _ _ _ h => h) (Or.inl ⟨by rfl, ?_⟩) hHeld ?_ ?_
          rotate_left
          · rintro w' ⟨s0, s1⟩
            go_simp
            with_reducible rfl
          rotate_left
          · simp only [Act.put, List.setIfInBounds_toArray, List.set_cons_zero, List.set_cons_succ, i64_w, i32_w]
            rfl
          refine pure_ (i := 11) (N := some 40) (v := ?_) (a' := ?_) #[true, true, true, true, true, true, true, false, true, true, true, true, false, false, false, false] rfl rfl (by kernel_rfl) (fun _ _ _ h => h) (Or.inl ⟨by rfl, ?_⟩) ?_ ?_
          rotate_left
          · intro w'
            go_simp
            with_reducible rfl
          rotate_left
          · simp only [Act.put, List.setIfInBounds_toArray, List.set_cons_zero, List.set_cons_succ, i64_w, i32_w]
            rfl
          refine one_ (i := 7) (N := some 36) #[true, true, true, true, true, true, true, true, true, true, true, true, false, false, false, false] rfl rfl (by kernel_rfl) (by decide) (fun K hK => ?_)
          refine goesV_ Try.func50 (by kernel_rfl) rfl #[.int .u64 (2 * f1 + 1)] (by rfl) rfl rfl (by rfl) (by simp only [List.map_toArray, List.map_cons, List.map_nil]; rfl) ?_
          with_reducible refine (cost_one (2 * f1 + 1) _ (by omega) (by omega)).mono ?_
          rintro e w3 ⟨rfl, hb3⟩
          refine ⟨_, rfl, ?_⟩
          refine hK.out _ _ ⟨pw_cell_below hb3 hHeld.1, pw_cell_below hb3 hHeld.2⟩ (fun hHeld => ?_)
          clear hK K
          refine norm_ (a' := ?_) ?_ ?_
          rotate_left
          · show Act.put _ (some 36) _ = _
            simp only [Act.put, List.setIfInBounds_toArray, List.set_cons_zero, List.set_cons_succ, i64_w, i32_w]
            rfl
          refine one_ (i := 12) (N := some 41) #[true, true, true, true, true, true, true, true, true, true, true, true, true, false, false, false] rfl rfl (by kernel_rfl) (by decide) (fun K hK => ?_)
          refine goesV_ Try.func50 (by kernel_rfl) rfl #[.int .u64 f0] (by rfl) rfl rfl (by rfl) (by simp only [List.map_toArray, List.map_cons, List.map_nil]; rfl) ?_
          with_reducible refine (cost_one f0 _ (by omega) (by omega)).mono ?_
          rintro e w4 ⟨rfl, hb4⟩
          refine ⟨_, rfl, ?_⟩
          refine hK.out _ _ ⟨pw_cell_below hb4 hHeld.1, pw_cell_below hb4 hHeld.2⟩ (fun hHeld => ?_)
          clear hK K
          refine norm_ (a' := ?_) ?_ ?_
          rotate_left
          · show Act.put _ (some 41) _ = _
            simp only [Act.put, List.setIfInBounds_toArray, List.set_cons_zero, List.set_cons_succ, i64_w, i32_w]
            rfl
          refine pure_ (i := 13) (N := some 42) (v := ?_) (a' := ?_) #[true, true, true, true, true, true, true, true, true, true, true, true, true, true, false, false] rfl rfl (by kernel_rfl) (fun _ _ _ h => h) (Or.inl ⟨by rfl, ?_⟩) ?_ ?_
          rotate_left
          · intro w'
            go_simp
            with_reducible rfl
          rotate_left
          · simp only [Act.put, List.setIfInBounds_toArray, List.set_cons_zero, List.set_cons_succ, i64_w, i32_w]
            rfl
          refine pure_ (i := 14) (N := some 43) (v := ?_) (a' := ?_) #[true, true, true, true, true, true, true, true, true, true, true, true, true, true, true, false] rfl rfl (by kernel_rfl) (fun _ _ _ h => h) (Or.inl ⟨by rfl, ?_⟩) ?_ ?_
          rotate_left
          · intro w'
            go_simp
            with_reducible rfl
          rotate_left
          · simp only [Act.put, List.setIfInBounds_toArray, List.set_cons_zero, List.set_cons_succ, i64_w, i32_w]
            rfl
          refine pure_ (i := 15) (N := some 4) (v := ?_) (a' := ?_) #[true, true, true, true, true, true, true, true, true, true, true, true, true, true, true, true] rfl rfl (by kernel_rfl) (fun _ _ _ h => h) (Or.inl ⟨by rfl, ?_⟩) ?_ ?_
          rotate_left
          · intro w'
            go_simp
            with_reducible rfl
          rotate_left
          · simp only [Act.put, List.setIfInBounds_toArray, List.set_cons_zero, List.set_cons_succ, i64_w, i32_w]
            rfl
          refine done_ (by kernel_rfl) ?_

          go_wp2_with fail
          go_roundw
          case rel => exact ⟨k + 1, n + (encLen (2 * f1 + 1) + encLen f0), by rw [wrap64_id (x := encLen (2 * f1 + 1) + encLen f0) (by omega) (by omega), wrap64_id (by omega) (by omega)], by go_num, by omega, by omega, Lib.hid (by omega), Lib.hid hd.out.symm, (by repeat (first | exact hB2 | exact hb3 | exact hb4 | (refine below_step ?_ hb4) | (refine below_step ?_ hb3) | apply below_alloc | apply pw_below_drewN | apply below_drew | apply Below.setCell))⟩
          case measure => simp [intOf]; omega
      · by_cases hli : f1 = 0 ∧ f0 = 0 ∧ f2 ≠ []
        · obtain ⟨rfl, rfl, hne⟩ := hli
          have hpos : 0 < f2.length := List.length_pos_iff.2 hne
          have hel := encLen_b (2 * (f2.length : Int)) (by omega)
          have hu1 : IntKind.u64.wrap (f2.length : Int) = (f2.length : Int) := u64_id (by omega) (by omega)
          have hu2 : IntKind.u64.wrap (2 * (f2.length : Int)) = 2 * (f2.length : Int) := u64_id (by omega) (by omega)
          rw [if_neg (by simp [opCp]), if_pos ⟨rfl, rfl, hne⟩] at hd
          clear hcp hne
          go_wp2_with (first | (go_at_call 47; go_must (refine (kind_literal 0 0 A2 f2.length c2 _ rfl rfl hpos).mono ?_); rintro e w1 ⟨rfl, hb1⟩) | (go_at_call 50; go_must (refine (cost_one (2 * (f2.length : Int)) _ (by omega) (by omega)).mono ?_); rintro e w2 ⟨rfl, hb2⟩))
          go_roundw
          case rel => exact ⟨k + 1, n + (encLen (2 * (f2.length : Int)) + f2.length), rfl, by go_num, by omega, by omega, Lib.hid (by omega), Lib.hid hd.out.symm, (by repeat (first | exact hb | exact hb1 | exact hb2 | (refine below_step ?_ hb1) | (refine below_step ?_ hb2) | apply below_alloc | apply pw_below_drewN | apply below_drew | apply Below.setCell))⟩
          case measure => simp [intOf]; omega
        · rw [if_neg (by simpa [opCp] using hcp), if_neg (by simpa [opLt] using hli)] at hd
          have hd1 := hd.out
          subst hd1
          clear hd
          have hk : (1 ≤ f1 ∧ 0 < f2.length) ∨ f1 < 0 ∨ (f1 = 0 ∧ f0 ≠ 0) ∨ (f1 = 0 ∧ f0 = 0 ∧ f2 = []) := by
            by_cases h0 : f2 = []
            · subst h0
              have h1 : ¬ 1 ≤ f1 := fun h => hcp ⟨h, rfl⟩
              by_cases a : f1 < 0
              · exact .inr (.inl a)
              · by_cases b : f0 = 0
                · exact .inr (.inr (.inr ⟨by omega, b, rfl⟩))
                · exact .inr (.inr (.inl ⟨by omega, b⟩))
            · have : 0 < f2.length := List.length_pos_iff.2 h0
              by_cases a : f0 = 0
              · have : f1 ≠ 0 := fun b => hli ⟨b, a, h0⟩
                omega
              · omega
          clear hcp hli
          rcases hk with ⟨b, b2⟩ | b | ⟨b, b2⟩ | ⟨b, b2, rfl⟩
          · go_wp2_with (go_at_call 47; go_must (refine (kind_none1 f0 f1 A2 f2.length c2 _ b b2).mono ?_); rintro e w1 ⟨rfl, hb1⟩)
            go_ret
            exact ⟨rfl, (by repeat (first | exact hb | exact hb1 | (refine below_step ?_ hb1) | apply below_alloc | apply pw_below_drewN | apply below_drew | apply Below.setCell))⟩
          · go_wp2_with (go_at_call 47; go_must (refine (kind_none2 f0 f1 A2 f2.length c2 _ b).mono ?_); rintro e w1 ⟨rfl, hb1⟩)
            go_ret
            exact ⟨rfl, (by repeat (first | exact hb | exact hb1 | (refine below_step ?_ hb1) | apply below_alloc | apply pw_below_drewN | apply below_drew | apply Below.setCell))⟩
          · have B1 := Lib.hid b
            have B2 := Lib.hid b2
            clear b b2
            go_wp2_with (go_at_call 47; go_must (refine (kind_none3 f0 f1 A2 f2.length c2 _ B1.out B2.out).mono ?_); rintro e w1 ⟨rfl, hb1⟩)
            go_ret
            exact ⟨rfl, (by repeat (first | exact hb | exact hb1 | (refine below_step ?_ hb1) | apply below_alloc | apply pw_below_drewN | apply below_drew | apply Below.setCell))⟩
          · have B1 := Lib.hid b
            have B2 := Lib.hid b2
            clear b b2
            simp only [List.length_nil] at *
            go_wp2_with (go_at_call 47; go_must (refine (kind_none4 f0 f1 A2 c2 _ B1.out B2.out).mono ?_); rintro e w1 ⟨rfl, hb1⟩)
            go_ret
            exact ⟨rfl, (by repeat (first | exact hb | exact hb1 | (refine below_step ?_ hb1) | apply below_alloc | apply pw_below_drewN | apply below_drew | apply Below.setCell))⟩
    · have hd : r = n := by rw [← hs.out, List.drop_of_length_le (by omega)]; rfl
      subst hd
      go_wp2
      go_ret
      exact ⟨rfl, hb⟩
end Go.Proofs.Ytjckjcekapkkjaa.P
