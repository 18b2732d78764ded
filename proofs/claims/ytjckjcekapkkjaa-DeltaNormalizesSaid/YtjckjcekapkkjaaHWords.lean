/- Words of my own for the print: make([]T, 0, n). -/
import Derived.Test.YtjckjcekapkkjaaPx0
import Derived.WideKeyArr
import Derived.WideKeyArr2
import Derived.WideKeyEntry
import Derived.Lib.Hide
namespace Go.Proofs.Ytjckjcekapkkjaa.P
open Go.RowKit Go.WideMaps Go.Proofs.YtjckjcekapkkjaaW.PrintWords Go.Proofs.YtjckjcekapkkjaaW.PrintLast Go.Proofs.YtjckjcekapkkjaaW.PrintMore
set_option linter.unusedVariables false
set_option linter.unusedSimpArgs false

def kv (x : List Int) : Value := .agg (x.map (Value.int .u8)).toArray
theorem mp_arr : ArrKey Try.prog 61 5 4 := ⟨Try.underlying61, by kernel_rfl, by kernel_rfl, by kernel_rfl⟩
theorem mp_law : KeyLaw Try.prog 61 := mp_arr.law
theorem mp_keyOf (a b c d : Int) (ha : 0 ≤ a ∧ a < 256) (hb : 0 ≤ b ∧ b < 256) (hc : 0 ≤ c ∧ c < 256) (hd : 0 ≤ d ∧ d < 256) : ∃ l, keyOf Try.prog 61 (kv [a, b, c, d]) = some l := by
  have hsz : 0 < Try.prog.types.size := of_decide_eq_true (by kernel_rfl)
  obtain ⟨m0, hm0⟩ : ∃ m, Try.prog.types.size = m + 1 := ⟨Try.prog.types.size - 1, by omega⟩
  have hkt := mp_arr.keyType ⟨m0, hm0⟩
  unfold keyOf kv
  simp only [Try.underlying61]
  rw [if_pos (by simp [hkt, Value.formed, Try.underlying61, mp_arr.size]), hm0]
  unfold Program.keyLits
  simp only [Try.underlying61, Value.cells]
  rw [if_pos (by rw [mp_arr.size]; simp)]
  have k0 : ∀ x : Int, 0 ≤ x ∧ x < 256 → Try.prog.keyLits (m0 + 1) 5 [.int .u8 x] = some [.int .u8 x] := fun x hx => by
    unfold Program.keyLits
    simp only [Try.underlying5]
    rw [if_pos ⟨trivial, by simp [Lit.wf, IntKind.min, IntKind.max, IntKind.signed, IntKind.bits]; omega⟩]
  rw [mp_arr.one, show List.range 4 = [0, 1, 2, 3] from rfl]
  simp [k0 a ha, k0 b hb, k0 c hc, k0 d hd]
end Go.Proofs.Ytjckjcekapkkjaa.P
namespace Go.Proofs.Ytjckjcekapkkjaa.P
open Go.RowKit Go.Proofs.YtjckjcekapkkjaaW.PrintWords Go.Proofs.YtjckjcekapkkjaaW.PrintLast Go.Proofs.YtjckjcekapkkjaaW.PrintMore
set_option linter.unusedVariables false
section
variable {P : Program} {ops : Array Oper} {rest : List Oper} {o : Oper} {a : Act} {Q : Exit → Act → World → Prop} {α : Type}
theorem R_make0_ (d : Kd α) {w0 W : World} (base e : Nat) (hgd : o.guard = none) {N : Tmp} (hd : o.dst = some N) (t : TypeId) (x y : Operand) (ho : o.op = .makeSlice t x y) (n : Int) (hx : a.eval x = .int .i64 0) (hy : a.eval y = .int .i64 n)
    (ht : P.underlying t = some (.slice e)) (z : Value) (bytes : Nat) (hinfo : (P.info? e).map (fun i => (i.zero, i.size, i.bytes)) = some (some z, d.sz, bytes)) (hz : z.cells.size = d.sz) (hs0 : 0 < d.sz) (hb0 : 0 < bytes)
    (z0 : α) {ok okp : Nat → Prop} (hzero : d.M W base okp z0 z.cells.toList) (hok : ∀ k, okp k → ok k) (hfresh : ok W.heap.size) (h0 : 0 ≤ n) (hl : n.toNat * bytes ≤ 281474976710656) (HB : Below base w0 W) (hbase : base ≤ W.heap.size)
    (h : ∀ v1 w1, d.R e w1 base ok v1 ([] : List α) → Below base w0 w1 → W.grownBy w1 none → (∃ b, v1.ownBlock = some b ∧ W.heap.size ≤ b) → wpList P ops Q rest (a.put o.dst v1) w1) : wpList P ops Q (o :: rest) a W := by
  obtain ⟨m, rfl⟩ := Int.eq_ofNat_of_zero_le h0
  simp only [Int.toNat_natCast] at hl h
  obtain ⟨i0, hi, hzz⟩ := Option.map_eq_some_iff.1 hinfo
  simp only [Prod.mk.injEq] at hzz
  obtain ⟨hz0, hz1, hz2⟩ := hzz
  have hm : m ≤ 281474976710656 := Nat.le_trans (Nat.le_mul_of_pos_right _ hb0) hl
  refine wpList_make_own W hgd x y t ho base e i0 z d.sz ht hi hz0 hz1 .i64 .i64 (m : Int) m hx hy rfl (by rw [hz2, Nat.mul_comm]; exact hl) (by unfold maxLen; omega) hbase ?_
  intro w1 hown hg
  refine h _ w1 ⟨fun k hk => ?_, [], hown, Reps.none _ _⟩ (HB.grown hg hbase (by simp)) hg ⟨_, rfl, Nat.le_refl _⟩
  have : W.heap.size = k := by simpa [Value.ownBlock] using hk
  subst this
  exact hfresh
end
end Go.Proofs.Ytjckjcekapkkjaa.P
