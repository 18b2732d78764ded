/- The contract of delta.Check: the size of the result, or the first error. -/
-- HAND stockyard/delta.Check
import Derived.Test.YtjckjcekapkkjaaPx0
import Derived.Test.YtjckjcekapkkjaaHKind
import Derived.Test.YtjckjcekapkkjaaHOps
import Derived.Lib.Hide
import Derived.Outline
import Derived.Deep.DeepMust
namespace Go.Proofs.Ytjckjcekapkkjaa.P
open Go.RowKit Go.Proofs.YtjckjcekapkkjaaW.PrintWords Go.Proofs.YtjckjcekapkkjaaW.PrintLast Go.Proofs.YtjckjcekapkkjaaW.PrintMore
set_option linter.unusedVariables false
set_option linter.unusedSimpArgs false

def delta_Check.f (a0 : Int) (l1 : List Dop) : Option (Int × Int) := if opsB l1 = true then some (checkS a0 l1) else none

theorem ta_copied (v : Value) (W : World) : (Instr.typeAssert (.iface 72 v) 20 72 true).run Try.prog W = .ok (.tuple #[v, .bool true]) W := by rfl
theorem ta_literal (v : Value) (W : World) : (Instr.typeAssert (.iface 73 v) 20 73 true).run Try.prog W = .ok (.tuple #[v, .bool true]) W := by rfl
theorem ta_lit_copied (v : Value) (W : World) : (Instr.typeAssert (.iface 73 v) 20 72 true).run Try.prog W = .ok (.tuple #[.agg #[.int .i64 0, .int .i64 0], .bool false]) W := by rfl
theorem ta_nil_copied (W : World) : (Instr.typeAssert .nilIface 20 72 true).run Try.prog W = .ok (.tuple #[.agg #[.int .i64 0, .int .i64 0], .bool false]) W := by rfl
theorem ta_nil_literal (W : World) : (Instr.typeAssert .nilIface 20 73 true).run Try.prog W = .ok (.tuple #[.slice none 0 0, .bool false]) W := by rfl

set_option maxRecDepth 100000 in
set_option maxHeartbeats 4000000 in
theorem delta_Check.calls (a0 : Int) (A1 : Option Addr) (c1 : Nat) (l1 : List Dop) (r1 r2 : Int) (w : World) (hr1 : Kd.C k39 w A1 l1.length l1) (hc1 : l1.length ≤ c1) (h : delta_Check.f a0 l1 = some (r1, r2)) :
    Calls Try.prog 23 #[.int .i64 a0, .slice A1 l1.length c1] w fun e w' => e = .returned (.tuple #[.int .i64 r1, .int .i64 r2]) ∧ Below w.heap.size w w' := by
  unfold delta_Check.f at h
  by_cases hB : opsB l1 = true
  case neg => rw [if_neg hB] at h; cases h
  rw [if_pos hB] at h
  have h := Option.some.inj h
  have HB := Lib.hid hB
  have HR := Lib.hid hr1
  clear hB hr1
  unfold checkS at h
  by_cases hs : a0 < 0 ∨ a0 > 1048576
  · rw [if_pos hs] at h
    simp only [Prod.mk.injEq] at h
    obtain ⟨rfl, rfl⟩ := h
    have hs' : a0 < 0 ∨ (0 ≤ a0 ∧ a0 > 1048576) := by omega
    clear hs
    rcases hs' with b | ⟨b, b2⟩
    all_goals
      go_enter Try.func23, Try.ntmps23
      go_wp2
      go_ret2
      exact ⟨rfl, Below.refl _ _⟩
  rw [if_neg hs] at h
  have hb0 : 0 ≤ a0 := by omega
  have hb1 : a0 ≤ 1048576 := by omega
  clear hs
  by_cases hl : l1.length > 4096
  · rw [if_pos hl] at h
    simp only [Prod.mk.injEq] at h
    obtain ⟨rfl, rfl⟩ := h
    go_enter Try.func23, Try.ntmps23
    go_wp2
    go_ret2
    exact ⟨rfl, Below.refl _ _⟩
  rw [if_neg hl] at h
  have hl4 : l1.length ≤ 4096 := by omega
  have HS : Hid (chk a0 0 (l1.drop 0) = (r1, r2)) := h
  clear hl h
  have t1 := ta_copied
  have t2 := ta_literal
  have t3 := ta_lit_copied
  have t4 := ta_nil_copied
  have t5 := ta_nil_literal
  go_enter Try.func23, Try.ntmps23
  go_wp2_with fail
  go_loopw [6, 25] (fun s i wr => ∃ (k : Nat) (n : Int), s = .int .i64 n ∧ i = .int .i64 (k : Int) ∧ k ≤ l1.length ∧ 0 ≤ n ∧ n ≤ 1048576 ∧ Hid (chk a0 n (l1.drop k) = (r1, r2)) ∧ Below w.heap.size w wr) (fun _ i _ => l1.length - (intOf i).toNat)
  case atStart => exact ⟨0, 0, rfl, rfl, by omega, by omega, by omega, HS, Below.refl _ _⟩
  case round =>
    obtain ⟨k, n, rfl, rfl, hk, hn0, hn1, hs, hb⟩ := hrel
    clear HS
    by_cases hlt : k < l1.length
    · obtain ⟨ad, A2, c2, rfl, e0, e1, e2, hl2, hC2⟩ := at_T39 (Kd.C_below HR.out hb) (k : Int) (by omega) (by omega)
      have hd := Lib.hid (hs.out.symm.trans (chk_cons hlt))
      obtain ⟨⟨g0, g1⟩, ⟨g2, g3⟩, g4⟩ := opsB_rd HB.out k hlt
      rw [rd_ops k hlt, Int.toNat_natCast] at *
      clear hC2 hs
      generalize l1[k] = o at *
      obtain ⟨f0, f1, f2⟩ := o
      simp only at *
      have hz := hb.size
      by_cases hcp : 1 ≤ f1 ∧ f2 = []
      · obtain ⟨h1, rfl⟩ := hcp
        simp only [List.length_nil] at *
        by_cases hbad : f0 < 0 ∨ f0 > a0 ∨ f1 > a0 - f0
        · have hd1 := hd.out
          rw [if_neg (by simp [opCp, h1]), if_pos ⟨⟨h1, rfl⟩, hbad⟩] at hd1
          simp only [Prod.mk.injEq] at hd1
          obtain ⟨rfl, rfl⟩ := hd1
          have hbad' : f0 < 0 ∨ (0 ≤ f0 ∧ f0 > a0) ∨ (0 ≤ f0 ∧ f0 ≤ a0 ∧ f1 > a0 - f0) := by omega
          clear hbad hd
          rcases hbad' with b | ⟨b, b2⟩ | ⟨b, b2, b3⟩
          all_goals
            go_wp2_with (go_at_call 47; go_must (refine (kind_copy f0 f1 A2 c2 _ h1).mono ?_); rintro e w1 ⟨rfl, hb1⟩)
            go_ret2
            exact ⟨rfl, (by repeat (first | exact hb | exact hb1 | (refine below_step ?_ hb1) | apply below_alloc | apply pw_below_drewN | apply below_drew | apply Below.setCell))⟩
        · have hgood : 0 ≤ f0 ∧ f0 ≤ a0 ∧ f1 ≤ a0 - f0 := by omega
          obtain ⟨q1, q2, q3⟩ := hgood
          have hlen : opLen ⟨f0, f1, []⟩ = f1 := by simp [opLen]
          rw [if_neg (by simp [opCp, h1]), if_neg (by intro h; exact hbad h.2), hlen] at hd
          clear hbad hlen
          by_cases hbig : n + f1 > 1048576
          · rw [if_pos hbig] at hd
            have hd1 := hd.out
            simp only [Prod.mk.injEq] at hd1
            obtain ⟨rfl, rfl⟩ := hd1
            clear hd
            go_wp2_with (go_at_call 47; go_must (refine (kind_copy f0 f1 A2 c2 _ h1).mono ?_); rintro e w1 ⟨rfl, hb1⟩)
            go_ret2
            exact ⟨rfl, (by repeat (first | exact hb | exact hb1 | (refine below_step ?_ hb1) | apply below_alloc | apply pw_below_drewN | apply below_drew | apply Below.setCell))⟩
          · rw [if_neg hbig] at hd
            go_wp2_with (go_at_call 47; go_must (refine (kind_copy f0 f1 A2 c2 _ h1).mono ?_); rintro e w1 ⟨rfl, hb1⟩)
            go_roundw
            case rel => exact ⟨k + 1, n + f1, rfl, by go_num, by omega, by omega, by omega, hd.out.symm, (by repeat (first | exact hb | exact hb1 | (refine below_step ?_ hb1) | apply below_alloc | apply pw_below_drewN | apply below_drew | apply Below.setCell))⟩
            case measure => simp [intOf]; omega
      · by_cases hli : f1 = 0 ∧ f0 = 0 ∧ f2 ≠ []
        · obtain ⟨rfl, rfl, hne⟩ := hli
          have hpos : 0 < f2.length := List.length_pos_iff.2 hne
          have hlen : opLen ⟨0, 0, f2⟩ = f2.length := by simp [opLen]
          rw [if_neg (by simp [opLt, hne]), if_neg (by simp [opCp]), hlen] at hd
          clear hcp hlen
          by_cases hbig : n + f2.length > 1048576
          · rw [if_pos hbig] at hd
            have hd1 := hd.out
            simp only [Prod.mk.injEq] at hd1
            obtain ⟨rfl, rfl⟩ := hd1
            clear hd hne
            go_wp2_with (go_at_call 47; go_must (refine (kind_literal 0 0 A2 f2.length c2 _ rfl rfl hpos).mono ?_); rintro e w1 ⟨rfl, hb1⟩)
            go_ret2
            exact ⟨rfl, (by repeat (first | exact hb | exact hb1 | (refine below_step ?_ hb1) | apply below_alloc | apply pw_below_drewN | apply below_drew | apply Below.setCell))⟩
          · rw [if_neg hbig] at hd
            clear hne
            go_wp2_with (go_at_call 47; go_must (refine (kind_literal 0 0 A2 f2.length c2 _ rfl rfl hpos).mono ?_); rintro e w1 ⟨rfl, hb1⟩)
            go_roundw
            case rel => exact ⟨k + 1, n + f2.length, rfl, by go_num, by omega, by omega, by omega, hd.out.symm, (by repeat (first | exact hb | exact hb1 | (refine below_step ?_ hb1) | apply below_alloc | apply pw_below_drewN | apply below_drew | apply Below.setCell))⟩
            case measure => simp [intOf]; omega
        · rw [if_pos ⟨hcp, hli⟩] at hd
          have hd1 := hd.out
          simp only [Prod.mk.injEq] at hd1
          obtain ⟨rfl, rfl⟩ := hd1
          clear hd
          have hk : (1 ≤ f1 ∧ 0 < f2.length) ∨ f1 < 0 ∨ (f1 = 0 ∧ f0 ≠ 0) ∨ (f1 = 0 ∧ f0 = 0 ∧ f2 = []) := by
            by_cases h0 : f2 = []
            · subst h0
              have h1 : ¬ 1 ≤ f1 := fun h => hcp ⟨h, rfl⟩
              by_cases a : f1 < 0
              · exact .inr (.inl a)
              · by_cases b : f0 = 0
                · exact .inr (.inr (.inr ⟨by omega, b, rfl⟩))
                · exact .inr (.inr (.inl ⟨by omega, b⟩))
            · have : 0 < f2.length := List.length_pos_iff.2 h0
              by_cases a : f0 = 0
              · have : f1 ≠ 0 := fun b => hli ⟨b, a, h0⟩
                omega
              · omega
          clear hcp hli
          rcases hk with ⟨b, b2⟩ | b | ⟨b, b2⟩ | ⟨b, b2, rfl⟩
          · go_wp2_with (go_at_call 47; go_must (refine (kind_none1 f0 f1 A2 f2.length c2 _ b b2).mono ?_); rintro e w1 ⟨rfl, hb1⟩)
            go_ret2
            exact ⟨rfl, (by repeat (first | exact hb | exact hb1 | (refine below_step ?_ hb1) | apply below_alloc | apply pw_below_drewN | apply below_drew | apply Below.setCell))⟩
          · go_wp2_with (go_at_call 47; go_must (refine (kind_none2 f0 f1 A2 f2.length c2 _ b).mono ?_); rintro e w1 ⟨rfl, hb1⟩)
            go_ret2
            exact ⟨rfl, (by repeat (first | exact hb | exact hb1 | (refine below_step ?_ hb1) | apply below_alloc | apply pw_below_drewN | apply below_drew | apply Below.setCell))⟩
          · have B1 := Lib.hid b
            have B2 := Lib.hid b2
            clear b b2
            go_wp2_with (go_at_call 47; go_must (refine (kind_none3 f0 f1 A2 f2.length c2 _ B1.out B2.out).mono ?_); rintro e w1 ⟨rfl, hb1⟩)
            go_ret2
            exact ⟨rfl, (by repeat (first | exact hb | exact hb1 | (refine below_step ?_ hb1) | apply below_alloc | apply pw_below_drewN | apply below_drew | apply Below.setCell))⟩
          · have B1 := Lib.hid b
            have B2 := Lib.hid b2
            clear b b2
            simp only [List.length_nil] at *
            go_wp2_with (go_at_call 47; go_must (refine (kind_none4 f0 f1 A2 c2 _ B1.out B2.out).mono ?_); rintro e w1 ⟨rfl, hb1⟩)
            go_ret2
            exact ⟨rfl, (by repeat (first | exact hb | exact hb1 | (refine below_step ?_ hb1) | apply below_alloc | apply pw_below_drewN | apply below_drew | apply Below.setCell))⟩
    · have hd : (r1, r2) = (n, 0) := by rw [← hs.out, List.drop_of_length_le (by omega)]; rfl
      simp only [Prod.mk.injEq] at hd
      obtain ⟨rfl, rfl⟩ := hd
      go_wp2
      go_ret2
      exact ⟨rfl, hb⟩
end Go.Proofs.Ytjckjcekapkkjaa.P
