/- The contract of delta.Normalize. -/
-- HAND stockyard/delta.Normalize
import Derived.Test.YtjckjcekapkkjaaPx0
import Derived.Test.YtjckjcekapkkjaaHCheck
import Derived.Test.YtjckjcekapkkjaaHChkOk
import Derived.Test.YtjckjcekapkkjaaHOps
import Derived.Test.YtjckjcekapkkjaaHWrAdd
import Derived.Test.YtjckjcekapkkjaaHWriter
import Derived.Lib.Hide
import Derived.Outline
import Derived.Deep.DeepMust
namespace Go.Proofs.Ytjckjcekapkkjaa.P
open Go.RowKit Go.Proofs.YtjckjcekapkkjaaW.PrintWords Go.Proofs.YtjckjcekapkkjaaW.PrintLast Go.Proofs.YtjckjcekapkkjaaW.PrintMore
set_option linter.unusedVariables false
set_option linter.unusedSimpArgs false

def delta_Normalize.f (a0 : Int) (l1 : List Dop) : Option (List Dop × Int) := if opsB l1 = true then some (if (checkS a0 l1).2 = 0 then (normS l1, 0) else ([], (checkS a0 l1).2)) else none

set_option maxRecDepth 100000 in
set_option maxHeartbeats 4000000 in
theorem delta_Normalize.calls (a0 : Int) (A1 : Option Addr) (c1 : Nat) (l1 : List S39) (r1 : List S39) (r2 : Int) (w : World) (hr1 : Kd.C k39 w A1 l1.length l1) (hc1 : l1.length ≤ c1) (h : delta_Normalize.f a0 l1 = some (r1, r2)) :
    Calls Try.prog 30 #[.int .i64 a0, .slice A1 l1.length c1] w fun e w' => ∃ v0_ : Value, e = .returned (.tuple #[v0_, .int .i64 r2]) ∧ Kd.S k39 39 w' w.heap.size (fun _ => True) v0_ r1 ∧ Below w.heap.size w w' := by
  unfold delta_Normalize.f at h
  by_cases hB : opsB l1 = true
  case neg => rw [if_neg hB] at h; cases h
  rw [if_pos hB] at h
  have h := Option.some.inj h
  have HB := Lib.hid hB
  have HR := Lib.hid hr1
  clear hr1
  obtain ⟨n, e, hck⟩ : ∃ n e, checkS a0 l1 = (n, e) := ⟨_, _, rfl⟩
  have HK := Lib.hid (show delta_Check.f a0 l1 = some (n, e) by unfold delta_Check.f; rw [if_pos hB, hck])
  rw [hck] at h
  clear hB
  by_cases he : e = 0
  · subst he
    rw [if_pos rfl] at h
    simp only [Prod.mk.injEq] at h
    obtain ⟨rfl, rfl⟩ := h
    obtain ⟨q1, q2, q3, q4, q5, q6, q7, q8⟩ := checkS_ok hck
    have HG := Lib.hid q4
    clear q4 q5 hck
    go_enter Try.func30, Try.ntmps30
    go_wp2_with fail
    refine (delta_Check.calls a0 A1 c1 l1 n 0 w HR.out hc1 HK.out).mono ?_
    rintro e' w1 ⟨rfl, B1⟩
    have z1 := B1.size
    go_wp2_with fail
    go_loopw [22] (fun i wr => ∃ k : Nat, i = .int .i64 (k : Int) ∧ k ≤ l1.length ∧ WrSt wr w.heap.size w1.heap.size (normS (l1.take k)) ∧ Below w.heap.size w wr) (fun i _ => l1.length - (intOf i).toNat)
    case atStart => exact ⟨0, rfl, by omega, wr_start z1, below_alloc B1 _⟩
    case round =>
      obtain ⟨k, rfl, hk, hW, hb⟩ := hrel
      have HW := Lib.hid hW
      clear hW
      by_cases hlt : k < l1.length
      · obtain ⟨ad, A2, c2, rfl, e0, e1, e2, hl2, hC2⟩ := at_T39 (Kd.C_below HR.out hb) (k : Int) (by omega) (by omega)
        have HN := Lib.hid (normS_take hlt)
        have hgo := HG.out l1[k] (List.getElem_mem hlt)
        obtain ⟨n1, n2, n3⟩ := normS_good (base := a0) (l := l1.take k) (fun x hx => HG.out x (List.mem_of_mem_take hx))
        have n4 := totS_take l1 k
        have n5 := tot_mem (List.getElem_mem hlt)
        have n6 : (normS (l1.take k)).length < 1000000 := by rw [List.length_take] at n3; omega
        have HN1 := Lib.hid n1
        rw [rd_ops k hlt, Int.toNat_natCast] at *
        clear n1
        generalize l1[k] = o at *
        generalize normS (l1.take k) = out at *
        have hz := hb.size
        rcases hgo with ⟨⟨h1, h2⟩, h3, h4⟩ | ⟨h1, h2, h3⟩
        · have HO := Lib.hid (show opCp o from ⟨h1, h2⟩)
          rw [h2] at e2
          simp only [List.length_nil] at e2
          clear h2 hC2 hl2
          go_wp2_with (go_at_call 44; go_must (refine (writer_copy_add w.heap.size w1.heap.size o out a0 _ (WrSt.below HW.out ?_) HN1.out ⟨HO.out, h3, h4⟩ q2 n6).mono ?_); (first | exact below_alloc (Below.refl _ _) _ | skip); rintro e' w2 ⟨rfl, hW2, hb2⟩)
          go_roundw
          case rel => exact ⟨k + 1, by go_num, by omega, by rw [HN.out]; exact hW2, (by refine Below.trans ?_ hb2; repeat (first | exact hb | apply below_alloc | apply pw_below_drewN | apply below_drew | apply Below.setCell))⟩
          case measure => simp [intOf]; omega
        · have HO := Lib.hid (show o = ⟨0, 0, o.f2⟩ from by cases o; simp_all)
          have h3' := Lib.hid h3
          have hp : 0 < o.f2.length := List.length_pos_iff.2 h3
          clear h1 h2 h3
          go_wp2_with (go_at_call 43; go_must (refine (writer_write_add w.heap.size w1.heap.size A2 c2 o.f2 out a0 _ ?_ (WrSt.below HW.out ?_) HN1.out q2 n6 h3'.out (by omega) (by omega)).mono ?_); (first | exact Kd.C_alloc hC2 _ | skip); (first | exact below_alloc (Below.refl _ _) _ | skip); rintro e' w2 ⟨rfl, hW2, hb2⟩)
          go_roundw
          case rel => exact ⟨k + 1, by go_num, by omega, by rw [HN.out, HO.out]; exact hW2, (by refine Below.trans ?_ hb2; repeat (first | exact hb | apply below_alloc | apply pw_below_drewN | apply below_drew | apply Below.setCell))⟩
          case measure => simp [intOf]; omega
      · obtain rfl : k = l1.length := by omega
        rw [List.take_of_length_le (Nat.le_refl _)] at HW
        obtain ⟨A9, c9, hc9, hS9⟩ := wr_end HW.out
        have HS9 := Lib.hid hS9
        clear hS9
        go_wp2
        go_ret2
        exact ⟨_, rfl, HS9.out, hb⟩
  · have he' : (e != 0) = true := by simpa using he
    rw [if_neg he] at h
    simp only [Prod.mk.injEq] at h
    obtain ⟨rfl, rfl⟩ := h
    clear he hck
    go_enter Try.func30, Try.ntmps30
    go_wp2_with fail
    refine (delta_Check.calls a0 A1 c1 l1 n e w HR.out hc1 HK.out).mono ?_
    rintro e' w1 ⟨rfl, B1⟩
    go_wp2
    go_ret2
    exact ⟨_, rfl, Kd.S_nil _ _ _ _ _, B1⟩
end Go.Proofs.Ytjckjcekapkkjaa.P
