/- The contract of delta.Make. -/
-- HAND stockyard/delta.Make
import Derived.Test.YtjckjcekapkkjaaPx0
import Derived.Test.YtjckjcekapkkjaaHMakeCom
import Derived.Test.YtjckjcekapkkjaaHMakeEv
import Derived.Test.YtjckjcekapkkjaaHMakeLaw
import Derived.Test.YtjckjcekapkkjaaHMapSt
import Derived.Test.YtjckjcekapkkjaaHOps
import Derived.Test.YtjckjcekapkkjaaHWrAdd
import Derived.Test.YtjckjcekapkkjaaHWriter
import Derived.Lib.Hide
import Derived.Outline
import Derived.Deep.DeepMust
import Derived.Deep.MidRow
namespace Go.Proofs.Ytjckjcekapkkjaa.P
open Go.RowKit Go.Proofs.YtjckjcekapkkjaaW.PrintWords Go.Proofs.YtjckjcekapkkjaaW.PrintLast Go.Proofs.YtjckjcekapkkjaaW.PrintMore
set_option linter.unusedVariables false
set_option linter.unusedSimpArgs false

def byB (l : List Int) : Bool := l.all fun x => decide (0 ≤ x) && decide (x < 256)
def delta_Make.f (l0 l1 : List Int) : Option (List Dop × Int) := if byB l0 = true ∧ byB l1 = true then (if l0.length ≤ 2048 ∧ l1.length ≤ 2048 then some (makeS l0 l1, 0) else some ([], 262)) else none

set_option maxRecDepth 100000 in
set_option maxHeartbeats 4000000 in
theorem delta_Make.calls (A0 : Option Addr) (c0 : Nat) (l0 : List Int) (A1 : Option Addr) (c1 : Nat) (l1 : List Int) (r1 : List S39) (r2 : Int) (w : World) (hr0 : Kd.C (Kd.int .u8) w A0 l0.length l0) (hc0 : l0.length ≤ c0) (hr1 : Kd.C (Kd.int .u8) w A1 l1.length l1) (hc1 : l1.length ≤ c1) (h : delta_Make.f l0 l1 = some (r1, r2)) :
    Calls Try.prog 17 #[.slice A0 l0.length c0, .slice A1 l1.length c1] w fun e w' => ∃ v0_ : Value, e = .returned (.tuple #[v0_, .int .i64 r2]) ∧ Kd.S k39 39 w' w.heap.size (fun _ => True) v0_ r1 ∧ Below w.heap.size w w' := by
  unfold delta_Make.f at h
  by_cases hB : byB l0 = true ∧ byB l1 = true
  case neg => rw [if_neg hB] at h; cases h
  rw [if_pos hB] at h
  have HB := Lib.hid hB
  have HR0 := Lib.hid hr0
  have HR1 := Lib.hid hr1
  have HC0 := Lib.hid hc0
  have HC1 := Lib.hid hc1
  clear hr0 hr1 hB hc0 hc1
  by_cases h0 : l0.length ≤ 2048
  case neg =>
    rw [if_neg (fun h => h0 h.1)] at h
    have h := Option.some.inj h
    simp only [Prod.mk.injEq] at h
    obtain ⟨rfl, rfl⟩ := h
    have q1 : decide ((l0.length : Int) > 2048) = true := by simp; omega
    clear h0
    go_enter Try.func17, Try.ntmps17
    go_wp2
    go_ret2
    exact ⟨_, rfl, Kd.S_nil _ _ _ _ _, Below.refl _ _⟩
  by_cases h1 : l1.length ≤ 2048
  case neg =>
    rw [if_neg (fun h => h1 h.2)] at h
    have h := Option.some.inj h
    simp only [Prod.mk.injEq] at h
    obtain ⟨rfl, rfl⟩ := h
    have q0 : decide ((l0.length : Int) > 2048) = false := by simp; omega
    have q1 : decide ((l1.length : Int) > 2048) = true := by simp; omega
    clear h0 h1
    go_enter Try.func17, Try.ntmps17
    go_wp2
    go_ret2
    exact ⟨_, rfl, Kd.S_nil _ _ _ _ _, Below.refl _ _⟩
  rw [if_pos ⟨h0, h1⟩] at h
  have h := Option.some.inj h
  simp only [Prod.mk.injEq] at h
  obtain ⟨rfl, rfl⟩ := h
  have q0 : decide ((l0.length : Int) > 2048) = false := by simp; omega
  have q1 : decide ((l1.length : Int) > 2048) = false := by simp; omega
  go_enter Try.func17, Try.ntmps17
  go_wp2_with (refine ev_makeMap (by rfl) (by rfl) ?_; rintro b w1 rfl rfl)
  go_loopw [7] (fun i wr => ∃ k : Nat, i = .int .i64 (k : Int) ∧ k ≤ l0.length ∧ MapSt wr w.heap.size w.heap.size l0 k ∧ Below w.heap.size w wr) (fun i _ => l0.length - (intOf i).toNat)
  case atStart => exact ⟨0, rfl, by omega, map_start (Nat.le_refl _) (Go.MapKept.heap_alloc w _).1, below_alloc (Below.refl _ _) _⟩
  case round =>
    obtain ⟨k, rfl, hk, hM, hb⟩ := hrel
    have HM := Lib.hid hM
    clear hM
    by_cases hlt : k + 4 ≤ l0.length
    · have c1 : decide ((k : Int) + 4 ≤ (l0.length : Int)) = true := by simp; omega
      have ne0 : ¬ (c0 = k) := by have := HC0.out; omega
      have ne1 : ¬ (k = c0) := by have := HC0.out; omega
      have p0 : 0 ≤ (k : Int) := by omega
      have p1 : (k : Int) ≤ (l0.length : Int) := by omega
      obtain ⟨ad, e0, g0⟩ := Kd.at_int (Kd.C_below HR0.out hb) (k : Int) (by omega) (by omega)
      subst e0
      have HCC := Lib.hid (Kd.C_below HR0.out hb)
      have hcc := key_cells (Kd.C_below HR0.out hb) rfl hlt
      have hk4 := key4_at HB.out.1 hlt
      obtain ⟨key, hkey⟩ : ∃ key, (l0.drop k).take 4 = key := ⟨_, rfl⟩
      rw [hkey] at hcc hk4
      have HKEY := Lib.hid hkey
      clear hkey
      have hz1 := hb.size
      have hpl := places_len l0 k key
      go_wp2_with (first | (refine ev_arrayAt (by rfl) (by rfl) _ _ _ (by rfl) (by omega) ?_) | (refine ev_load4 (by rfl) (by rfl) _ key (by rfl) hk4.1 (by first | exact hcc | exact cell_new4 _ _ _) ?_) | (refine ev_store4 (by rfl) (by rfl) (by rfl) key _ (by rfl) (by rfl) hk4.1 (by rfl) ?_) | (refine ev_entry_map (base := w.heap.size) (b := w.heap.size) (k := k) (l := l0) (key := key) (HM.out.step (fun i _ hi => (below_alloc (below_alloc (Below.refl wr.heap.size wr) _) _).block i hi)) hk4 HKEY.out (by rfl) (by rfl) (by rfl) (by rfl) ?_; intro A9 c9 st W3 hW3 hs3 hb3 hR3 hE3; have HR3 := Lib.hid hR3; have HE3 := Lib.hid hE3; have HB3 := Lib.hid hb3; have HW3 := Lib.hid hW3; have HS3 := Lib.hid (show W3.heap.size = wr.heap.size + 2 from (by first | omega | (rw [hs3]; simp; done) | (simp at hs3; omega))); clear hR3 hE3 hb3 hW3 hs3) | ((with_reducible refine gate_builtin (b := .append) (xs := #[.tmp 39, .tmp 41]) rfl ?_); at_builtin; go_must (refine Kd.R_append_rows (Kd.int .i64) (w0 := W3) w.heap.size rfl (.tmp 39) (.tmp 41) 22 3 (.int .i64 0) 8 rfl Try.underlying22 info_int rfl (by decide) (by omega) (.slice A9 (places l0 k key).length c9) (places l0 k key) [(k : Int)] _ _ _ (fun j => j ≠ w.heap.size) (fun _ => False) rfl rfl ?aO ?aR (fun _ _ h => h) (fun _ h => h.elim) ?aF ?aB ?aS ?aL ?_; (case aO => exact HR3.out); (case aR => exact C_box ((HW3.out _ (by omega)).trans (heap_second _ _ _))); (case aF => intro j hj; have := HS3.out; omega); (case aB => exact Below.refl _ _); (case aS => have := HS3.out; omega); (case aL => omega); intro v1 w4 hR4 hB4 hg4 hat4; obtain ⟨w5, hrun5, hM5, hB5⟩ := HE3.out w4 v1 hg4 (Kd.R_mono hR4 (fun _ _ => trivial)) hat4; have HM5 := Lib.hid hM5; have HB5 := Lib.hid (hB4.trans hB5); clear hR4 hB4 hg4 hat4 hM5 hB5)) | (refine ev_entryStore (by rfl) (by rfl) (by rfl) _ _ _ w5 (by rfl) (by rfl) (by rfl) hrun5 ?_))
      go_roundw
      case rel => exact ⟨k + 1, by go_num, by omega, HM5.out, Below.trans (below_alloc (below_alloc hb _) _) (HB3.out.trans HB5.out)⟩
      case measure => simp [intOf]; omega
    · have d1 : decide ((k : Int) + 4 ≤ (l0.length : Int)) = false := by simp; omega
      rename World => W0
      go_wp2_with fail
      have hz := hb.size
      go_loopw [10] (fun i w2 => ∃ (j r : Nat) (out : List Dop), i = .int .i64 (j : Int) ∧ j ≤ l1.length ∧ WrSt w2 W0.heap.size W0.heap.size out ∧ (∀ x ∈ out, goodOp (l0.length : Int) x) ∧ totS out ≤ j ∧ out.length ≤ j ∧ (l1.drop j).length ≤ r ∧ makeGo l0 r out (l1.drop j) = makeS l0 l1 ∧ Below W0.heap.size W0 w2) (fun i _ => l1.length - (intOf i).toNat)
      case atStart => exact ⟨0, l1.length, [], rfl, by omega, wr_start (Nat.le_refl _), fun x hx => by simp at hx, by simp [totS], by simp, by simp, rfl, below_alloc (Below.refl _ _) _⟩
      case round =>
        obtain ⟨j, r, out, rfl, hj, hW, hG, hT, hL, hr, hmk, hb2⟩ := hrel
        have HW := Lib.hid hW
        have HG := Lib.hid hG
        have HMK := Lib.hid hmk
        clear hW hG hmk
        by_cases hjl : j < l1.length
        · have c2 : decide ((j : Int) < (l1.length : Int)) = true := by simp; omega
          have HCC := Lib.hid (Kd.C_below (Kd.C_below HR1.out hb) hb2)
          obtain ⟨ad1, e1, g1⟩ := Kd.at_int HCC.out (j : Int) (by omega) (by omega)
          subst e1
          have hz2 := hb2.size
          have ne0 : ¬ (c1 = j) := by have := HC1.out; omega
          have ne1 : ¬ (j = c1) := by have := HC1.out; omega
          have nc1 : l1.length ≤ c1 := HC1.out
          obtain ⟨r, rfl⟩ : ∃ r', r = r' + 1 := ⟨r - 1, by rw [List.length_drop] at hr; omega⟩
          by_cases h4 : j + 4 ≤ l1.length
          · have c3 : decide ((j : Int) + 4 ≤ (l1.length : Int)) = true := by simp; omega
            have HMr := Lib.hid (HM.out.step (fun i _ hi => hb2.block i hi))
            have hk4 := key4_at HB.out.2 h4
            have hcc := key_cells HCC.out rfl h4
            obtain ⟨v0, hrun, hRow⟩ := map_lookup_run HMr.out hk4
            obtain ⟨A9, c9, rfl⟩ := Kd.R_slice hRow
            obtain ⟨_, _, hC9⟩ := Kd.R_reads' hRow
            have HP := Lib.hid (pick_places l0 (l1.drop j) (by rw [List.length_drop]; omega) k hk (by omega))
            obtain ⟨key, hkey⟩ : ∃ key, (l1.drop j).take 4 = key := ⟨_, rfl⟩
            rw [hkey] at hcc hk4 hrun HP hC9
            obtain ⟨row, hrow⟩ : ∃ row, places l0 k key = row := ⟨_, rfl⟩
            have HPA := Lib.hid (show ∀ (m : Nat) (hm : m < row.length), ∃ i : Nat, row[m] = (i : Int) ∧ i + 4 ≤ l0.length by subst hrow; exact fun m hm => places_at hk4.1 hm)
            rw [hrow] at hrun HP hC9
            have HKEY := Lib.hid hkey
            have HROW := Lib.hid hrow
            have HC9 := Lib.hid hC9
            clear hkey hrow hC9 hRow g1
            go_wp2_with (first | (refine ev_arrayAt (by rfl) (by rfl) _ _ _ (by rfl) (by omega) ?_) | (refine ev_load4 (by rfl) (by rfl) _ key (by rfl) hk4.1 (by first | exact hcc | exact cell_new4 _ _ _) ?_) | (refine ev_lookup (by rfl) (by rfl) _ _ _ _ (by rfl) (by rfl) hrun ?_))
            have e9 : row.length ≤ l0.length := by rw [← HROW.out]; exact Nat.le_trans (places_len _ _ _) hk
            clear hcc hrun
            rename World => W2
            go_loopw [62, 11, 12] (fun i f b w3 => ∃ m fn bn : Nat, i = .int .i64 (m : Int) ∧ f = .int .i64 (fn : Int) ∧ b = .int .i64 (bn : Int) ∧ m ≤ row.length ∧ pickS l0 (l1.drop j) (row.drop m) bn fn = pickS l0 (l1.drop j) row 0 0 ∧ fn + bn ≤ l0.length ∧ bn ≤ (l1.drop j).length ∧ Drawn0 W2 w3) (fun i _ _ _ => row.length - (intOf i).toNat)
            case atStart => exact ⟨0, 0, 0, rfl, rfl, rfl, by omega, rfl, by omega, by omega, Drawn0.refl _⟩
            case round =>
              obtain ⟨m, fn, bn, rfl, rfl, rfl, hm, hpk, hfb, hbb, hD⟩ := hrel
              rename World => W3
              have hbD : Below W2.heap.size W2 W3 := by obtain ⟨q, rfl⟩ := hD; exact pw_below_drewN (Below.refl _ _) _
              have HD := Lib.hid hD
              clear hD
              have HPK := Lib.hid hpk
              clear hpk
              by_cases hml : m < row.length
              · obtain ⟨i, hi, hil⟩ := HPA.out m hml
                obtain ⟨ad9, e10, g9⟩ := Kd.at_int (Kd.C_below HC9.out hbD) (m : Int) (by omega) (by omega)
                subst e10
                obtain ⟨ad0, e11, _⟩ := Kd.at_int HR0.out (0 : Int) (by omega) (by omega)
                subst e11
                rw [rd_at hml, hi, Int.toNat_natCast] at g9
                obtain ⟨nn, hnn⟩ : ∃ nn, lcp (l0.drop i) (l1.drop j) = nn := ⟨_, rfl⟩
                have hnl := lcp_le (l0.drop i) (l1.drop j)
                rw [hnn, List.length_drop] at hnl
                have hpc := pick_cons (a := l0) (t := l1.drop j) (b := bn) (f := fn) hml hi
                rw [hnn] at hpc
                have HPC := Lib.hid hpc
                have HI := Lib.hid hi
                have HNN := Lib.hid hnn
                clear hpc hi hnn
                have HC0' := Lib.hid (Kd.C_below (Kd.C_below (Kd.C_below HR0.out hb) hb2) hbD)
                have HC1' := Lib.hid (Kd.C_below HCC.out hbD)
                have x0 : 0 ≤ (i : Int) := by omega
                have x1 : (i : Int) ≤ (l0.length : Int) := by omega
                have x2 : 0 ≤ (j : Int) := by omega
                have x3 : (j : Int) ≤ (l1.length : Int) := by omega
                have ne2 : ¬ (c0 = i) := by have := HC0.out; omega
                have ne3 : ¬ (i = c0) := by have := HC0.out; omega
                have c5 : decide ((m : Int) < (row.length : Int)) = true := by simp; omega
                go_wp2_with fail
                go_quiet ((go_at_call 42; exact Calls.quiet_of ((common_at ad0 ad1 l0 l1 c0 c1 i j nn _ (Kd.C_below HC0'.out (pw_below_drewN (Below.refl _ _) _)) (Kd.C_below HC1'.out (pw_below_drewN (Below.refl _ _) _)) HC0.out HC1.out (by omega) (by omega) h0 HNN.out).mono fun _ _ hh => ⟨hh.1, hh.2.out⟩)))
                have HD4 := Lib.hid (show Drawn0 W2 (W3.drewN nq) from HD.out.step nq)
                by_cases hgt : nn > bn
                · have c6 : decide (bn < nn) = true := by simp; omega
                  have HP2 := Lib.hid (show pickS l0 (l1.drop j) (row.drop (m + 1)) nn i = pickS l0 (l1.drop j) row 0 0 by rw [← HPK.out, HPC.out, if_pos hgt])
                  clear hgt
                  go_wp2
                  go_roundw
                  case rel => exact ⟨m + 1, i, nn, by go_num, rfl, rfl, by omega, HP2.out, by omega, by omega, HD4.out⟩
                  case measure => simp [intOf]; omega
                · have c6 : decide (bn < nn) = false := by simp; omega
                  have HP2 := Lib.hid (show pickS l0 (l1.drop j) (row.drop (m + 1)) bn fn = pickS l0 (l1.drop j) row 0 0 by rw [← HPK.out, HPC.out, if_neg hgt])
                  clear hgt
                  go_wp2
                  go_roundw
                  case rel => exact ⟨m + 1, fn, bn, by go_num, rfl, rfl, by omega, HP2.out, by omega, by omega, HD4.out⟩
                  case measure => simp [intOf]; omega
              · have c5 : decide ((m : Int) < (row.length : Int)) = false := by simp; omega
                have hfin := HPK.out
                rw [List.drop_of_length_le (show row.length ≤ m by omega), pickS] at hfin
                have hbb2 : bn ≤ l1.length - j := by rw [← List.length_drop]; exact hbb
                rcases HP.out with ⟨p1, p2⟩ | ⟨p1, p2⟩
                · rw [← hfin] at p1 p2
                  have p1 : 4 ≤ bn := p1
                  have HK := Lib.hid (make_copy (r := r) (out := out) hjl p2.symm p1)
                  have HGO := Lib.hid (show goodOp (l0.length : Int) ⟨(fn : Int), (bn : Int), []⟩ from .inl ⟨⟨by show (1 : Int) ≤ (bn : Int); omega, rfl⟩, by show (0 : Int) ≤ (fn : Int); omega, by show (fn : Int) + (bn : Int) ≤ _; omega⟩)
                  have c6 : ((bn : Int) == 0) = false := by simp; omega
                  clear hfin p2 HP HPA HPK HROW HC9
                  go_wp2_with (go_at_call 44; go_must (refine (writer_copy_add W0.heap.size W0.heap.size ⟨(fn : Int), (bn : Int), []⟩ out (l0.length : Int) _ (WrSt.below HW.out hbD) HG.out ⟨⟨by show (1 : Int) ≤ (bn : Int); omega, rfl⟩, by show (0 : Int) ≤ (fn : Int); omega, by show (fn : Int) + (bn : Int) ≤ _; omega⟩ (by omega) (by omega)).mono ?_); rintro e' w2 ⟨rfl, hW2, hb3⟩)
                  go_roundw
                  case rel => exact ⟨j + bn, r, _, by go_num, by omega, hW2, addOp_good HG.out HGO.out, (by rw [addOp_tot (fun x hx => good_kind (HG.out x hx)) (good_kind HGO.out)]; simp; omega), (by have := addOp_len out ⟨(fn : Int), (bn : Int), []⟩; omega), (by rw [List.length_drop] at hr ⊢; omega), HK.out.symm.trans HMK.out, Below.trans hb2 (Below.trans (hbD.mono hz2) hb3)⟩
                  case measure => simp [intOf]; omega
                · rw [← hfin] at p1
                  have p1 : bn = 0 := p1
                  subst p1
                  have HL := Lib.hid (make_lit (r := r) (out := out) hjl p2)
                  have HO := Lib.hid (C_one HCC.out hjl HC1.out)
                  clear hfin p2 HP HPA HPK HROW HC9
                  go_wp2_with (go_at_call 43; go_must (refine (writer_write_add W0.heap.size W0.heap.size (some (ad1.add j)) (c1 - j) [l1[j]] out (l0.length : Int) _ (Kd.C_below HO.out hbD) (WrSt.below HW.out hbD) HG.out (by omega) (by omega) (by simp) (by omega) (by simp)).mono ?_); rintro e' w2 ⟨rfl, hW2, hb3⟩)
                  go_roundw
                  case rel => exact ⟨j + 1, r, _, by go_num, by omega, hW2, addOp_good HG.out (.inr ⟨rfl, rfl, by simp⟩), (by rw [addOp_tot (fun x hx => good_kind (HG.out x hx)) (.inr ⟨rfl, rfl, by simp⟩)]; simp; omega), (by have := addOp_len out ⟨0, 0, [l1[j]]⟩; omega), (by rw [List.length_drop] at hr ⊢; omega), HL.out.symm.trans HMK.out, Below.trans hb2 (Below.trans (hbD.mono hz2) hb3)⟩
                  case measure => simp [intOf]; omega
          · have c3 : decide ((j : Int) + 4 ≤ (l1.length : Int)) = false := by simp; omega
            have HL := Lib.hid (make_lit (r := r) (out := out) hjl (pick_none l0 (l1.drop j) (by rw [List.length_drop]; omega)))
            have HO := Lib.hid (C_one HCC.out hjl HC1.out)
            clear g1
            go_wp2_with (go_at_call 43; go_must (refine (writer_write_add W0.heap.size W0.heap.size (some (ad1.add j)) (c1 - j) [l1[j]] out (l0.length : Int) _ HO.out HW.out HG.out (by omega) (by omega) (by simp) (by omega) (by simp)).mono ?_); rintro e' w2 ⟨rfl, hW2, hb3⟩)
            go_roundw
            case rel => exact ⟨j + 1, r, _, by go_num, by omega, hW2, addOp_good HG.out (.inr ⟨rfl, rfl, by simp⟩), (by rw [addOp_tot (fun x hx => good_kind (HG.out x hx)) (.inr ⟨rfl, rfl, by simp⟩)]; simp; omega), (by have := addOp_len out ⟨0, 0, [l1[j]]⟩; omega), (by rw [List.length_drop] at hr ⊢; omega), HL.out.symm.trans HMK.out, Below.trans hb2 hb3⟩
            case measure => simp [intOf]; omega
        · have c2 : decide ((j : Int) < (l1.length : Int)) = false := by simp; omega
          obtain rfl : j = l1.length := by omega
          obtain ⟨A9, c9, hc9, hS9⟩ := wr_end HW.out
          have HS9 := Lib.hid hS9
          clear hS9
          have hmz : makeS l0 l1 = out := by
            rw [← HMK.out, List.drop_of_length_le (Nat.le_refl _)]
            cases r <;> rfl
          have HS9 := Lib.hid (show Kd.S k39 39 wr W0.heap.size (fun _ => True) (.slice A9 out.length c9) (makeS l0 l1) by rw [hmz]; exact HS9.out)
          clear hmz
          go_wp2
          go_ret2
          exact ⟨_, rfl, Kd.S_lower HS9.out hz, below_step hb hb2⟩
end Go.Proofs.Ytjckjcekapkkjaa.P
