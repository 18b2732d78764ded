/- The contract of codec.PutUint: it hands back its bytes and the groups of seven bits of the number, in new memory. -/
-- HAND stockyard/codec.PutUint
import Derived.Test.YtjckjcekapkkjaaPx0
import Derived.Laws.CopyOwn
import Derived.Laws.BitsAllLaws
import Derived.Lib.Hide
import Derived.Deep.DeepMust
namespace Go.Proofs.Ytjckjcekapkkjaa.P
open Go.RowKit Go.Proofs.YtjckjcekapkkjaaW.PrintWords Go.Proofs.YtjckjcekapkkjaaW.PrintLast Go.Proofs.YtjckjcekapkkjaaW.PrintMore
set_option linter.unusedVariables false
set_option linter.unusedSimpArgs false

/-- The groups of seven bits of a number, the least one first. -/
def encU (v : Nat) : List Int := if v < 128 then [(v : Int)] else ((v % 128 + 128 : Nat) : Int) :: encU (v / 128)
termination_by v
decreasing_by omega

def codec_PutUint.f (l0 : List Int) (a1 : Int) : Option (List Int) :=
  if l0.length < 140737488355000 ∧ 0 ≤ a1 ∧ a1.toNat < 2 ^ 64 then some (l0 ++ encU a1.toNat) else none

theorem encU_small {v : Nat} (h : v < 128) : encU v = [(v : Int)] := by rw [encU, if_pos h]
theorem encU_big {v : Nat} (h : ¬ v < 128) : encU v = ((v % 128 + 128 : Nat) : Int) :: encU (v / 128) := by rw [encU, if_neg h]
theorem encU_len (k : Nat) : ∀ v : Nat, v < 128 ^ (k + 1) → (encU v).length ≤ k + 1 := by
  induction k with
  | zero => intro v h; rw [encU_small (by simpa using h)]; simp
  | succ k ih =>
    intro v h
    by_cases hv : v < 128
    · rw [encU_small hv]; simp
    · rw [encU_big hv, List.length_cons]
      have := ih (v / 128) (by rw [Nat.div_lt_iff_lt_mul (by decide)]; rw [Nat.pow_succ] at h; omega)
      omega
theorem encU_len10 {v : Nat} (h : v < 2 ^ 64) : (encU v).length ≤ 10 := encU_len 9 v (Nat.lt_of_lt_of_le h (by decide))
theorem encU_pos (v : Nat) : 1 ≤ (encU v).length := by
  rw [encU]; split <;> simp

theorem pu_byte (m : Nat) : bits .or .u8 (IntKind.u8.wrap (m : Int)) 128 = ((m % 128 + 128 : Nat) : Int) := by
  rw [IntKind.wrap_u8]
  have e : ((m : Int) % 256) = ((m % 256 : Nat) : Int) := by omega
  rw [e]
  have h : ∀ x : Fin 256, bits .or .u8 ((x.val : Nat) : Int) 128 = ((x.val % 128 + 128 : Nat) : Int) := by
    intro x
    rw [show (128 : Int) = ((128 : Nat) : Int) from rfl, u8_or_nat _ _ x.isLt (by decide)]
    congr 1
    revert x; decide +kernel
  rw [h ⟨m % 256, by omega⟩]
  simp only []
  congr 1
  omega

/-- What has been written, and what is left. -/
def PuSt (l0 : List Int) (v0 : Nat) (xs : List Int) (m : Nat) : Prop := l0 ++ encU v0 = xs ++ encU m ∧ m ≤ v0 ∧ xs.length ≤ l0.length + 10
theorem PuSt.step {l0 : List Int} {v0 m : Nat} {xs : List Int} (h : PuSt l0 v0 xs m) (hv : v0 < 2 ^ 64) (hm : ¬ m < 128) : PuSt l0 v0 (xs ++ [bits .or .u8 ((m : Int) % 256) 128]) (m / 128) := by
  obtain ⟨h1, h2, h3⟩ := h
  rw [encU_big hm] at h1
  refine ⟨by rw [h1, ← IntKind.wrap_u8, pu_byte]; simp, by omega, ?_⟩
  have := congrArg List.length h1
  have e10 := encU_len10 hv
  simp at this ⊢
  omega
theorem PuSt.done {l0 : List Int} {v0 m : Nat} {xs : List Int} (h : PuSt l0 v0 xs m) (hm : m < 128) : xs ++ [(m : Int)] = l0 ++ encU v0 := by
  rw [h.1, encU_small hm]

theorem pu_make (n : Nat) (hn : n < 140737488355000) : ∀ W : World, (Instr.makeSlice 26 (.int .i64 (n : Int)) (.int .i64 ((n : Int) + 10))).run Try.prog W = .ok (.slice (some ⟨W.heap.size, 0, none⟩) n (n + 10)) (W.alloc (.cells (List.replicate (n + 10) (Value.int .u8 0)).toArray 5)) := by
  intro W
  obtain ⟨i0, hi, hzz⟩ := Option.map_eq_some_iff.1 info5
  simp only [Prod.mk.injEq] at hzz
  obtain ⟨hz0, hz1, hz2⟩ := hzz
  have hr := run_make (P := Try.prog) W 26 5 i0 (.int .u8 0) Try.underlying26 hi hz0 .i64 .i64 (n : Int) ((n + 10 : Nat) : Int) (by omega) (by omega) (by rw [hz2]; omega) (by omega)
  rw [hz1] at hr
  simp only [Int.toNat_natCast, Nat.mul_one] at hr
  have e : ((n : Int) + 10) = ((n + 10 : Nat) : Int) := by omega
  rw [e, hr]
  congr 2
  have e2 : madeCells (Value.int .u8 0).cells (n + 10) = (List.replicate (n + 10) (Value.int .u8 0)).toArray := by
    apply Array.ext
    · simp [madeCells]
    · intro i h1 h2
      simp [madeCells, Value.cells, Nat.mod_one]
  rw [e2]

theorem pu_src {W : World} {A : Option Addr} {xs : List Int} (h : Kd.C (Kd.int .u8) W A xs.length xs) (hp : 0 < xs.length) : ∃ ad, A = some ad ∧ ∀ j v, (nums .u8 xs)[j]? = some v → W.cell? (ad.add j) = some v := by
  obtain ⟨ad, e, hc⟩ := h.2.2 hp
  refine ⟨ad, e, fun j v hv => ?_⟩
  rw [nums, List.getElem?_map, Option.map_eq_some_iff] at hv
  obtain ⟨p, hp, rfl⟩ := hv
  obtain ⟨c, hl, hr, hcell⟩ := hc j p hp
  have e1 : c = [Value.int .u8 p] := hr
  have := hcell 0 (.int .u8 p) (by rw [e1]; rfl)
  rw [show (Kd.int .u8).sz = 1 from rfl] at this
  simpa using this
theorem pu_own {w2 : World} {b : Nat} {xs : List Int} (hl : xs.length < 140737488355000) (h : w2.heap[b]? = some (.cells (splice (List.replicate (xs.length + 10) (Value.int .u8 0)) 0 (nums .u8 xs)).toArray 5 (0, 0))) :
    w2.ownsRow b 5 1 (.slice (some ⟨b, 0, none⟩) xs.length (xs.length + 10)) xs.length (nums .u8 xs) := by
  refine ⟨by simp [nums], .inr ⟨b, xs.length + 10, _, rfl, Nat.le_refl _, h, by omega, by unfold maxLen; omega, ?_, ?_⟩⟩
  · simp [splice, nums]
  · simp [splice, nums]
theorem pu_R {W : World} {b : Nat} {v : Value} {xs : List Int} (h : W.ownsRow b 5 1 v xs.length (nums .u8 xs)) : Kd.R (Kd.int .u8) 5 W b (fun _ => True) v xs := by
  exact Kd.R_of_own h (fun _ _ => trivial)
theorem pu_size : (Try.prog.info? 5).map (·.size) = some 1 := by kernel_rfl

set_option maxHeartbeats 1000000 in
theorem codec_PutUint.calls (A0 : Option Addr) (c0 : Nat) (l0 : List Int) (a1 : Int) (r : List Int) (w : World) (hr0 : Kd.C (Kd.int .u8) w A0 l0.length l0) (hc0 : l0.length ≤ c0) (h : codec_PutUint.f l0 a1 = some r) :
    Calls Try.prog 51 #[.slice A0 l0.length c0, .int .u64 a1] w fun e w' => ∃ v0_ : Value, e = .returned (v0_) ∧ Kd.R (Kd.int .u8) 5 w' w.heap.size (fun _ => True) v0_ r ∧ Below w.heap.size w w' := by
  unfold codec_PutUint.f at h
  by_cases hg : l0.length < 140737488355000 ∧ 0 ≤ a1 ∧ a1.toNat < 2 ^ 64
  case neg => rw [if_neg hg] at h; cases h
  rw [if_pos hg] at h
  obtain ⟨hl, h0, h64⟩ := hg
  obtain rfl := Option.some.inj h
  clear h
  obtain ⟨v0, rfl⟩ := Int.eq_ofNat_of_zero_le h0
  clear h0
  rw [Int.toNat_natCast] at h64 ⊢
  have hmk := pu_make l0.length hl
  have hsz1 := pu_size
  have H64 := Lib.hid h64
  have HC := Lib.hid hr0
  clear h64 hr0
  go_enter Try.func51, Try.ntmps51
  go_wp2_with ((with_reducible refine gate_builtin (b := .copy) (xs := #[.tmp 12, .tmp 13]) rfl ?_); go_must (refine wpList_copy_splice rfl (.tmp 12) (.tmp 13) 26 26 rfl 5 Try.underlying26 hsz1 (some ⟨w.heap.size, 0, none⟩) A0 l0.length (l0.length + 10) l0.length c0 rfl rfl w.heap.size 0 (List.replicate (l0.length + 10) (Value.int .u8 0)) 5 (heap_alloc_new _ _) (nums .u8 l0) ?c1 ?c2 ?c3 ?c4 w.heap.size w ?c5 (Nat.le_refl _) ?_))
  case c1 => simp [nums]
  case c2 => exact fun hpos => pu_src (Kd.C_alloc HC.out _) (by simpa [nums] using hpos)
  case c3 => simp [nums]
  case c4 =>
    intro v hv
    obtain ⟨x, _, rfl⟩ := List.mem_map.1 hv
    rfl
  case c5 => exact (Below.refl _ _).alloc (Nat.le_refl _) _
  intro w2 HG HB
  have HO : Hid (w2.ownsRow w.heap.size 5 1 (.slice (some ⟨w.heap.size, 0, none⟩) l0.length (l0.length + 10)) l0.length (nums .u8 l0)) := pu_own hl HG.out
  have HS : Hid (PuSt l0 v0 l0 v0) := ⟨rfl, Nat.le_refl _, by omega⟩
  clear HG hmk hsz1 HC hc0
  go_wp2_with fail
  go_loopw [1, 5] (fun v out wr => ∃ (m : Nat) (xs : List Int), v = .int .u64 (m : Int) ∧ Hid (wr.ownsRow w.heap.size 5 1 out xs.length (nums .u8 xs)) ∧ Hid (PuSt l0 v0 xs m) ∧ Below w.heap.size w wr) (fun v _ _ => (intOf v).toNat)
  case atStart => exact ⟨v0, l0, rfl, HO, HS, HB⟩
  case round =>
    obtain ⟨m, xs, rfl, ho, hs, hb⟩ := hrel
    clear HO HS HB
    have hz := hb.size
    have hxl := hs.out.2.2
    by_cases hm : m < 128
    · have hb1 : decide ((m : Int) ≥ 128) = false := by simp; omega
      go_wp2_with ((with_reducible refine gate_builtin (b := .append) (xs := #[.tmp 25, .tmp 28]) rfl ?_); at_builtin; go_must (refine print_append_num (w0 := w) w.heap.size rfl (.tmp 25) (.tmp 28) 26 5 .u8 1 rfl Try.underlying26 info5 (by decide) _ xs _ rfl rfl ho.out hb hz (by omega) ?_); intro v1 w3 ho1 hb1 hg1 hat1; clear hg1 hat1)
      go_ret
      refine ⟨v1, rfl, ?_, hb1⟩
      rw [← hs.out.done hm]
      exact pu_R ho1
    · have hb1 : decide ((m : Int) ≥ 128) = true := by simp; omega
      go_wp2_with ((with_reducible refine gate_builtin (b := .append) (xs := #[.tmp 19, .tmp 23]) rfl ?_); at_builtin; go_must (refine print_append_num (w0 := w) w.heap.size rfl (.tmp 19) (.tmp 23) 26 5 .u8 1 rfl Try.underlying26 info5 (by decide) _ xs _ rfl rfl ho.out hb hz (by omega) ?_); intro v1 w3 ho1 hb1 hg1 hat1; clear hg1 hat1)
      go_roundw
      case rel => exact ⟨m / 128, _, by go_num, ho1, hs.out.step H64.out hm, hb1⟩
      case measure => simp [intOf]; omega
end Go.Proofs.Ytjckjcekapkkjaa.P
