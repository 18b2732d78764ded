-- WRITTEN BY myprint.py (wip/tools) for this seat
import Derived.Test.YtjckjcekapkkjaaPx0
namespace Go.Proofs.Ytjckjcekapkkjaa.P
open Go.RowKit Go.Proofs.YtjckjcekapkkjaaW.PrintWords Go.Proofs.YtjckjcekapkkjaaW.PrintLast Go.Proofs.YtjckjcekapkkjaaW.PrintMore
attribute [local go_sem] max2_int min2_int max_two min_two max_three min_three max_four min_four   -- for this text's walks alone
set_option linter.unusedVariables false
set_option linter.unusedSimpArgs false

/-! ### delta_common: function 42 -/
def delta_common.l0:Nat → List Int → List Int → Int → Option (Int)
 | 0,_,_,_=>none
 | k + 1,x0,x1,x5=>if x5 < (x0.length:Int) then (if x5 < (x1.length:Int) then (if 0 ≤ x5 then (if (rd x0 x5) = (rd x1 x5) then (delta_common.l0 k x0 x1 (wrap64 (x5 + 1))) else (some x5)) else (none)) else (some x5)) else (some x5)
def delta_common.f (k:Nat) (l0:List Int) (l1:List Int):Option (Int):=delta_common.l0 k l0 l1 0
set_option maxHeartbeats 8000000 in
set_option maxRecDepth 100000 in
theorem delta_common.calls (k:Nat) (A0:Option Addr) (c0:Nat) (l0:List Int) (A1:Option Addr) (c1:Nat) (l1:List Int) (r:Int) (w:World) (hr0:Kd.C (Kd.int .u8) w A0 l0.length l0) (hc0:l0.length ≤ c0) (hr1:Kd.C (Kd.int .u8) w A1 l1.length l1) (hc1:l1.length ≤ c1) (h:delta_common.f k l0 l1 = some r) :
  Calls Try.prog 42 #[.slice A0 l0.length c0,.slice A1 l1.length c1] w fun e w'=>e = .returned (.int .i64 r) ∧ Drawn0 w w':=by
 have HR0:=Aside0.mk hr0
 have HC0:=Aside0.mk hc0
 clear hr0 hc0
 have HR1:=Aside0.mk hr1
 have HC1:=Aside0.mk hc1
 clear hr1 hc1
 have H:(delta_common.l0 k l0 l1 0) = some r:=h
 clear h
 have H':=Aside0.mk H
 clear H
 go_enter Try.func42,Try.ntmps42
 go_wp2
 repeat (go_quiet (fail);try go_wp2)
 go_loopg [5] k (fun kq v5 w'=>∃ (x5_1:Int),v5 = .int .i64 x5_1 ∧ Aside0 (delta_common.l0 kq l0 l1 x5_1 = some r) ∧ Aside0 (kq ≤ k) ∧ Drawn0 w w')
 case atStart=>exact ⟨(0),(by first|rfl|(simp;done)|(simp [*];done)),H',⟨Nat.le_refl _⟩,by repeat (first|exact Drawn0.refl _|apply Drawn0.step)⟩
 case round =>
  clear H'
  try clear c1
  try clear p2
  obtain ⟨x5_1,rfl,HA,HK1,⟨m1,rfl⟩⟩:=hrel
  cases gk with
  | zero=>exact absurd HA.out (by simp [delta_common.l0])
  | succ k1 =>
   have H:=HA.out
   clear HA
   simp only [delta_common.l0] at H
   by_cases c3:x5_1 < (l0.length:Int)
   ·rw [if_pos c3] at H
    have c3b0:decide (x5_1 < (l0.length:Int)) = true:=decide_eq_true c3
    clear c3
    by_cases c4:x5_1 < (l1.length:Int)
    ·rw [if_pos c4] at H
     have c4b0:decide (x5_1 < (l1.length:Int)) = true:=decide_eq_true c4
     clear c4
     by_cases c5:0 ≤ x5_1
     ·rw [if_pos c5] at H
      have c5b0:decide (0 ≤ x5_1) = true:=decide_eq_true c5
      clear c5
      by_cases c6:(rd l0 x5_1) = (rd l1 x5_1)
      ·rw [if_pos c6] at H
       have c6b0:((rd l0 x5_1) == (rd l1 x5_1)) = true:=beq_iff_eq.mpr c6
       have c6b1:((rd l0 x5_1) != (rd l1 x5_1)) = false:=bne_eq_false_iff_eq.mpr c6
       clear c6
       have H':=Aside0.mk H
       clear H
       have p101:0 ≤ (x5_1:Int):=of_decide_eq_true (by first|(with_reducible assumption)|assumption)
       have q101:x5_1 < (l0.length:Int):=of_decide_eq_true (by first|(with_reducible assumption)|assumption)
       obtain ⟨ad101,e101,hx101_0⟩:=Kd.at_int HR0.out x5_1 p101 q101
       cases e101
       replace p101:=eq_true p101
       replace q101:=eq_true q101
       have p102:0 ≤ (x5_1:Int):=of_decide_eq_true (by first|(with_reducible assumption)|assumption)
       have q102:x5_1 < (l1.length:Int):=of_decide_eq_true (by first|(with_reducible assumption)|assumption)
       obtain ⟨ad102,e102,hx102_0⟩:=Kd.at_int HR1.out x5_1 p102 q102
       cases e102
       replace p102:=eq_true p102
       replace q102:=eq_true q102
       go_wp2
       repeat (go_quiet (fail);try go_wp2)
       go_roundg k1
       case measure=>have:=HK1.out;omega
       case rel=>exact ⟨(wrap64 (x5_1 + 1)),(by first|rfl|(simp;done)|(simp [*];done)),H',⟨by have:=HK1.out;omega⟩,by repeat (first|exact Drawn0.refl _|apply Drawn0.step)⟩
      ·rw [if_neg c6] at H
       have c6b0:((rd l0 x5_1) == (rd l1 x5_1)) = false:=beq_eq_false_iff_ne.mpr c6
       have c6b1:((rd l0 x5_1) != (rd l1 x5_1)) = true:=bne_iff_ne.mpr c6
       obtain rfl:=Option.some.inj H
       have p101:0 ≤ (x5_1:Int):=of_decide_eq_true (by first|(with_reducible assumption)|assumption)
       have q101:x5_1 < (l0.length:Int):=of_decide_eq_true (by first|(with_reducible assumption)|assumption)
       obtain ⟨ad101,e101,hx101_0⟩:=Kd.at_int HR0.out x5_1 p101 q101
       cases e101
       replace p101:=eq_true p101
       replace q101:=eq_true q101
       have p102:0 ≤ (x5_1:Int):=of_decide_eq_true (by first|(with_reducible assumption)|assumption)
       have q102:x5_1 < (l1.length:Int):=of_decide_eq_true (by first|(with_reducible assumption)|assumption)
       obtain ⟨ad102,e102,hx102_0⟩:=Kd.at_int HR1.out x5_1 p102 q102
       cases e102
       replace p102:=eq_true p102
       replace q102:=eq_true q102
       go_wp2
       repeat (go_quiet (fail);try go_wp2)
       go_ret
       exact ⟨by first|rfl|(simp;done)|(simp [*];done),by repeat (first|exact Drawn0.refl _|apply Drawn0.step)⟩
     ·rw [if_neg c5] at H
      exact absurd H (by simp)
    ·rw [if_neg c4] at H
     have c4b0:decide (x5_1 < (l1.length:Int)) = false:=decide_eq_false c4
     clear c4
     obtain rfl:=Option.some.inj H
     go_wp2
     repeat (go_quiet (fail);try go_wp2)
     go_ret
     exact ⟨by first|rfl|(simp;done)|(simp [*];done),by repeat (first|exact Drawn0.refl _|apply Drawn0.step)⟩
   ·rw [if_neg c3] at H
    have c3b0:decide (x5_1 < (l0.length:Int)) = false:=decide_eq_false c3
    clear c3
    obtain rfl:=Option.some.inj H
    go_wp2
    repeat (go_quiet (fail);try go_wp2)
    go_ret
    exact ⟨by first|rfl|(simp;done)|(simp [*];done),by repeat (first|exact Drawn0.refl _|apply Drawn0.step)⟩

-- NOT PRINTED: function 43 (delta_writer_write)

-- NOT PRINTED: function 44 (delta_writer_copy)

-- NOT PRINTED: function 47 (delta_kind)

end Go.Proofs.Ytjckjcekapkkjaa.P
