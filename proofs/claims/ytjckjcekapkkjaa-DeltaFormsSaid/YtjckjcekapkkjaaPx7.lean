-- WRITTEN BY myprint.py (wip/tools) for this seat
import Derived.Test.YtjckjcekapkkjaaPx0
import Derived.Test.YtjckjcekapkkjaaPx6
namespace Go.Proofs.Ytjckjcekapkkjaa.P
open Go.RowKit Go.Proofs.YtjckjcekapkkjaaW.PrintWords Go.Proofs.YtjckjcekapkkjaaW.PrintLast Go.Proofs.YtjckjcekapkkjaaW.PrintMore
attribute [local go_sem] max2_int min2_int max_two min_two max_three min_three max_four min_four   -- for this text's walks alone
set_option linter.unusedVariables false
set_option linter.unusedSimpArgs false

/-! ### ref26_Encode: function 37 -/
def ref26_Encode.f (k:Nat) (a0:Int) (l1:List (S39)):Option (List Int × Int):=(ref26_Check.f k a0 l1).bind fun bt242=>(if bt242.2 = 0 then ((ref26_bytes.f k l1).bind fun t244=>(some (t244,0))) else (some (([]:List Int),bt242.2)))
set_option maxHeartbeats 8000000 in
set_option maxRecDepth 100000 in
theorem ref26_Encode.calls (k:Nat) (a0:Int) (A1:Option Addr) (c1:Nat) (l1:List (S39)) (r1:List Int) (r2:Int) (w:World) (hr1:Kd.C k39 w A1 l1.length l1) (hc1:l1.length ≤ c1) (h:ref26_Encode.f k a0 l1 = some (r1,r2)) :
  Calls Try.prog 37 #[.int .i64 a0,.slice A1 l1.length c1] w fun e w'=>∃ v0_:Value,e = .returned (.tuple #[v0_,.int .i64 r2]) ∧ Kd.R (Kd.int .u8) 5 w' w.heap.size (fun _=>True) v0_ r1 ∧ Below w.heap.size w w':=by
 have HR1:=Aside0.mk hr1
 have HC1:=Aside0.mk hc1
 clear hr1 hc1
 have HB:=Aside0.mk (Below.refl w.heap.size w)
 have H:((ref26_Check.f k a0 l1).bind fun bt242=>(if bt242.2 = 0 then ((ref26_bytes.f k l1).bind fun t244=>(some (t244,0))) else (some (([]:List Int),bt242.2)))) = some (r1,r2):=h
 clear h
 replace H:=Option.bind_eq_some_iff.mp H
 obtain ⟨⟨t242,t243⟩,A30,H⟩:=H
 replace H:(if t243 = 0 then ((ref26_bytes.f k l1).bind fun t244=>(some (t244,0))) else (some (([]:List Int),t243))) = some (r1,r2):=H
 have A3:=Aside0.mk A30
 clear A30
 by_cases c4:t243 = 0
 ·rw [if_pos c4] at H
  have c4b0:(t243 == 0) = true:=beq_iff_eq.mpr c4
  have c4b1:(t243 != 0) = false:=bne_eq_false_iff_eq.mpr c4
  clear c4
  replace H:=Option.bind_eq_some_iff.mp H
  obtain ⟨t244,A50,H⟩:=H
  replace H:(some (t244,0)) = some (r1,r2):=H
  have A5:=Aside0.mk A50
  clear A50
  simp only [Option.some.injEq,Prod.mk.injEq] at H
  obtain ⟨rfl,rfl⟩:=H
  go_enter Try.func37,Try.ntmps37
  go_wp2_with (first|((with_reducible refine gate_callee (f:=24) rfl ?_);refine goesL_ (some 11) rfl rfl Try.func24 (by kernel_rfl) rfl #[.int .i64 a0,.slice A1 l1.length c1] rfl (by (try simp only [List.map_toArray,List.map_cons,List.map_nil]);first|done|rfl|(simp only [List.length_drop,List.length_take];rfl)) ?_;(with_reducible refine (ref26_Check.calls k a0 _ _ l1 t242 t243 _ ?side1 ?side2 A3.out).mono ?_);(case side1=>repeat (first|exact HR1.out|(with_reducible refine Kd.C_alloc ?_ _)|(with_reducible refine Kd.C_drewN ?_ _)|(with_reducible refine Kd.C_drew ?_)));(case side2=>exact HC1.out);rintro e w6 ⟨rfl,hb⟩;refine ⟨_,rfl,?_⟩;have n0_:=Aside0.mk (below_step (by repeat (first|(with_reducible first|exact HB.out|apply below_alloc|apply pw_below_drewN|apply below_drew1)|exact HB.out)) hb);clear HB;have HB:=n0_;clear n0_;(try clear hb);(try clear hb2);(try clear hk);(try clear hi))|((with_reducible refine gate_callee (f:=52) rfl ?_);refine goesL_ (some 18) rfl rfl Try.func52 (by kernel_rfl) rfl #[.slice A1 l1.length c1] rfl (by (try simp only [List.map_toArray,List.map_cons,List.map_nil]);first|done|rfl|(simp only [List.length_drop,List.length_take];rfl)) ?_;(with_reducible refine (ref26_bytes.calls k _ _ l1 t244 _ ?side1 ?side2 A5.out).mono ?_);(case side1=>repeat (first|exact (Kd.C_below HR1.out HB.out)|(with_reducible refine Kd.C_alloc ?_ _)|(with_reducible refine Kd.C_drewN ?_ _)|(with_reducible refine Kd.C_drew ?_)));(case side2=>exact HC1.out);rintro e w7 ⟨v245,rfl,ho0,hb⟩;refine ⟨_,rfl,?_⟩;have n0_:=Aside0.mk (Kd.R_lower ho0 (below_size (by repeat (first|(with_reducible first|exact HB.out|apply below_alloc|apply pw_below_drewN|apply below_drew1)|exact HB.out))));have n1_:=Aside0.mk (below_step (by repeat (first|(with_reducible first|exact HB.out|apply below_alloc|apply pw_below_drewN|apply below_drew1)|exact HB.out)) hb);clear HB;have HO246:=n0_;have HB:=n1_;clear n0_ n1_;(try clear hb);(try clear hb2);(try clear hk);(try clear hi);(try clear ho0)))
  go_ret2
  exact ⟨_,by first|rfl|(simp [errW_none,errW_some] <;> rfl)|(simp [*,errW_none,errW_some] <;> rfl),by (with_reducible repeat (first|apply Kd.R_alloc|apply Kd.R_drewN|apply Kd.R_drew));exact HO246.out,by repeat (first|(with_reducible first|exact HB.out|apply below_alloc|apply pw_below_drewN|apply below_drew1)|exact HB.out)⟩
 ·rw [if_neg c4] at H
  have c4b0:(t243 == 0) = false:=beq_eq_false_iff_ne.mpr c4
  have c4b1:(t243 != 0) = true:=bne_iff_ne.mpr c4
  simp only [Option.some.injEq,Prod.mk.injEq] at H
  obtain ⟨rfl,rfl⟩:=H
  go_enter Try.func37,Try.ntmps37
  go_wp2_with (first|((with_reducible refine gate_callee (f:=24) rfl ?_);refine goesL_ (some 11) rfl rfl Try.func24 (by kernel_rfl) rfl #[.int .i64 a0,.slice A1 l1.length c1] rfl (by (try simp only [List.map_toArray,List.map_cons,List.map_nil]);first|done|rfl|(simp only [List.length_drop,List.length_take];rfl)) ?_;(with_reducible refine (ref26_Check.calls k a0 _ _ l1 t242 t243 _ ?side1 ?side2 A3.out).mono ?_);(case side1=>repeat (first|exact HR1.out|(with_reducible refine Kd.C_alloc ?_ _)|(with_reducible refine Kd.C_drewN ?_ _)|(with_reducible refine Kd.C_drew ?_)));(case side2=>exact HC1.out);rintro e w8 ⟨rfl,hb⟩;refine ⟨_,rfl,?_⟩;have n0_:=Aside0.mk (below_step (by repeat (first|(with_reducible first|exact HB.out|apply below_alloc|apply pw_below_drewN|apply below_drew1)|exact HB.out)) hb);clear HB;have HB:=n0_;clear n0_;(try clear hb);(try clear hb2);(try clear hk);(try clear hi)))
  go_ret2
  exact ⟨_,by first|rfl|(simp [errW_none,errW_some] <;> rfl)|(simp [*,errW_none,errW_some] <;> rfl),by first|exact Kd.R_nil _ _ _ _ _|exact Kd.N_nil _ _ _ _ _|exact Kd.V_nil _ _ _ _ _|exact Kd.Q_nil _ _ _ _ _|exact Kd.S_nil _ _ _ _ _,by repeat (first|(with_reducible first|exact HB.out|apply below_alloc|apply pw_below_drewN|apply below_drew1)|exact HB.out)⟩

/-! ### codec_inside: function 62 -/
def codec_inside.f (l0:List Int) (a1:Int):Option (Bool):=if a1 ≥ 0 then (some (decide (a1 ≤ (l0.length:Int)))) else (some false)
set_option maxHeartbeats 8000000 in
set_option maxRecDepth 100000 in
theorem codec_inside.calls (A0:Option Addr) (c0:Nat) (l0:List Int) (a1:Int) (r:Bool) (w:World) (hr0:Kd.C (Kd.int .u8) w A0 l0.length l0) (hc0:l0.length ≤ c0) (h:codec_inside.f l0 a1 = some r) :
  Calls Try.prog 62 #[.slice A0 l0.length c0,.int .i64 a1] w fun e w'=>e = .returned (.bool r) ∧ Drawn0 w w':=by
 have HR0:=Aside0.mk hr0
 have HC0:=Aside0.mk hc0
 clear hr0 hc0
 have H:(if a1 ≥ 0 then (some (decide (a1 ≤ (l0.length:Int)))) else (some false)) = some r:=h
 clear h
 by_cases c3:a1 ≥ 0
 ·rw [if_pos c3] at H
  have c3b0:decide (0 ≤ a1) = true:=decide_eq_true c3
  clear c3
  obtain rfl:=Option.some.inj H
  go_enter Try.func62,Try.ntmps62
  go_wp2
  go_ret
  exact ⟨by first|rfl|(simp;done)|(simp [*];done),by repeat (first|exact Drawn0.refl _|apply Drawn0.step)⟩
 ·rw [if_neg c3] at H
  have c3b0:decide (0 ≤ a1) = false:=decide_eq_false c3
  clear c3
  obtain rfl:=Option.some.inj H
  go_enter Try.func62,Try.ntmps62
  go_wp2
  go_ret
  exact ⟨by first|rfl|(simp;done)|(simp [*];done),by repeat (first|exact Drawn0.refl _|apply Drawn0.step)⟩

end Go.Proofs.Ytjckjcekapkkjaa.P
