-- WRITTEN BY myprint.py (wip/tools) for this seat
import Derived.Test.YtjckjcekapkkjaaPx0
import Derived.Test.YtjckjcekapkkjaaPx5
import Derived.Test.YtjckjcekapkkjaaPx6
namespace Go.Proofs.Ytjckjcekapkkjaa.P
open Go.RowKit Go.Proofs.YtjckjcekapkkjaaW.PrintWords Go.Proofs.YtjckjcekapkkjaaW.PrintLast Go.Proofs.YtjckjcekapkkjaaW.PrintMore
attribute [local go_sem] max2_int min2_int max_two min_two max_three min_three max_four min_four   -- for this text's walks alone
set_option linter.unusedVariables false
set_option linter.unusedSimpArgs false

/-! ### ref26_Normalize: function 31 -/
def ref26_Normalize.l0:Nat → List (S39) → List (S39) → Int → Option ((List (S39)) × Int)
 | 0,_,_,_=>none
 | k + 1,x1,x8,x9=>if x9 < (x1.length:Int) then (if 0 ≤ x9 then ((ref26_Add.f k x8 ((rd_T39 x1 x9).f0) ((rd_T39 x1 x9).f1) ((rd_T39 x1 x9).f2)).bind fun t252=>(ref26_Normalize.l0 k x1 t252 (wrap64 (x9 + 1)))) else (none)) else (some (x8,0))
def ref26_Normalize.f (k:Nat) (a0:Int) (l1:List (S39)):Option ((List (S39)) × Int):=(ref26_Check.f k a0 l1).bind fun bt249=>(if bt249.2 = 0 then (ref26_Normalize.l0 k l1 ([]:List (S39)) 0) else (some (([]:List (S39)),bt249.2)))
set_option maxHeartbeats 8000000 in
set_option maxRecDepth 100000 in
theorem ref26_Normalize.calls (k:Nat) (a0:Int) (A1:Option Addr) (c1:Nat) (l1:List (S39)) (r1:List (S39)) (r2:Int) (w:World) (hr1:Kd.C k39 w A1 l1.length l1) (hc1:l1.length ≤ c1) (h:ref26_Normalize.f k a0 l1 = some (r1,r2)) :
  Calls Try.prog 31 #[.int .i64 a0,.slice A1 l1.length c1] w fun e w'=>∃ v0_:Value,e = .returned (.tuple #[v0_,.int .i64 r2]) ∧ Kd.N k39 39 w' w.heap.size (fun k_=>(w.heap.size ≤ k_)) v0_ r1 ∧ Below w.heap.size w w':=by
 have hu39:=Try.underlying39
 have HR1:=Aside0.mk hr1
 have HC1:=Aside0.mk hc1
 clear hr1 hc1
 have HB:=Aside0.mk (Below.refl w.heap.size w)
 have H:((ref26_Check.f k a0 l1).bind fun bt249=>(if bt249.2 = 0 then (ref26_Normalize.l0 k l1 ([]:List (S39)) 0) else (some (([]:List (S39)),bt249.2)))) = some (r1,r2):=h
 clear h
 replace H:=Option.bind_eq_some_iff.mp H
 obtain ⟨⟨t249,t250⟩,A30,H⟩:=H
 replace H:(if t250 = 0 then (ref26_Normalize.l0 k l1 ([]:List (S39)) 0) else (some (([]:List (S39)),t250))) = some (r1,r2):=H
 have A3:=Aside0.mk A30
 clear A30
 by_cases c4:t250 = 0
 ·rw [if_pos c4] at H
  have c4b0:(t250 == 0) = true:=beq_iff_eq.mpr c4
  have c4b1:(t250 != 0) = false:=bne_eq_false_iff_eq.mpr c4
  clear c4
  have H':=Aside0.mk H
  clear H
  go_enter Try.func31,Try.ntmps31
  go_wp2_with (first|((with_reducible refine gate_callee (f:=24) rfl ?_);refine goesL_ (some 13) rfl rfl Try.func24 (by kernel_rfl) rfl #[.int .i64 a0,.slice A1 l1.length c1] rfl (by (try simp only [List.map_toArray,List.map_cons,List.map_nil]);first|done|rfl|(simp only [List.length_drop,List.length_take];rfl)) ?_;(with_reducible refine (ref26_Check.calls k a0 _ _ l1 t249 t250 _ ?side1 ?side2 A3.out).mono ?_);(case side1=>repeat (first|exact HR1.out|(with_reducible refine Kd.C_alloc ?_ _)|(with_reducible refine Kd.C_drewN ?_ _)|(with_reducible refine Kd.C_drew ?_)));(case side2=>exact HC1.out);rintro e w5 ⟨rfl,hb⟩;refine ⟨_,rfl,?_⟩;have n0_:=Aside0.mk (below_step (by repeat (first|(with_reducible first|exact HB.out|apply below_alloc|apply pw_below_drewN|apply below_drew1)|exact HB.out)) hb);clear HB;have HB:=n0_;clear n0_;(try clear hb);(try clear hb2);(try clear hk);(try clear hi)))
  go_loopg [8,9] k (fun kq v8 v9 w'=>∃ (x8_1:List (S39)) (x9_1:Int),v9 = .int .i64 x9_1 ∧ Aside0 (ref26_Normalize.l0 kq l1 x8_1 x9_1 = some (r1,r2)) ∧ Aside0 (kq ≤ k) ∧ Aside0 (Kd.N k39 39 w' w.heap.size (fun k_=>(w.heap.size ≤ k_)) v8 x8_1) ∧ Aside0 (Below w.heap.size w w'))
  case atStart=>exact ⟨(([]:List (S39))),(0),(by first|rfl|(simp;done)|(simp [*];done)),H',⟨Nat.le_refl _⟩,⟨by first|exact Kd.S_nil _ _ _ _ _|exact Kd.N_nil _ _ _ _ _|exact Kd.V_nil _ _ _ _ _|exact Kd.Q_nil _ _ _ _ _|exact Kd.R_nil _ _ _ _ _⟩,⟨by repeat (first|(with_reducible first|exact HB.out|apply below_alloc|apply pw_below_drewN|apply below_drew1)|exact HB.out)⟩⟩
  case round =>
   clear H'
   try clear c1
   try clear c2
   try clear p2
   try clear c3
   try clear c4
   try clear c4b0
   try clear c4b1
   obtain ⟨x8_1,x9_1,rfl,HA,HK1,HO_8,HB⟩:=hrel
   cases gk with
   | zero=>exact absurd HA.out (by simp [ref26_Normalize.l0])
   | succ k1 =>
    have H:=HA.out
    clear HA
    simp only [ref26_Normalize.l0] at H
    by_cases c6:x9_1 < (l1.length:Int)
    ·rw [if_pos c6] at H
     have c6b0:decide (x9_1 < (l1.length:Int)) = true:=decide_eq_true c6
     clear c6
     by_cases c7:0 ≤ x9_1
     ·rw [if_pos c7] at H
      have c7b0:decide (0 ≤ x9_1) = true:=decide_eq_true c7
      clear c7
      replace H:=Option.bind_eq_some_iff.mp H
      obtain ⟨t252,A80,H⟩:=H
      replace H:(ref26_Normalize.l0 k1 l1 t252 (wrap64 (x9_1 + 1))) = some (r1,r2):=H
      have A8:=Aside0.mk A80
      clear A80
      have H':=Aside0.mk H
      clear H
      have p251:0 ≤ (x9_1:Int):=of_decide_eq_true (by first|(with_reducible assumption)|assumption)
      have q251:x9_1 < (l1.length:Int):=of_decide_eq_true (by first|(with_reducible assumption)|assumption)
      obtain ⟨ad251,A251_2,c251_2,e251,hx251_0,hx251_1,hx251_2,hl251_2,hi251_2⟩:=at_T39 HR1.out x9_1 p251 q251
      cases e251
      have hu251_2:=Aside0.mk hx251_2
      replace hx251_0:=(HB.out.cell (World.block_lt_of_cell? w _ hx251_0)).trans hx251_0
      replace hx251_1:=(HB.out.cell (World.block_lt_of_cell? w _ hx251_1)).trans hx251_1
      replace hx251_2:=(HB.out.cell (World.block_lt_of_cell? w _ hx251_2)).trans hx251_2
      have HR251_2:=Aside0.mk hi251_2
      have HC251_2:=Aside0.mk hl251_2
      clear hi251_2 hl251_2
      replace p251:=eq_true p251
      replace q251:=eq_true q251
      obtain ⟨Ao9,co9,eo9⟩:=Kd.N_slice HO_8.out
      subst eo9
      go_wp2_with (first|((with_reducible refine gate_callee (f:=46) rfl ?_);refine goesL_ (some 30) rfl rfl Try.func46 (by kernel_rfl) rfl #[.slice Ao9 x8_1.length co9,.agg #[.int .i64 ((rd_T39 l1 x9_1).f0),.int .i64 ((rd_T39 l1 x9_1).f1),.slice A251_2 ((rd_T39 l1 x9_1).f2).length c251_2]] rfl (by (try simp only [List.map_toArray,List.map_cons,List.map_nil]);first|done|rfl|(simp only [List.length_drop,List.length_take];rfl)) ?_;(with_reducible refine (ref26_Add.calls k1 (fun k_=>(w.heap.size ≤ k_)) _ _ x8_1 ((rd_T39 l1 x9_1).f0) ((rd_T39 l1 x9_1).f1) _ _ ((rd_T39 l1 x9_1).f2) t252 _ ?side1 ?side2 ?side3 A8.out).mono ?_);(case side1=>exact Kd.N_V (HO_8.out));(case side2=>repeat (first|exact (Kd.C_below HR251_2.out HB.out)|(with_reducible refine Kd.C_alloc ?_ _)|(with_reducible refine Kd.C_drewN ?_ _)|(with_reducible refine Kd.C_drew ?_)));(case side3=>exact HC251_2.out);rintro e w10 ⟨v253,rfl,ho0,hb⟩;refine ⟨_,rfl,?_⟩;have n0_:=Aside0.mk (Kd.N_elder' (by (with_reducible repeat (first|apply Kd.N_alloc|apply Kd.N_drewN|apply Kd.N_drew));exact HO_8.out) (by first|exact Kd.N_base ho0|exact Kd.S_base ho0) hb);have n1_:=Aside0.mk (Kd.N_lower (Kd.N_mono (ok':=fun k_=>(w.heap.size ≤ k_)) ho0 (fun k_ hk_=>Or.elim hk_ (fun hs_=>hs_) (fun hn_=>(Nat.le_trans (below_size (by repeat (first|(with_reducible first|exact HB.out|apply below_alloc|apply pw_below_drewN|apply below_drew1)|exact HB.out))) hn_)))) (below_size (by repeat (first|(with_reducible first|exact HB.out|apply below_alloc|apply pw_below_drewN|apply below_drew1)|exact HB.out))));have n2_:=Aside0.mk (below_step (by repeat (first|(with_reducible first|exact HB.out|apply below_alloc|apply pw_below_drewN|apply below_drew1)|exact HB.out)) hb);clear HO_8;clear HB;have HO_8:=n0_;have HO254:=n1_;have HB:=n2_;clear n0_ n1_ n2_;(try clear hb);(try clear hb2);(try clear hk);(try clear hi);(try clear ho0)))
      go_roundg k1
      case measure=>have:=HK1.out;omega
      case rel=>exact ⟨(t252),(wrap64 (x9_1 + 1)),(by first|rfl|(simp;done)|(simp [*];done)),H',⟨by have:=HK1.out;omega⟩,⟨by (with_reducible repeat (first|apply Kd.N_alloc|apply Kd.N_drewN|apply Kd.N_drew));exact HO254.out⟩,⟨by repeat (first|(with_reducible first|exact HB.out|apply below_alloc|apply pw_below_drewN|apply below_drew1)|exact HB.out)⟩⟩
     ·rw [if_neg c7] at H
      exact absurd H (by simp)
    ·rw [if_neg c6] at H
     have c6b0:decide (x9_1 < (l1.length:Int)) = false:=decide_eq_false c6
     clear c6
     simp only [Option.some.injEq,Prod.mk.injEq] at H
     obtain ⟨rfl,rfl⟩:=H
     go_wp2
     go_ret2
     exact ⟨_,by first|rfl|(simp [errW_none,errW_some] <;> rfl)|(simp [*,errW_none,errW_some] <;> rfl),by (with_reducible repeat (first|apply Kd.N_alloc|apply Kd.N_drewN|apply Kd.N_drew));exact HO_8.out,by repeat (first|(with_reducible first|exact HB.out|apply below_alloc|apply pw_below_drewN|apply below_drew1)|exact HB.out)⟩
 ·rw [if_neg c4] at H
  have c4b0:(t250 == 0) = false:=beq_eq_false_iff_ne.mpr c4
  have c4b1:(t250 != 0) = true:=bne_iff_ne.mpr c4
  simp only [Option.some.injEq,Prod.mk.injEq] at H
  obtain ⟨rfl,rfl⟩:=H
  go_enter Try.func31,Try.ntmps31
  go_wp2_with (first|((with_reducible refine gate_callee (f:=24) rfl ?_);refine goesL_ (some 13) rfl rfl Try.func24 (by kernel_rfl) rfl #[.int .i64 a0,.slice A1 l1.length c1] rfl (by (try simp only [List.map_toArray,List.map_cons,List.map_nil]);first|done|rfl|(simp only [List.length_drop,List.length_take];rfl)) ?_;(with_reducible refine (ref26_Check.calls k a0 _ _ l1 t249 t250 _ ?side1 ?side2 A3.out).mono ?_);(case side1=>repeat (first|exact HR1.out|(with_reducible refine Kd.C_alloc ?_ _)|(with_reducible refine Kd.C_drewN ?_ _)|(with_reducible refine Kd.C_drew ?_)));(case side2=>exact HC1.out);rintro e w11 ⟨rfl,hb⟩;refine ⟨_,rfl,?_⟩;have n0_:=Aside0.mk (below_step (by repeat (first|(with_reducible first|exact HB.out|apply below_alloc|apply pw_below_drewN|apply below_drew1)|exact HB.out)) hb);clear HB;have HB:=n0_;clear n0_;(try clear hb);(try clear hb2);(try clear hk);(try clear hi)))
  go_ret2
  exact ⟨_,by first|rfl|(simp [errW_none,errW_some] <;> rfl)|(simp [*,errW_none,errW_some] <;> rfl),by first|exact Kd.S_nil _ _ _ _ _|exact Kd.N_nil _ _ _ _ _|exact Kd.V_nil _ _ _ _ _|exact Kd.Q_nil _ _ _ _ _|exact Kd.R_nil _ _ _ _ _,by repeat (first|(with_reducible first|exact HB.out|apply below_alloc|apply pw_below_drewN|apply below_drew1)|exact HB.out)⟩

end Go.Proofs.Ytjckjcekapkkjaa.P
