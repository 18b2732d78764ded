-- WRITTEN BY myprint.py (wip/tools) for this seat
import Derived.Test.YtjckjcekapkkjaaPx0
import Derived.Test.YtjckjcekapkkjaaPx5
namespace Go.Proofs.Ytjckjcekapkkjaa.P
open Go.RowKit Go.Proofs.YtjckjcekapkkjaaW.PrintWords Go.Proofs.YtjckjcekapkkjaaW.PrintLast Go.Proofs.YtjckjcekapkkjaaW.PrintMore
attribute [local go_sem] max2_int min2_int max_two min_two max_three min_three max_four min_four   -- for this text's walks alone
set_option linter.unusedVariables false
set_option linter.unusedSimpArgs false

/-! ### ref26_Check: function 24 -/
mutual
def ref26_Check.j0:Nat → Int → List (S39) → Bool → Option (Int × Int)
 | 0,_,_,_=>none
 | k + 1,x0,x1,x14=>if x14 = true then (some (0,262)) else (if (x1.length:Int) > 4096 then (some (0,263)) else (ref26_Check.l0 k x0 x1 0 0))
def ref26_Check.l0:Nat → Int → List (S39) → Int → Int → Option (Int × Int)
 | 0,_,_,_,_=>none
 | k + 1,x0,x1,x6,x7=>if x7 < (x1.length:Int) then (if 0 ≤ x7 then ((ref26_Copies.f ((rd_T39 x1 x7).f0) ((rd_T39 x1 x7).f1) ((rd_T39 x1 x7).f2)).bind fun t200=>(if t200 = true then (ref26_Check.j2 k x0 x1 x6 x7 false ((rd_T39 x1 x7).f0) ((rd_T39 x1 x7).f1) ((rd_T39 x1 x7).f2)) else ((ref26_Literal.f ((rd_T39 x1 x7).f0) ((rd_T39 x1 x7).f1) ((rd_T39 x1 x7).f2)).bind fun t201=>(ref26_Check.j2 k x0 x1 x6 x7 (!t201) ((rd_T39 x1 x7).f0) ((rd_T39 x1 x7).f1) ((rd_T39 x1 x7).f2))))) else (none)) else (some (x6,0))
def ref26_Check.j2:Nat → Int → List (S39) → Int → Int → Bool → Int → Int → List Int → Option (Int × Int)
 | 0,_,_,_,_,_,_,_,_=>none
 | k + 1,x0,x1,x6,x7,x35,x200000,x200001,x200002=>if x35 = true then (some (0,260)) else ((ref26_Copies.f x200000 x200001 x200002).bind fun t202=>(if t202 = true then (if x200000 < 0 then (ref26_Check.j3 k x0 x1 x6 x7 true x200000 x200001 x200002) else (if x200000 > x0 then (ref26_Check.j3 k x0 x1 x6 x7 true x200000 x200001 x200002) else (ref26_Check.j3 k x0 x1 x6 x7 (decide (x200001 > (wrap64 (x0 - x200000)))) x200000 x200001 x200002))) else (ref26_Check.j3 k x0 x1 x6 x7 false x200000 x200001 x200002)))
def ref26_Check.j3:Nat → Int → List (S39) → Int → Int → Bool → Int → Int → List Int → Option (Int × Int)
 | 0,_,_,_,_,_,_,_,_=>none
 | k + 1,x0,x1,x6,x7,x57,x200000,x200001,x200002=>if x57 = true then (some (0,261)) else (if (wrap64 (x6 + (wrap64 (x200001 + (x200002.length:Int))))) > 1048576 then (some (0,262)) else (ref26_Check.l0 k x0 x1 (wrap64 (x6 + (wrap64 (x200001 + (x200002.length:Int))))) (wrap64 (x7 + 1))))
end
def ref26_Check.f (k:Nat) (a0:Int) (l1:List (S39)):Option (Int × Int):=if a0 < 0 then (ref26_Check.j0 k a0 l1 true) else (ref26_Check.j0 k a0 l1 (decide (a0 > 1048576)))
set_option maxHeartbeats 8000000 in
set_option maxRecDepth 100000 in
theorem ref26_Check.calls (k:Nat) (a0:Int) (A1:Option Addr) (c1:Nat) (l1:List (S39)) (r1:Int) (r2:Int) (w:World) (hr1:Kd.C k39 w A1 l1.length l1) (hc1:l1.length ≤ c1) (h:ref26_Check.f k a0 l1 = some (r1,r2)) :
  Calls Try.prog 24 #[.int .i64 a0,.slice A1 l1.length c1] w fun e w'=>e = .returned (.tuple #[.int .i64 r1,.int .i64 r2]) ∧ Below w.heap.size w w':=by
 have hu39:=Try.underlying39
 have HR1:=Aside0.mk hr1
 have HC1:=Aside0.mk hc1
 clear hr1 hc1
 have HB:=Aside0.mk (Below.refl w.heap.size w)
 have H:(if a0 < 0 then (ref26_Check.j0 k a0 l1 true) else (ref26_Check.j0 k a0 l1 (decide (a0 > 1048576)))) = some (r1,r2):=h
 clear h
 have HC3:=Aside0.mk H
 clear H
 go_enter Try.func24,Try.ntmps24
 go_upto_region 1 with (fail)
 go_cut [14] (fun v14 wc=>∃ (kq:Nat) (x14_2:Bool),v14 = .bool x14_2 ∧ Aside0 (ref26_Check.j0 kq a0 l1 x14_2 = some (r1,r2)) ∧ Aside0 (kq ≤ k) ∧ Aside0 (Below w.heap.size w wc))
 case first =>
  have H:=HC3.out
  clear HC3
  by_cases c4:a0 < 0
  ·rw [if_pos c4] at H
   have c4b0:decide (a0 < 0) = true:=decide_eq_true c4
   clear c4
   (first|rw [c4b0]|(simp only [i64_w,i32_w];rw [c4b0])|skip)
   have H':=Aside0.mk H
   clear H
   go_wp2
   go_meet
   case rel=>exact ⟨_,(true),(by first|rfl|(simp;done)|(simp [*];done)),H',⟨by first|omega|exact Nat.le_refl _⟩,⟨by repeat (first|(with_reducible first|exact HB.out|apply below_alloc|apply pw_below_drewN|apply below_drew1)|exact HB.out)⟩⟩
  ·rw [if_neg c4] at H
   have c4b0:decide (a0 < 0) = false:=decide_eq_false c4
   clear c4
   (first|rw [c4b0]|(simp only [i64_w,i32_w];rw [c4b0])|skip)
   have H':=Aside0.mk H
   clear H
   go_wp2
   go_meet
   case rel=>exact ⟨_,(decide (a0 > 1048576)),(by first|rfl|(simp;done)|(simp [*];done)),H',⟨by first|omega|exact Nat.le_refl _⟩,⟨by repeat (first|(with_reducible first|exact HB.out|apply below_alloc|apply pw_below_drewN|apply below_drew1)|exact HB.out)⟩⟩
 case rest =>
  clear HC3
  try clear c1
  try clear c2
  try clear p2
  try clear c4
  try clear c4b0
  obtain ⟨kq,x14_2,rfl,HA,HJ2,HB⟩:=hcut
  cases kq with
  | zero=>exact absurd HA.out (by simp [ref26_Check.j0])
  | succ kj2 =>
   have H:=HA.out
   clear HA
   simp only [ref26_Check.j0] at H
   by_cases c5:x14_2 = true
   ·subst c5
    have H1:(some (0,262)) = some (r1,r2):=by rw [if_pos rfl] at H;exact H
    clear H
    have H:=H1
    clear H1
    simp only [Option.some.injEq,Prod.mk.injEq] at H
    obtain ⟨rfl,rfl⟩:=H
    go_wp2
    go_ret2
    exact ⟨by first|rfl|(simp [errW_none,errW_some] <;> rfl)|(simp [*,errW_none,errW_some] <;> rfl),by repeat (first|(with_reducible first|exact HB.out|apply below_alloc|apply pw_below_drewN|apply below_drew1)|exact HB.out)⟩
   ·replace c5:=Bool.eq_false_iff.mpr c5
    subst c5
    have H1:(if (l1.length:Int) > 4096 then (some (0,263)) else (ref26_Check.l0 kj2 a0 l1 0 0)) = some (r1,r2):=by rw [if_neg (show ¬ (false = true) by decide)] at H;exact H
    clear H
    have H:=H1
    clear H1
    by_cases c6:(l1.length:Int) > 4096
    ·rw [if_pos c6] at H
     have c6b0:decide (4096 < (l1.length:Int)) = true:=decide_eq_true c6
     have c6b1:decide (4096 < l1.length) = true:=decide_eq_true (by omega)
     clear c6
     simp only [Option.some.injEq,Prod.mk.injEq] at H
     obtain ⟨rfl,rfl⟩:=H
     go_wp2
     go_ret2
     exact ⟨by first|rfl|(simp [errW_none,errW_some] <;> rfl)|(simp [*,errW_none,errW_some] <;> rfl),by repeat (first|(with_reducible first|exact HB.out|apply below_alloc|apply pw_below_drewN|apply below_drew1)|exact HB.out)⟩
    ·rw [if_neg c6] at H
     have c6b0:decide (4096 < (l1.length:Int)) = false:=decide_eq_false c6
     have c6b1:decide (4096 < l1.length) = false:=decide_eq_false (by omega)
     clear c6
     have H':=Aside0.mk H
     clear H
     go_wp2
     go_loopg [6,7] kj2 (fun kq v6 v7 w'=>∃ (x6_2:Int) (x7_2:Int),v6 = .int .i64 x6_2 ∧ v7 = .int .i64 x7_2 ∧ Aside0 (ref26_Check.l0 kq a0 l1 x6_2 x7_2 = some (r1,r2)) ∧ Aside0 (kq ≤ kj2) ∧ Aside0 (Below w.heap.size w w'))
     case atStart=>exact ⟨(0),(0),(by first|rfl|(simp;done)|(simp [*];done)),(by first|rfl|(simp;done)|(simp [*];done)),H',⟨Nat.le_refl _⟩,⟨by repeat (first|(with_reducible first|exact HB.out|apply below_alloc|apply pw_below_drewN|apply below_drew1)|exact HB.out)⟩⟩
     case round =>
      clear H'
      try clear c1
      try clear c2
      try clear p2
      try clear c4
      try clear c4b0
      try clear c5
      try clear c6
      try clear c6b0
      try clear c6b1
      try clear p2
      obtain ⟨x6_2,x7_2,rfl,rfl,HA,HK2,HB⟩:=hrel
      cases gk with
      | zero=>exact absurd HA.out (by simp [ref26_Check.l0])
      | succ k2 =>
       have H:=HA.out
       clear HA
       simp only [ref26_Check.l0] at H
       by_cases c7:x7_2 < (l1.length:Int)
       ·rw [if_pos c7] at H
        have c7b0:decide (x7_2 < (l1.length:Int)) = true:=decide_eq_true c7
        clear c7
        by_cases c8:0 ≤ x7_2
        ·rw [if_pos c8] at H
         have c8b0:decide (0 ≤ x7_2) = true:=decide_eq_true c8
         clear c8
         have HC9:=Aside0.mk H
         clear H
         have p198:0 ≤ (x7_2:Int):=of_decide_eq_true (by first|(with_reducible assumption)|assumption)
         have q198:x7_2 < (l1.length:Int):=of_decide_eq_true (by first|(with_reducible assumption)|assumption)
         obtain ⟨ad198,A198_2,c198_2,e198,hx198_0,hx198_1,hx198_2,hl198_2,hi198_2⟩:=at_T39 HR1.out x7_2 p198 q198
         cases e198
         have hu198_2:=Aside0.mk hx198_2
         replace hx198_0:=(HB.out.cell (World.block_lt_of_cell? w _ hx198_0)).trans hx198_0
         replace hx198_1:=(HB.out.cell (World.block_lt_of_cell? w _ hx198_1)).trans hx198_1
         replace hx198_2:=(HB.out.cell (World.block_lt_of_cell? w _ hx198_2)).trans hx198_2
         have HR198_2:=Aside0.mk hi198_2
         have HC198_2:=Aside0.mk hl198_2
         clear hi198_2 hl198_2
         replace p198:=eq_true p198
         replace q198:=eq_true q198
         go_upto_region 10 with (first|((with_reducible refine gate_dst (N:=8) rfl ?_);refine box_event ?hg (N:=8) ?hd (cs:=#[.int .i64 0,.int .i64 0,.slice none 0 0]) (t:=39) ?hr ?_;(case hd=>rfl);(case hg=>rfl);(case hr=>first|(go_simp;done)|(go_simp;rfl));intro gb199 hg w10 hbox hb;have n0_:=Aside0.mk (below_step (by repeat (first|(with_reducible first|exact HB.out|apply below_alloc|apply pw_below_drewN|apply below_drew1)|exact HB.out)) hb);have n1_:=Aside0.mk (hbox);have n2_:=Aside0.mk ((by rw [hg];exact (below_size (by repeat (first|(with_reducible first|exact HB.out|apply below_alloc|apply pw_below_drewN|apply below_drew1)|exact HB.out))):w.heap.size ≤ gb199));have n3_:=Aside0.mk ((by rw [hg];exact (below_size (by repeat (first|(with_reducible first|exact HB.out|apply below_alloc|apply pw_below_drewN|apply below_drew1)|exact HB.out))):w.heap.size ≤ gb199));clear HB;have HB:=n0_;have BK199:=n1_;have GW199:=n2_;have GE199:=n3_;clear n0_ n1_ n2_ n3_;clear hb hbox hg;have hcz11_0:w10.cell? ⟨gb199,0,none⟩ = some (.int .i64 0):=(blk_cell BK199.out 0).trans rfl;have hcz11_1:w10.cell? ⟨gb199,1,none⟩ = some (.int .i64 0):=(blk_cell BK199.out 1).trans rfl;have hcz11_2:w10.cell? ⟨gb199,2,none⟩ = some (.slice none 0 0):=(blk_cell BK199.out 2).trans rfl;have hfz11_0:=blk_frozen BK199.out 0;have hfz11_1:=blk_frozen BK199.out 1;have hfz11_2:=blk_frozen BK199.out 2))
         (try simp only [Act.put,List.setIfInBounds_toArray,List.set_cons_zero,List.set_cons_succ])
         go_cut [35] (fun v35 wc=>∃ (kq:Nat) (x35_8:Bool),v35 = .bool x35_8 ∧ Aside0 (ref26_Check.j2 kq a0 l1 x6_2 x7_2 x35_8 ((rd_T39 l1 x7_2).f0) ((rd_T39 l1 x7_2).f1) ((rd_T39 l1 x7_2).f2) = some (r1,r2)) ∧ Aside0 (kq ≤ k2) ∧ Aside0 (wc.heap[gb199]? = some (.cells #[.int .i64 ((rd_T39 l1 x7_2).f0),.int .i64 ((rd_T39 l1 x7_2).f1),(.slice A198_2 ((rd_T39 l1 x7_2).f2).length c198_2)] 39 (0,0))) ∧ Aside0 (Below w.heap.size w wc))
         case first =>
          have H:=HC9.out
          clear HC9
          replace H:=Option.bind_eq_some_iff.mp H
          obtain ⟨t200,A120,H⟩:=H
          replace H:(if t200 = true then (ref26_Check.j2 k2 a0 l1 x6_2 x7_2 false ((rd_T39 l1 x7_2).f0) ((rd_T39 l1 x7_2).f1) ((rd_T39 l1 x7_2).f2)) else ((ref26_Literal.f ((rd_T39 l1 x7_2).f0) ((rd_T39 l1 x7_2).f1) ((rd_T39 l1 x7_2).f2)).bind fun t201=>(ref26_Check.j2 k2 a0 l1 x6_2 x7_2 (!t201) ((rd_T39 l1 x7_2).f0) ((rd_T39 l1 x7_2).f1) ((rd_T39 l1 x7_2).f2)))) = some (r1,r2):=H
          have A12:=Aside0.mk A120
          clear A120
          by_cases c13:t200 = true
          ·subst c13
           have H1:(ref26_Check.j2 k2 a0 l1 x6_2 x7_2 false ((rd_T39 l1 x7_2).f0) ((rd_T39 l1 x7_2).f1) ((rd_T39 l1 x7_2).f2)) = some (r1,r2):=by rw [if_pos rfl] at H;exact H
           clear H
           have H:=H1
           clear H1
           have H':=Aside0.mk H
           clear H
           have hcz14_0:w10.cell? ⟨gb199,0,none⟩ = some (.int .i64 0):=(blk_cell BK199.out 0).trans rfl
           have hcz14_1:w10.cell? ⟨gb199,1,none⟩ = some (.int .i64 0):=(blk_cell BK199.out 1).trans rfl
           have hcz14_2:w10.cell? ⟨gb199,2,none⟩ = some (.slice none 0 0):=(blk_cell BK199.out 2).trans rfl
           have hfz14_0:=blk_frozen BK199.out 0
           have hfz14_1:=blk_frozen BK199.out 1
           have hfz14_2:=blk_frozen BK199.out 2
           go_wp2_with (first|((with_reducible refine gate_callee (f:=48) rfl ?_);refine goesL_ (some 29) rfl rfl Try.func48 (by kernel_rfl) rfl #[.agg #[.int .i64 ((rd_T39 l1 x7_2).f0),.int .i64 ((rd_T39 l1 x7_2).f1),.slice A198_2 ((rd_T39 l1 x7_2).f2).length c198_2]] rfl (by (try simp only [List.map_toArray,List.map_cons,List.map_nil]);first|done|rfl|(simp only [List.length_drop,List.length_take];rfl)) ?_;(with_reducible refine (ref26_Copies.calls ((rd_T39 l1 x7_2).f0) ((rd_T39 l1 x7_2).f1) _ _ ((rd_T39 l1 x7_2).f2) true _ ?side1 ?side2 A12.out).mono ?_);(case side1=>exact Kd.C_below HR198_2.out (by repeat (first|(with_reducible first|exact HB.out|apply below_alloc|apply pw_below_drewN|apply below_drew1|refine below_set ?_ GE199.out)|exact HB.out)));(case side2=>exact HC198_2.out);rintro e w15 ⟨rfl,hb⟩;refine ⟨_,rfl,?_⟩;have n0_:=Aside0.mk (blk_below (g:=gb199) (o:=.cells #[.int .i64 ((rd_T39 l1 x7_2).f0),.int .i64 ((rd_T39 l1 x7_2).f1),.slice A198_2 ((rd_T39 l1 x7_2).f2).length c198_2] 39 (0,0)) (by (with_reducible repeat (first|refine blk_drewN ?_ _|refine blk_drew ?_|refine blk_alloc ?_ _));refine blk_put (cs:=#[.int .i64 ((rd_T39 l1 x7_2).f0),.int .i64 ((rd_T39 l1 x7_2).f1),.slice none 0 0]) ?_ 2 _ rfl;(with_reducible repeat (first|refine blk_drewN ?_ _|refine blk_drew ?_|refine blk_alloc ?_ _));refine blk_put (cs:=#[.int .i64 ((rd_T39 l1 x7_2).f0),.int .i64 0,.slice none 0 0]) ?_ 1 _ rfl;(with_reducible repeat (first|refine blk_drewN ?_ _|refine blk_drew ?_|refine blk_alloc ?_ _));refine blk_put (cs:=#[.int .i64 0,.int .i64 0,.slice none 0 0]) ?_ 0 _ rfl;(with_reducible repeat (first|refine blk_drewN ?_ _|refine blk_drew ?_|refine blk_alloc ?_ _));exact BK199.out) hb);have n1_:=Aside0.mk (below_step (by repeat (first|(with_reducible first|exact HB.out|apply below_alloc|apply pw_below_drewN|apply below_drew1|refine below_set ?_ GE199.out)|exact HB.out)) hb);clear BK199;clear HB;have BK199:=n0_;have HB:=n1_;clear n0_ n1_;(try clear hb);(try clear hb2);(try clear hk);(try clear hi)))
           go_meet
           case rel=>exact ⟨_,(false),(by first|rfl|(simp;done)|(simp [*];done)),H',⟨by have:=HJ2.out;have:=HK2.out;first|omega|exact Nat.le_refl _⟩,⟨by (with_reducible repeat (first|refine blk_drewN ?_ _|refine blk_drew ?_|refine blk_alloc ?_ _));exact BK199.out⟩,⟨by repeat (first|(with_reducible first|exact HB.out|apply below_alloc|apply pw_below_drewN|apply below_drew1|refine below_set ?_ GE199.out)|exact HB.out)⟩⟩
          ·replace c13:=Bool.eq_false_iff.mpr c13
           subst c13
           have H1:((ref26_Literal.f ((rd_T39 l1 x7_2).f0) ((rd_T39 l1 x7_2).f1) ((rd_T39 l1 x7_2).f2)).bind fun t201=>(ref26_Check.j2 k2 a0 l1 x6_2 x7_2 (!t201) ((rd_T39 l1 x7_2).f0) ((rd_T39 l1 x7_2).f1) ((rd_T39 l1 x7_2).f2))) = some (r1,r2):=by rw [if_neg (show ¬ (false = true) by decide)] at H;exact H
           clear H
           have H:=H1
           clear H1
           replace H:=Option.bind_eq_some_iff.mp H
           obtain ⟨t201,A160,H⟩:=H
           replace H:(ref26_Check.j2 k2 a0 l1 x6_2 x7_2 (!t201) ((rd_T39 l1 x7_2).f0) ((rd_T39 l1 x7_2).f1) ((rd_T39 l1 x7_2).f2)) = some (r1,r2):=H
           have A16:=Aside0.mk A160
           clear A160
           have H':=Aside0.mk H
           clear H
           have hcz17_0:w10.cell? ⟨gb199,0,none⟩ = some (.int .i64 0):=(blk_cell BK199.out 0).trans rfl
           have hcz17_1:w10.cell? ⟨gb199,1,none⟩ = some (.int .i64 0):=(blk_cell BK199.out 1).trans rfl
           have hcz17_2:w10.cell? ⟨gb199,2,none⟩ = some (.slice none 0 0):=(blk_cell BK199.out 2).trans rfl
           have hfz17_0:=blk_frozen BK199.out 0
           have hfz17_1:=blk_frozen BK199.out 1
           have hfz17_2:=blk_frozen BK199.out 2
           go_wp2_with (first|((with_reducible refine gate_callee (f:=48) rfl ?_);refine goesL_ (some 29) rfl rfl Try.func48 (by kernel_rfl) rfl #[.agg #[.int .i64 ((rd_T39 l1 x7_2).f0),.int .i64 ((rd_T39 l1 x7_2).f1),.slice A198_2 ((rd_T39 l1 x7_2).f2).length c198_2]] rfl (by (try simp only [List.map_toArray,List.map_cons,List.map_nil]);first|done|rfl|(simp only [List.length_drop,List.length_take];rfl)) ?_;(with_reducible refine (ref26_Copies.calls ((rd_T39 l1 x7_2).f0) ((rd_T39 l1 x7_2).f1) _ _ ((rd_T39 l1 x7_2).f2) false _ ?side1 ?side2 A12.out).mono ?_);(case side1=>exact Kd.C_below HR198_2.out (by repeat (first|(with_reducible first|exact HB.out|apply below_alloc|apply pw_below_drewN|apply below_drew1|refine below_set ?_ GE199.out)|exact HB.out)));(case side2=>exact HC198_2.out);rintro e w18 ⟨rfl,hb⟩;refine ⟨_,rfl,?_⟩;have n0_:=Aside0.mk (blk_below (g:=gb199) (o:=.cells #[.int .i64 ((rd_T39 l1 x7_2).f0),.int .i64 ((rd_T39 l1 x7_2).f1),.slice A198_2 ((rd_T39 l1 x7_2).f2).length c198_2] 39 (0,0)) (by (with_reducible repeat (first|refine blk_drewN ?_ _|refine blk_drew ?_|refine blk_alloc ?_ _));refine blk_put (cs:=#[.int .i64 ((rd_T39 l1 x7_2).f0),.int .i64 ((rd_T39 l1 x7_2).f1),.slice none 0 0]) ?_ 2 _ rfl;(with_reducible repeat (first|refine blk_drewN ?_ _|refine blk_drew ?_|refine blk_alloc ?_ _));refine blk_put (cs:=#[.int .i64 ((rd_T39 l1 x7_2).f0),.int .i64 0,.slice none 0 0]) ?_ 1 _ rfl;(with_reducible repeat (first|refine blk_drewN ?_ _|refine blk_drew ?_|refine blk_alloc ?_ _));refine blk_put (cs:=#[.int .i64 0,.int .i64 0,.slice none 0 0]) ?_ 0 _ rfl;(with_reducible repeat (first|refine blk_drewN ?_ _|refine blk_drew ?_|refine blk_alloc ?_ _));exact BK199.out) hb);have n1_:=Aside0.mk (below_step (by repeat (first|(with_reducible first|exact HB.out|apply below_alloc|apply pw_below_drewN|apply below_drew1|refine below_set ?_ GE199.out)|exact HB.out)) hb);clear BK199;clear HB;have BK199:=n0_;have HB:=n1_;clear n0_ n1_;(try clear hb);(try clear hb2);(try clear hk);(try clear hi);have hcz19_0:w18.cell? ⟨gb199,0,none⟩ = some (.int .i64 ((rd_T39 l1 x7_2).f0)):=(blk_cell BK199.out 0).trans rfl;have hcz19_1:w18.cell? ⟨gb199,1,none⟩ = some (.int .i64 ((rd_T39 l1 x7_2).f1)):=(blk_cell BK199.out 1).trans rfl;have hcz19_2:w18.cell? ⟨gb199,2,none⟩ = some (.slice A198_2 ((rd_T39 l1 x7_2).f2).length c198_2):=(blk_cell BK199.out 2).trans rfl;have hfz19_0:=blk_frozen BK199.out 0;have hfz19_1:=blk_frozen BK199.out 1;have hfz19_2:=blk_frozen BK199.out 2)|(go_at_call 49;(with_reducible refine (ref26_Literal.calls ((rd_T39 l1 x7_2).f0) ((rd_T39 l1 x7_2).f1) _ _ ((rd_T39 l1 x7_2).f2) t201 _ ?side1 ?side2 A16.out).mono ?_);(case side1=>repeat (first|exact (Kd.C_below HR198_2.out HB.out)|(with_reducible refine Kd.C_alloc ?_ _)|(with_reducible refine Kd.C_drewN ?_ _)|(with_reducible refine Kd.C_drew ?_)));(case side2=>exact HC198_2.out);rintro e w20 ⟨rfl,hb⟩;have n0_:=Aside0.mk (blk_below (g:=gb199) (o:=.cells #[.int .i64 ((rd_T39 l1 x7_2).f0),.int .i64 ((rd_T39 l1 x7_2).f1),.slice A198_2 ((rd_T39 l1 x7_2).f2).length c198_2] 39 (0,0)) (by (with_reducible repeat (first|refine blk_drewN ?_ _|refine blk_drew ?_|refine blk_alloc ?_ _));exact BK199.out) hb);have n1_:=Aside0.mk (below_step (by repeat (first|(with_reducible first|exact HB.out|apply below_alloc|apply pw_below_drewN|apply below_drew1|refine below_set ?_ GE199.out)|exact HB.out)) hb);clear BK199;clear HB;have BK199:=n0_;have HB:=n1_;clear n0_ n1_;(try clear hb);(try clear hb2);(try clear hk);(try clear hi)))
           go_meet
           case rel=>exact ⟨_,(!t201),(by first|rfl|(simp;done)|(simp [*];done)),H',⟨by have:=HJ2.out;have:=HK2.out;first|omega|exact Nat.le_refl _⟩,⟨by (with_reducible repeat (first|refine blk_drewN ?_ _|refine blk_drew ?_|refine blk_alloc ?_ _));exact BK199.out⟩,⟨by repeat (first|(with_reducible first|exact HB.out|apply below_alloc|apply pw_below_drewN|apply below_drew1|refine below_set ?_ GE199.out)|exact HB.out)⟩⟩
         case rest =>
          clear HC9
          try clear c1
          try clear p1
          try clear q1
          try clear hx1
          try clear c2
          try clear p2
          try clear c4
          try clear c4b0
          try clear c5
          try clear c6
          try clear c6b0
          try clear c6b1
          try clear c7
          try clear c7b0
          try clear c8
          try clear c8b0
          try clear c13
          try clear c19
          try clear p19
          try clear q19
          try clear hx19
          try clear hcz11_0
          try clear hcz11_1
          try clear hcz11_2
          try clear hcz14_0
          try clear hcz14_1
          try clear hcz14_2
          try clear hcz17_0
          try clear hcz17_1
          try clear hcz17_2
          try clear hcz19_0
          try clear hcz19_1
          try clear hcz19_2
          try clear hfz11_0
          try clear hfz11_1
          try clear hfz11_2
          try clear hfz14_0
          try clear hfz14_1
          try clear hfz14_2
          try clear hfz17_0
          try clear hfz17_1
          try clear hfz17_2
          try clear hfz19_0
          try clear hfz19_1
          try clear hfz19_2
          try clear hx198_0
          try clear hx198_1
          try clear hx198_2
          try clear p198
          try clear p2
          try clear q198
          obtain ⟨kq,x35_8,rfl,HA,HJ8,BK199,HB⟩:=hcut
          cases kq with
          | zero=>exact absurd HA.out (by simp [ref26_Check.j2])
          | succ kj8 =>
           have H:=HA.out
           clear HA
           simp only [ref26_Check.j2] at H
           by_cases c21:x35_8 = true
           ·subst c21
            have H1:(some (0,260)) = some (r1,r2):=by rw [if_pos rfl] at H;exact H
            clear H
            have H:=H1
            clear H1
            simp only [Option.some.injEq,Prod.mk.injEq] at H
            obtain ⟨rfl,rfl⟩:=H
            go_wp2
            go_ret2
            exact ⟨by first|rfl|(simp [errW_none,errW_some] <;> rfl)|(simp [*,errW_none,errW_some] <;> rfl),by repeat (first|(with_reducible first|exact HB.out|apply below_alloc|apply pw_below_drewN|apply below_drew1|refine below_set ?_ GE199.out)|exact HB.out)⟩
           ·replace c21:=Bool.eq_false_iff.mpr c21
            subst c21
            have H1:((ref26_Copies.f ((rd_T39 l1 x7_2).f0) ((rd_T39 l1 x7_2).f1) ((rd_T39 l1 x7_2).f2)).bind fun t202=>(if t202 = true then (if ((rd_T39 l1 x7_2).f0) < 0 then (ref26_Check.j3 kj8 a0 l1 x6_2 x7_2 true ((rd_T39 l1 x7_2).f0) ((rd_T39 l1 x7_2).f1) ((rd_T39 l1 x7_2).f2)) else (if ((rd_T39 l1 x7_2).f0) > a0 then (ref26_Check.j3 kj8 a0 l1 x6_2 x7_2 true ((rd_T39 l1 x7_2).f0) ((rd_T39 l1 x7_2).f1) ((rd_T39 l1 x7_2).f2)) else (ref26_Check.j3 kj8 a0 l1 x6_2 x7_2 (decide (((rd_T39 l1 x7_2).f1) > (wrap64 (a0 - ((rd_T39 l1 x7_2).f0))))) ((rd_T39 l1 x7_2).f0) ((rd_T39 l1 x7_2).f1) ((rd_T39 l1 x7_2).f2)))) else (ref26_Check.j3 kj8 a0 l1 x6_2 x7_2 false ((rd_T39 l1 x7_2).f0) ((rd_T39 l1 x7_2).f1) ((rd_T39 l1 x7_2).f2)))) = some (r1,r2):=by rw [if_neg (show ¬ (false = true) by decide)] at H;exact H
            clear H
            have H:=H1
            clear H1
            have HC22:=Aside0.mk H
            clear H
            go_upto_region 12 with (fail)
            go_cut [57] (fun v57 wc=>∃ (kq:Nat) (x57_21:Bool),v57 = .bool x57_21 ∧ Aside0 (ref26_Check.j3 kq a0 l1 x6_2 x7_2 x57_21 ((rd_T39 l1 x7_2).f0) ((rd_T39 l1 x7_2).f1) ((rd_T39 l1 x7_2).f2) = some (r1,r2)) ∧ Aside0 (kq ≤ kj8) ∧ Aside0 (wc.heap[gb199]? = some (.cells #[.int .i64 ((rd_T39 l1 x7_2).f0),.int .i64 ((rd_T39 l1 x7_2).f1),(.slice A198_2 ((rd_T39 l1 x7_2).f2).length c198_2)] 39 (0,0))) ∧ Aside0 (Below w.heap.size w wc))
            case first =>
             have H:=HC22.out
             clear HC22
             replace H:=Option.bind_eq_some_iff.mp H
             obtain ⟨t202,A230,H⟩:=H
             replace H:(if t202 = true then (if ((rd_T39 l1 x7_2).f0) < 0 then (ref26_Check.j3 kj8 a0 l1 x6_2 x7_2 true ((rd_T39 l1 x7_2).f0) ((rd_T39 l1 x7_2).f1) ((rd_T39 l1 x7_2).f2)) else (if ((rd_T39 l1 x7_2).f0) > a0 then (ref26_Check.j3 kj8 a0 l1 x6_2 x7_2 true ((rd_T39 l1 x7_2).f0) ((rd_T39 l1 x7_2).f1) ((rd_T39 l1 x7_2).f2)) else (ref26_Check.j3 kj8 a0 l1 x6_2 x7_2 (decide (((rd_T39 l1 x7_2).f1) > (wrap64 (a0 - ((rd_T39 l1 x7_2).f0))))) ((rd_T39 l1 x7_2).f0) ((rd_T39 l1 x7_2).f1) ((rd_T39 l1 x7_2).f2)))) else (ref26_Check.j3 kj8 a0 l1 x6_2 x7_2 false ((rd_T39 l1 x7_2).f0) ((rd_T39 l1 x7_2).f1) ((rd_T39 l1 x7_2).f2))) = some (r1,r2):=H
             have A23:=Aside0.mk A230
             clear A230
             by_cases c24:t202 = true
             ·subst c24
              have H1:(if ((rd_T39 l1 x7_2).f0) < 0 then (ref26_Check.j3 kj8 a0 l1 x6_2 x7_2 true ((rd_T39 l1 x7_2).f0) ((rd_T39 l1 x7_2).f1) ((rd_T39 l1 x7_2).f2)) else (if ((rd_T39 l1 x7_2).f0) > a0 then (ref26_Check.j3 kj8 a0 l1 x6_2 x7_2 true ((rd_T39 l1 x7_2).f0) ((rd_T39 l1 x7_2).f1) ((rd_T39 l1 x7_2).f2)) else (ref26_Check.j3 kj8 a0 l1 x6_2 x7_2 (decide (((rd_T39 l1 x7_2).f1) > (wrap64 (a0 - ((rd_T39 l1 x7_2).f0))))) ((rd_T39 l1 x7_2).f0) ((rd_T39 l1 x7_2).f1) ((rd_T39 l1 x7_2).f2)))) = some (r1,r2):=by rw [if_pos rfl] at H;exact H
              clear H
              have H:=H1
              clear H1
              by_cases c25:((rd_T39 l1 x7_2).f0) < 0
              ·rw [if_pos c25] at H
               have c25b0:decide (((rd_T39 l1 x7_2).f0) < 0) = true:=decide_eq_true c25
               clear c25
               (first|rw [c25b0]|(simp only [i64_w,i32_w];rw [c25b0])|skip)
               have H':=Aside0.mk H
               clear H
               have hcz26_0:wc.cell? ⟨gb199,0,none⟩ = some (.int .i64 ((rd_T39 l1 x7_2).f0)):=(blk_cell BK199.out 0).trans rfl
               have hcz26_1:wc.cell? ⟨gb199,1,none⟩ = some (.int .i64 ((rd_T39 l1 x7_2).f1)):=(blk_cell BK199.out 1).trans rfl
               have hcz26_2:wc.cell? ⟨gb199,2,none⟩ = some (.slice A198_2 ((rd_T39 l1 x7_2).f2).length c198_2):=(blk_cell BK199.out 2).trans rfl
               have hfz26_0:=blk_frozen BK199.out 0
               have hfz26_1:=blk_frozen BK199.out 1
               have hfz26_2:=blk_frozen BK199.out 2
               go_wp2_with (first|((with_reducible refine gate_callee (f:=48) rfl ?_);refine goesL_ (some 37) rfl rfl Try.func48 (by kernel_rfl) rfl #[.agg #[.int .i64 ((rd_T39 l1 x7_2).f0),.int .i64 ((rd_T39 l1 x7_2).f1),.slice A198_2 ((rd_T39 l1 x7_2).f2).length c198_2]] rfl (by (try simp only [List.map_toArray,List.map_cons,List.map_nil]);first|done|rfl|(simp only [List.length_drop,List.length_take];rfl)) ?_;(with_reducible refine (ref26_Copies.calls ((rd_T39 l1 x7_2).f0) ((rd_T39 l1 x7_2).f1) _ _ ((rd_T39 l1 x7_2).f2) true _ ?side1 ?side2 A23.out).mono ?_);(case side1=>repeat (first|exact (Kd.C_below HR198_2.out HB.out)|(with_reducible refine Kd.C_alloc ?_ _)|(with_reducible refine Kd.C_drewN ?_ _)|(with_reducible refine Kd.C_drew ?_)));(case side2=>exact HC198_2.out);rintro e w27 ⟨rfl,hb⟩;refine ⟨_,rfl,?_⟩;have n0_:=Aside0.mk (blk_below (g:=gb199) (o:=.cells #[.int .i64 ((rd_T39 l1 x7_2).f0),.int .i64 ((rd_T39 l1 x7_2).f1),.slice A198_2 ((rd_T39 l1 x7_2).f2).length c198_2] 39 (0,0)) (by (with_reducible repeat (first|refine blk_drewN ?_ _|refine blk_drew ?_|refine blk_alloc ?_ _));exact BK199.out) hb);have n1_:=Aside0.mk (below_step (by repeat (first|(with_reducible first|exact HB.out|apply below_alloc|apply pw_below_drewN|apply below_drew1|refine below_set ?_ GE199.out)|exact HB.out)) hb);clear BK199;clear HB;have BK199:=n0_;have HB:=n1_;clear n0_ n1_;(try clear hb);(try clear hb2);(try clear hk);(try clear hi);have hcz28_0:w27.cell? ⟨gb199,0,none⟩ = some (.int .i64 ((rd_T39 l1 x7_2).f0)):=(blk_cell BK199.out 0).trans rfl;have hcz28_1:w27.cell? ⟨gb199,1,none⟩ = some (.int .i64 ((rd_T39 l1 x7_2).f1)):=(blk_cell BK199.out 1).trans rfl;have hcz28_2:w27.cell? ⟨gb199,2,none⟩ = some (.slice A198_2 ((rd_T39 l1 x7_2).f2).length c198_2):=(blk_cell BK199.out 2).trans rfl;have hfz28_0:=blk_frozen BK199.out 0;have hfz28_1:=blk_frozen BK199.out 1;have hfz28_2:=blk_frozen BK199.out 2))
               go_meet
               case rel=>exact ⟨_,(true),(by first|rfl|(simp;done)|(simp [*];done)),H',⟨by have:=HJ2.out;have:=HK2.out;have:=HJ8.out;first|omega|exact Nat.le_refl _⟩,⟨by (with_reducible repeat (first|refine blk_drewN ?_ _|refine blk_drew ?_|refine blk_alloc ?_ _));exact BK199.out⟩,⟨by repeat (first|(with_reducible first|exact HB.out|apply below_alloc|apply pw_below_drewN|apply below_drew1|refine below_set ?_ GE199.out)|exact HB.out)⟩⟩
              ·rw [if_neg c25] at H
               have c25b0:decide (((rd_T39 l1 x7_2).f0) < 0) = false:=decide_eq_false c25
               clear c25
               (first|rw [c25b0]|(simp only [i64_w,i32_w];rw [c25b0])|skip)
               by_cases c29:((rd_T39 l1 x7_2).f0) > a0
               ·rw [if_pos c29] at H
                have c29b0:decide (a0 < ((rd_T39 l1 x7_2).f0)) = true:=decide_eq_true c29
                clear c29
                have H':=Aside0.mk H
                clear H
                have hcz30_0:wc.cell? ⟨gb199,0,none⟩ = some (.int .i64 ((rd_T39 l1 x7_2).f0)):=(blk_cell BK199.out 0).trans rfl
                have hcz30_1:wc.cell? ⟨gb199,1,none⟩ = some (.int .i64 ((rd_T39 l1 x7_2).f1)):=(blk_cell BK199.out 1).trans rfl
                have hcz30_2:wc.cell? ⟨gb199,2,none⟩ = some (.slice A198_2 ((rd_T39 l1 x7_2).f2).length c198_2):=(blk_cell BK199.out 2).trans rfl
                have hfz30_0:=blk_frozen BK199.out 0
                have hfz30_1:=blk_frozen BK199.out 1
                have hfz30_2:=blk_frozen BK199.out 2
                go_wp2_with (first|((with_reducible refine gate_callee (f:=48) rfl ?_);refine goesL_ (some 37) rfl rfl Try.func48 (by kernel_rfl) rfl #[.agg #[.int .i64 ((rd_T39 l1 x7_2).f0),.int .i64 ((rd_T39 l1 x7_2).f1),.slice A198_2 ((rd_T39 l1 x7_2).f2).length c198_2]] rfl (by (try simp only [List.map_toArray,List.map_cons,List.map_nil]);first|done|rfl|(simp only [List.length_drop,List.length_take];rfl)) ?_;(with_reducible refine (ref26_Copies.calls ((rd_T39 l1 x7_2).f0) ((rd_T39 l1 x7_2).f1) _ _ ((rd_T39 l1 x7_2).f2) true _ ?side1 ?side2 A23.out).mono ?_);(case side1=>repeat (first|exact (Kd.C_below HR198_2.out HB.out)|(with_reducible refine Kd.C_alloc ?_ _)|(with_reducible refine Kd.C_drewN ?_ _)|(with_reducible refine Kd.C_drew ?_)));(case side2=>exact HC198_2.out);rintro e w31 ⟨rfl,hb⟩;refine ⟨_,rfl,?_⟩;have n0_:=Aside0.mk (blk_below (g:=gb199) (o:=.cells #[.int .i64 ((rd_T39 l1 x7_2).f0),.int .i64 ((rd_T39 l1 x7_2).f1),.slice A198_2 ((rd_T39 l1 x7_2).f2).length c198_2] 39 (0,0)) (by (with_reducible repeat (first|refine blk_drewN ?_ _|refine blk_drew ?_|refine blk_alloc ?_ _));exact BK199.out) hb);have n1_:=Aside0.mk (below_step (by repeat (first|(with_reducible first|exact HB.out|apply below_alloc|apply pw_below_drewN|apply below_drew1|refine below_set ?_ GE199.out)|exact HB.out)) hb);clear BK199;clear HB;have BK199:=n0_;have HB:=n1_;clear n0_ n1_;(try clear hb);(try clear hb2);(try clear hk);(try clear hi);have hcz32_0:w31.cell? ⟨gb199,0,none⟩ = some (.int .i64 ((rd_T39 l1 x7_2).f0)):=(blk_cell BK199.out 0).trans rfl;have hcz32_1:w31.cell? ⟨gb199,1,none⟩ = some (.int .i64 ((rd_T39 l1 x7_2).f1)):=(blk_cell BK199.out 1).trans rfl;have hcz32_2:w31.cell? ⟨gb199,2,none⟩ = some (.slice A198_2 ((rd_T39 l1 x7_2).f2).length c198_2):=(blk_cell BK199.out 2).trans rfl;have hfz32_0:=blk_frozen BK199.out 0;have hfz32_1:=blk_frozen BK199.out 1;have hfz32_2:=blk_frozen BK199.out 2))
                go_meet
                case rel=>exact ⟨_,(true),(by first|rfl|(simp;done)|(simp [*];done)),H',⟨by have:=HJ2.out;have:=HK2.out;have:=HJ8.out;first|omega|exact Nat.le_refl _⟩,⟨by (with_reducible repeat (first|refine blk_drewN ?_ _|refine blk_drew ?_|refine blk_alloc ?_ _));exact BK199.out⟩,⟨by repeat (first|(with_reducible first|exact HB.out|apply below_alloc|apply pw_below_drewN|apply below_drew1|refine below_set ?_ GE199.out)|exact HB.out)⟩⟩
               ·rw [if_neg c29] at H
                have c29b0:decide (a0 < ((rd_T39 l1 x7_2).f0)) = false:=decide_eq_false c29
                clear c29
                have H':=Aside0.mk H
                clear H
                have hcz33_0:wc.cell? ⟨gb199,0,none⟩ = some (.int .i64 ((rd_T39 l1 x7_2).f0)):=(blk_cell BK199.out 0).trans rfl
                have hcz33_1:wc.cell? ⟨gb199,1,none⟩ = some (.int .i64 ((rd_T39 l1 x7_2).f1)):=(blk_cell BK199.out 1).trans rfl
                have hcz33_2:wc.cell? ⟨gb199,2,none⟩ = some (.slice A198_2 ((rd_T39 l1 x7_2).f2).length c198_2):=(blk_cell BK199.out 2).trans rfl
                have hfz33_0:=blk_frozen BK199.out 0
                have hfz33_1:=blk_frozen BK199.out 1
                have hfz33_2:=blk_frozen BK199.out 2
                go_wp2_with (first|((with_reducible refine gate_callee (f:=48) rfl ?_);refine goesL_ (some 37) rfl rfl Try.func48 (by kernel_rfl) rfl #[.agg #[.int .i64 ((rd_T39 l1 x7_2).f0),.int .i64 ((rd_T39 l1 x7_2).f1),.slice A198_2 ((rd_T39 l1 x7_2).f2).length c198_2]] rfl (by (try simp only [List.map_toArray,List.map_cons,List.map_nil]);first|done|rfl|(simp only [List.length_drop,List.length_take];rfl)) ?_;(with_reducible refine (ref26_Copies.calls ((rd_T39 l1 x7_2).f0) ((rd_T39 l1 x7_2).f1) _ _ ((rd_T39 l1 x7_2).f2) true _ ?side1 ?side2 A23.out).mono ?_);(case side1=>repeat (first|exact (Kd.C_below HR198_2.out HB.out)|(with_reducible refine Kd.C_alloc ?_ _)|(with_reducible refine Kd.C_drewN ?_ _)|(with_reducible refine Kd.C_drew ?_)));(case side2=>exact HC198_2.out);rintro e w34 ⟨rfl,hb⟩;refine ⟨_,rfl,?_⟩;have n0_:=Aside0.mk (blk_below (g:=gb199) (o:=.cells #[.int .i64 ((rd_T39 l1 x7_2).f0),.int .i64 ((rd_T39 l1 x7_2).f1),.slice A198_2 ((rd_T39 l1 x7_2).f2).length c198_2] 39 (0,0)) (by (with_reducible repeat (first|refine blk_drewN ?_ _|refine blk_drew ?_|refine blk_alloc ?_ _));exact BK199.out) hb);have n1_:=Aside0.mk (below_step (by repeat (first|(with_reducible first|exact HB.out|apply below_alloc|apply pw_below_drewN|apply below_drew1|refine below_set ?_ GE199.out)|exact HB.out)) hb);clear BK199;clear HB;have BK199:=n0_;have HB:=n1_;clear n0_ n1_;(try clear hb);(try clear hb2);(try clear hk);(try clear hi);have hcz35_0:w34.cell? ⟨gb199,0,none⟩ = some (.int .i64 ((rd_T39 l1 x7_2).f0)):=(blk_cell BK199.out 0).trans rfl;have hcz35_1:w34.cell? ⟨gb199,1,none⟩ = some (.int .i64 ((rd_T39 l1 x7_2).f1)):=(blk_cell BK199.out 1).trans rfl;have hcz35_2:w34.cell? ⟨gb199,2,none⟩ = some (.slice A198_2 ((rd_T39 l1 x7_2).f2).length c198_2):=(blk_cell BK199.out 2).trans rfl;have hfz35_0:=blk_frozen BK199.out 0;have hfz35_1:=blk_frozen BK199.out 1;have hfz35_2:=blk_frozen BK199.out 2))
                go_meet
                case rel=>exact ⟨_,(decide (((rd_T39 l1 x7_2).f1) > (wrap64 (a0 - ((rd_T39 l1 x7_2).f0))))),(by first|rfl|(simp;done)|(simp [*];done)),H',⟨by have:=HJ2.out;have:=HK2.out;have:=HJ8.out;first|omega|exact Nat.le_refl _⟩,⟨by (with_reducible repeat (first|refine blk_drewN ?_ _|refine blk_drew ?_|refine blk_alloc ?_ _));exact BK199.out⟩,⟨by repeat (first|(with_reducible first|exact HB.out|apply below_alloc|apply pw_below_drewN|apply below_drew1|refine below_set ?_ GE199.out)|exact HB.out)⟩⟩
             ·replace c24:=Bool.eq_false_iff.mpr c24
              subst c24
              have H1:(ref26_Check.j3 kj8 a0 l1 x6_2 x7_2 false ((rd_T39 l1 x7_2).f0) ((rd_T39 l1 x7_2).f1) ((rd_T39 l1 x7_2).f2)) = some (r1,r2):=by rw [if_neg (show ¬ (false = true) by decide)] at H;exact H
              clear H
              have H:=H1
              clear H1
              have H':=Aside0.mk H
              clear H
              have hcz36_0:wc.cell? ⟨gb199,0,none⟩ = some (.int .i64 ((rd_T39 l1 x7_2).f0)):=(blk_cell BK199.out 0).trans rfl
              have hcz36_1:wc.cell? ⟨gb199,1,none⟩ = some (.int .i64 ((rd_T39 l1 x7_2).f1)):=(blk_cell BK199.out 1).trans rfl
              have hcz36_2:wc.cell? ⟨gb199,2,none⟩ = some (.slice A198_2 ((rd_T39 l1 x7_2).f2).length c198_2):=(blk_cell BK199.out 2).trans rfl
              have hfz36_0:=blk_frozen BK199.out 0
              have hfz36_1:=blk_frozen BK199.out 1
              have hfz36_2:=blk_frozen BK199.out 2
              go_wp2_with (first|((with_reducible refine gate_callee (f:=48) rfl ?_);refine goesL_ (some 37) rfl rfl Try.func48 (by kernel_rfl) rfl #[.agg #[.int .i64 ((rd_T39 l1 x7_2).f0),.int .i64 ((rd_T39 l1 x7_2).f1),.slice A198_2 ((rd_T39 l1 x7_2).f2).length c198_2]] rfl (by (try simp only [List.map_toArray,List.map_cons,List.map_nil]);first|done|rfl|(simp only [List.length_drop,List.length_take];rfl)) ?_;(with_reducible refine (ref26_Copies.calls ((rd_T39 l1 x7_2).f0) ((rd_T39 l1 x7_2).f1) _ _ ((rd_T39 l1 x7_2).f2) false _ ?side1 ?side2 A23.out).mono ?_);(case side1=>repeat (first|exact (Kd.C_below HR198_2.out HB.out)|(with_reducible refine Kd.C_alloc ?_ _)|(with_reducible refine Kd.C_drewN ?_ _)|(with_reducible refine Kd.C_drew ?_)));(case side2=>exact HC198_2.out);rintro e w37 ⟨rfl,hb⟩;refine ⟨_,rfl,?_⟩;have n0_:=Aside0.mk (blk_below (g:=gb199) (o:=.cells #[.int .i64 ((rd_T39 l1 x7_2).f0),.int .i64 ((rd_T39 l1 x7_2).f1),.slice A198_2 ((rd_T39 l1 x7_2).f2).length c198_2] 39 (0,0)) (by (with_reducible repeat (first|refine blk_drewN ?_ _|refine blk_drew ?_|refine blk_alloc ?_ _));exact BK199.out) hb);have n1_:=Aside0.mk (below_step (by repeat (first|(with_reducible first|exact HB.out|apply below_alloc|apply pw_below_drewN|apply below_drew1|refine below_set ?_ GE199.out)|exact HB.out)) hb);clear BK199;clear HB;have BK199:=n0_;have HB:=n1_;clear n0_ n1_;(try clear hb);(try clear hb2);(try clear hk);(try clear hi)))
              go_meet
              case rel=>exact ⟨_,(false),(by first|rfl|(simp;done)|(simp [*];done)),H',⟨by have:=HJ2.out;have:=HK2.out;have:=HJ8.out;first|omega|exact Nat.le_refl _⟩,⟨by (with_reducible repeat (first|refine blk_drewN ?_ _|refine blk_drew ?_|refine blk_alloc ?_ _));exact BK199.out⟩,⟨by repeat (first|(with_reducible first|exact HB.out|apply below_alloc|apply pw_below_drewN|apply below_drew1|refine below_set ?_ GE199.out)|exact HB.out)⟩⟩
            case rest =>
             clear HC22
             try clear c1
             try clear p1
             try clear q1
             try clear hx1
             try clear c2
             try clear p2
             try clear c4
             try clear c4b0
             try clear c5
             try clear c6
             try clear c6b0
             try clear c6b1
             try clear p6
             try clear c7
             try clear c7b0
             try clear c8
             try clear c8b0
             try clear c13
             try clear c19
             try clear p19
             try clear q19
             try clear hx19
             try clear c21
             try clear c24
             try clear c25
             try clear c25b0
             try clear c29
             try clear c29b0
             try clear hcz11_0
             try clear hcz11_1
             try clear hcz11_2
             try clear hcz14_0
             try clear hcz14_1
             try clear hcz14_2
             try clear hcz17_0
             try clear hcz17_1
             try clear hcz17_2
             try clear hcz19_0
             try clear hcz19_1
             try clear hcz19_2
             try clear hcz26_0
             try clear hcz26_1
             try clear hcz26_2
             try clear hcz28_0
             try clear hcz28_1
             try clear hcz28_2
             try clear hcz30_0
             try clear hcz30_1
             try clear hcz30_2
             try clear hcz32_0
             try clear hcz32_1
             try clear hcz32_2
             try clear hcz33_0
             try clear hcz33_1
             try clear hcz33_2
             try clear hcz35_0
             try clear hcz35_1
             try clear hcz35_2
             try clear hcz36_0
             try clear hcz36_1
             try clear hcz36_2
             try clear hfz11_0
             try clear hfz11_1
             try clear hfz11_2
             try clear hfz14_0
             try clear hfz14_1
             try clear hfz14_2
             try clear hfz17_0
             try clear hfz17_1
             try clear hfz17_2
             try clear hfz19_0
             try clear hfz19_1
             try clear hfz19_2
             try clear hfz26_0
             try clear hfz26_1
             try clear hfz26_2
             try clear hfz28_0
             try clear hfz28_1
             try clear hfz28_2
             try clear hfz30_0
             try clear hfz30_1
             try clear hfz30_2
             try clear hfz32_0
             try clear hfz32_1
             try clear hfz32_2
             try clear hfz33_0
             try clear hfz33_1
             try clear hfz33_2
             try clear hfz35_0
             try clear hfz35_1
             try clear hfz35_2
             try clear hfz36_0
             try clear hfz36_1
             try clear hfz36_2
             try clear hx198_0
             try clear hx198_1
             try clear hx198_2
             try clear p1
             try clear p19
             try clear p198
             try clear p2
             try clear q1
             try clear q19
             try clear q198
             obtain ⟨kq,x57_21,rfl,HA,HJ21,BK199,HB⟩:=hcut
             cases kq with
             | zero=>exact absurd HA.out (by simp [ref26_Check.j3])
             | succ kj21 =>
              have H:=HA.out
              clear HA
              simp only [ref26_Check.j3] at H
              by_cases c38:x57_21 = true
              ·subst c38
               have H1:(some (0,261)) = some (r1,r2):=by rw [if_pos rfl] at H;exact H
               clear H
               have H:=H1
               clear H1
               simp only [Option.some.injEq,Prod.mk.injEq] at H
               obtain ⟨rfl,rfl⟩:=H
               go_wp2
               go_ret2
               exact ⟨by first|rfl|(simp [errW_none,errW_some] <;> rfl)|(simp [*,errW_none,errW_some] <;> rfl),by repeat (first|(with_reducible first|exact HB.out|apply below_alloc|apply pw_below_drewN|apply below_drew1|refine below_set ?_ GE199.out)|exact HB.out)⟩
              ·replace c38:=Bool.eq_false_iff.mpr c38
               subst c38
               have H1:(if (wrap64 (x6_2 + (wrap64 (((rd_T39 l1 x7_2).f1) + (((rd_T39 l1 x7_2).f2).length:Int))))) > 1048576 then (some (0,262)) else (ref26_Check.l0 kj21 a0 l1 (wrap64 (x6_2 + (wrap64 (((rd_T39 l1 x7_2).f1) + (((rd_T39 l1 x7_2).f2).length:Int))))) (wrap64 (x7_2 + 1)))) = some (r1,r2):=by rw [if_neg (show ¬ (false = true) by decide)] at H;exact H
               clear H
               have H:=H1
               clear H1
               by_cases c39:(wrap64 (x6_2 + (wrap64 (((rd_T39 l1 x7_2).f1) + (((rd_T39 l1 x7_2).f2).length:Int))))) > 1048576
               ·rw [if_pos c39] at H
                have c39b0:decide (1048576 < (wrap64 (x6_2 + (wrap64 (((rd_T39 l1 x7_2).f1) + (((rd_T39 l1 x7_2).f2).length:Int)))))) = true:=decide_eq_true c39
                clear c39
                simp only [Option.some.injEq,Prod.mk.injEq] at H
                obtain ⟨rfl,rfl⟩:=H
                have hcz40_0:wc.cell? ⟨gb199,0,none⟩ = some (.int .i64 ((rd_T39 l1 x7_2).f0)):=(blk_cell BK199.out 0).trans rfl
                have hcz40_1:wc.cell? ⟨gb199,1,none⟩ = some (.int .i64 ((rd_T39 l1 x7_2).f1)):=(blk_cell BK199.out 1).trans rfl
                have hcz40_2:wc.cell? ⟨gb199,2,none⟩ = some (.slice A198_2 ((rd_T39 l1 x7_2).f2).length c198_2):=(blk_cell BK199.out 2).trans rfl
                have hfz40_0:=blk_frozen BK199.out 0
                have hfz40_1:=blk_frozen BK199.out 1
                have hfz40_2:=blk_frozen BK199.out 2
                go_wp2
                go_ret2
                exact ⟨by first|rfl|(simp [errW_none,errW_some] <;> rfl)|(simp [*,errW_none,errW_some] <;> rfl),by repeat (first|(with_reducible first|exact HB.out|apply below_alloc|apply pw_below_drewN|apply below_drew1|refine below_set ?_ GE199.out)|exact HB.out)⟩
               ·rw [if_neg c39] at H
                have c39b0:decide (1048576 < (wrap64 (x6_2 + (wrap64 (((rd_T39 l1 x7_2).f1) + (((rd_T39 l1 x7_2).f2).length:Int)))))) = false:=decide_eq_false c39
                clear c39
                have H':=Aside0.mk H
                clear H
                have hcz41_0:wc.cell? ⟨gb199,0,none⟩ = some (.int .i64 ((rd_T39 l1 x7_2).f0)):=(blk_cell BK199.out 0).trans rfl
                have hcz41_1:wc.cell? ⟨gb199,1,none⟩ = some (.int .i64 ((rd_T39 l1 x7_2).f1)):=(blk_cell BK199.out 1).trans rfl
                have hcz41_2:wc.cell? ⟨gb199,2,none⟩ = some (.slice A198_2 ((rd_T39 l1 x7_2).f2).length c198_2):=(blk_cell BK199.out 2).trans rfl
                have hfz41_0:=blk_frozen BK199.out 0
                have hfz41_1:=blk_frozen BK199.out 1
                have hfz41_2:=blk_frozen BK199.out 2
                go_wp2
                go_roundg kj21
                case measure=>have:=HJ2.out;have:=HK2.out;have:=HJ8.out;have:=HJ21.out;omega
                case rel=>exact ⟨(wrap64 (x6_2 + (wrap64 (((rd_T39 l1 x7_2).f1) + (((rd_T39 l1 x7_2).f2).length:Int))))),(wrap64 (x7_2 + 1)),(by first|rfl|(simp;done)|(simp [*];done)),(by first|rfl|(simp;done)|(simp [*];done)),H',⟨by have:=HJ2.out;have:=HK2.out;have:=HJ8.out;have:=HJ21.out;omega⟩,⟨by repeat (first|(with_reducible first|exact HB.out|apply below_alloc|apply pw_below_drewN|apply below_drew1|refine below_set ?_ GE199.out)|exact HB.out)⟩⟩
        ·rw [if_neg c8] at H
         exact absurd H (by simp)
       ·rw [if_neg c7] at H
        have c7b0:decide (x7_2 < (l1.length:Int)) = false:=decide_eq_false c7
        clear c7
        simp only [Option.some.injEq,Prod.mk.injEq] at H
        obtain ⟨rfl,rfl⟩:=H
        go_wp2
        go_ret2
        exact ⟨by first|rfl|(simp [errW_none,errW_some] <;> rfl)|(simp [*,errW_none,errW_some] <;> rfl),by repeat (first|(with_reducible first|exact HB.out|apply below_alloc|apply pw_below_drewN|apply below_drew1)|exact HB.out)⟩

/-! ### stockyardref01_Uint: function 59 -/
def stockyardref01_Uint.f:Nat → Int → Option (List Int)
 | 0,_=>none
 | k + 1,a0=>if a0 < 128 then (some (([(a0) % 256]:List Int))) else ((some (([(((Int.tmod a0 128) % 256) + 128) % 256]:List Int):List Int)).bind fun y206=>((stockyardref01_Uint.f k (IntKind.u64.wrap (Int.tdiv a0 128))).bind fun t209=>(if y206.length + t209.length < 140737488355328 then (some (y206 ++ t209)) else (none))))
set_option maxHeartbeats 8000000 in
set_option maxRecDepth 100000 in
theorem stockyardref01_Uint.calls (k:Nat):∀ (a0:Int) (r:List Int) (w:World) (h:stockyardref01_Uint.f k a0 = some r),
  Calls Try.prog 59 #[.int .u64 a0] w fun e w'=>∃ v0_:Value,e = .returned (v0_) ∧ Kd.R (Kd.int .u8) 5 w' w.heap.size (fun _=>True) v0_ r ∧ Below w.heap.size w w':=by
 induction k using Nat.strongRecOn with
 | _ k ih =>
 intro a0 r w h
 cases k with
 | zero=>exact absurd h (by simp [stockyardref01_Uint.f])
 | succ k =>
 simp only [stockyardref01_Uint.f] at h
 have HB:=Aside0.mk (Below.refl w.heap.size w)
 have H:(if a0 < 128 then (some (([(a0) % 256]:List Int))) else ((some (([(((Int.tmod a0 128) % 256) + 128) % 256]:List Int):List Int)).bind fun y206=>((stockyardref01_Uint.f k (IntKind.u64.wrap (Int.tdiv a0 128))).bind fun t209=>(if y206.length + t209.length < 140737488355328 then (some (y206 ++ t209)) else (none))))) = some r:=h
 clear h
 by_cases c2:a0 < 128
 ·rw [if_pos c2] at H
  have c2b0:decide (a0 < 128) = true:=decide_eq_true c2
  clear c2
  obtain ⟨y203,hy203⟩:∃ y_:List Int,y_ = (([(a0) % 256]:List Int)):=⟨_,rfl⟩
  replace H:(some y203) = some r:=by first|(rw [hy203];with_reducible exact H)|(have H2_:=(Option.bind_some _ _).symm.trans H;rw [hy203];with_reducible exact H2_)|(have H2_:=(Option.bind_some _ _).symm.trans H;with_reducible exact H2_)|with_reducible exact H|(rw [hy203];exact H)|exact H
  have Ny203:=Aside0.mk hy203
  clear hy203
  obtain rfl:=Option.some.inj H
  go_enter Try.func59,Try.ntmps59
  go_wp2_with (first|((with_reducible refine gate_dst (N:=7) rfl ?_);refine Kd.R_lit (Kd.int .u8) _ 5 ?hg (N:=7) ?hd (xs:=([(a0) % 256]:List Int)) (inner:=[.int .u8 ((a0) % 256)]) (ok:=fun _=>True) (okp:=fun _=>True) ?hr ?hp (fun _ hk=>hk) trivial (Below.refl _ _) (Nat.le_refl _) (by simp) ?_;(case hd=>rfl);(case hg=>rfl);(case hr=>first|(go_simp;done)|(go_simp;rfl));(case hp=>exact (Reps.one (show Kd.M (Kd.int .u8) _ _ _ ((a0) % 256) [.int .u8 ((a0) % 256)] from rfl) (Reps.none _ _)));intro v204 w3 ho4 hb hg_ hnew_;clear hg_ hnew_;(first|rw [← Ny203.out] at ho4|(simp only [Int.reduceToNat] at ho4;rw [← Ny203.out] at ho4));have n0_:=Aside0.mk (Kd.R_lower ho4 (below_size (by repeat (first|(with_reducible first|exact HB.out|apply below_alloc|apply pw_below_drewN|apply below_drew1)|exact HB.out))));have n1_:=Aside0.mk (below_step (by repeat (first|(with_reducible first|exact HB.out|apply below_alloc|apply pw_below_drewN|apply below_drew1)|exact HB.out)) hb);clear HB;have HO205:=n0_;have HB:=n1_;clear n0_ n1_;clear hb ho4))
  go_ret
  exact ⟨_,by first|rfl|(simp [errW_none,errW_some] <;> rfl)|(simp [*,errW_none,errW_some] <;> rfl),by (with_reducible repeat (first|apply Kd.R_alloc|apply Kd.R_drewN|apply Kd.R_drew));exact HO205.out,by repeat (first|(with_reducible first|exact HB.out|apply below_alloc|apply pw_below_drewN|apply below_drew1)|exact HB.out)⟩
 ·rw [if_neg c2] at H
  have c2b0:decide (a0 < 128) = false:=decide_eq_false c2
  clear c2
  obtain ⟨y206,hy206⟩:∃ y_:List Int,y_ = (([(((Int.tmod a0 128) % 256) + 128) % 256]:List Int)):=⟨_,rfl⟩
  replace H:((stockyardref01_Uint.f k (IntKind.u64.wrap (Int.tdiv a0 128))).bind fun t209=>(if y206.length + t209.length < 140737488355328 then (some (y206 ++ t209)) else (none))) = some r:=by first|(rw [hy206];with_reducible exact H)|(have H2_:=(Option.bind_some _ _).symm.trans H;rw [hy206];with_reducible exact H2_)|(have H2_:=(Option.bind_some _ _).symm.trans H;with_reducible exact H2_)|with_reducible exact H|(rw [hy206];exact H)|exact H
  have Ny206:=Aside0.mk hy206
  clear hy206
  replace H:=Option.bind_eq_some_iff.mp H
  obtain ⟨t209,A50,H⟩:=H
  replace H:(if y206.length + t209.length < 140737488355328 then (some (y206 ++ t209)) else (none)) = some r:=H
  have A5:=Aside0.mk A50
  clear A50
  by_cases c6:y206.length + t209.length < 140737488355328
  ·rw [if_pos c6] at H
   have LMc6:=Aside0.mk c6
   clear c6
   obtain ⟨y212,hy212⟩:∃ y_:List Int,y_ = (y206 ++ t209):=⟨_,rfl⟩
   replace H:(some y212) = some r:=by first|(rw [hy212];with_reducible exact H)|(have H2_:=(Option.bind_some _ _).symm.trans H;rw [hy212];with_reducible exact H2_)|(have H2_:=(Option.bind_some _ _).symm.trans H;with_reducible exact H2_)|with_reducible exact H|(rw [hy212];exact H)|exact H
   have Ny212:=Aside0.mk hy212
   clear hy212
   obtain rfl:=Option.some.inj H
   go_enter Try.func59,Try.ntmps59
   go_wp2_with (first|((with_reducible refine gate_dst (N:=12) rfl ?_);refine Kd.R_lit (Kd.int .u8) _ 5 ?hg (N:=12) ?hd (xs:=([(((Int.tmod a0 128) % 256) + 128) % 256]:List Int)) (inner:=[.int .u8 ((((Int.tmod a0 128) % 256) + 128) % 256)]) (ok:=fun _=>True) (okp:=fun _=>True) ?hr ?hp (fun _ hk=>hk) trivial (Below.refl _ _) (Nat.le_refl _) (by simp) ?_;(case hd=>rfl);(case hg=>rfl);(case hr=>first|(go_simp;done)|(go_simp;rfl));(case hp=>exact (Reps.one (show Kd.M (Kd.int .u8) _ _ _ ((((Int.tmod a0 128) % 256) + 128) % 256) [.int .u8 ((((Int.tmod a0 128) % 256) + 128) % 256)] from rfl) (Reps.none _ _)));intro v207 w7 ho8 hb hg_ hnew_;clear hg_ hnew_;(first|rw [← Ny206.out] at ho8|(simp only [Int.reduceToNat] at ho8;rw [← Ny206.out] at ho8));have n0_:=Aside0.mk (Kd.R_lower ho8 (below_size (by repeat (first|(with_reducible first|exact HB.out|apply below_alloc|apply pw_below_drewN|apply below_drew1)|exact HB.out))));have n1_:=Aside0.mk (below_step (by repeat (first|(with_reducible first|exact HB.out|apply below_alloc|apply pw_below_drewN|apply below_drew1)|exact HB.out)) hb);clear HB;have HO208:=n0_;have HB:=n1_;clear n0_ n1_;clear hb ho8)|((with_reducible refine gate_callee (f:=59) rfl ?_);refine goesL_ (some 15) rfl rfl Try.func59 (by kernel_rfl) rfl #[.int .u64 (IntKind.u64.wrap (Int.tdiv a0 128))] rfl (by (try simp only [List.map_toArray,List.map_cons,List.map_nil]);first|done|rfl|(simp only [List.length_drop,List.length_take];rfl)) ?_;(with_reducible refine (ih k (by omega) (IntKind.u64.wrap (Int.tdiv a0 128)) t209 _ A5.out).mono ?_);rintro e w9 ⟨v210,rfl,ho0,hb⟩;refine ⟨_,rfl,?_⟩;have n0_:=Aside0.mk (Kd.R_elder' (by (with_reducible repeat (first|apply Kd.R_alloc|apply Kd.R_drewN|apply Kd.R_drew));exact HO208.out) (Kd.R_base ho0) hb);have n1_:=Aside0.mk (Kd.R_lower (Kd.R_new' ho0 (Kd.R_lt (by (with_reducible repeat (first|apply Kd.R_alloc|apply Kd.R_drewN|apply Kd.R_drew));exact HO208.out))) (below_size (by repeat (first|(with_reducible first|exact HB.out|apply below_alloc|apply pw_below_drewN|apply below_drew1)|exact HB.out))));have n2_:=Aside0.mk (below_step (by repeat (first|(with_reducible first|exact HB.out|apply below_alloc|apply pw_below_drewN|apply below_drew1)|exact HB.out)) hb);clear HO208;clear HB;have HO208:=n0_;have HO211:=n1_;have HB:=n2_;clear n0_ n1_ n2_;(try clear hb);(try clear hb2);(try clear hk);(try clear hi);(try clear ho0);obtain ⟨Ao11,co11,eo11⟩:=Kd.R_slice HO211.out;subst eo11)|((with_reducible refine gate_builtin (b:=.append) (xs:=#[.tmp 12,.tmp 15]) rfl ?_);at_builtin;refine Kd.R_append_rows (Kd.int .u8) (w0:=w) w.heap.size rfl (.tmp 12) (.tmp 15) 26 5 (.int .u8 0) 1 rfl Try.underlying26 info5 rfl (by decide) (by omega) v207 y206 t209 _ _ _ (fun k_=>some k_ ≠ (.slice Ao11 t209.length co11:Value).ownBlock) (fun _=>False) rfl rfl ?aO ?aR (fun _ _ h=>h) (fun _ h=>h.elim) ?aF ?aB ?aS ?aL ?_;(case aR=>repeat (first|exact (Kd.R_reads' HO211.out).2.2|(with_reducible refine Kd.C_alloc ?_ _)|(with_reducible refine Kd.C_drewN ?_ _)|(with_reducible refine Kd.C_drew ?_)));(case aB=>exact (by repeat (first|(with_reducible first|exact HB.out|apply below_alloc|apply pw_below_drewN|apply below_drew1)|exact HB.out)));(case aF=>exact (fun k_ hk=>Kd.fresh' (Kd.R_lt (by (with_reducible repeat (first|apply Kd.R_alloc|apply Kd.R_drewN|apply Kd.R_drew));exact HO211.out)) k_ hk));(case aO=>exact (by (with_reducible repeat (first|apply Kd.R_alloc|apply Kd.R_drewN|apply Kd.R_drew));exact Kd.R_mono HO208.out (fun _ hk=>hk.2)));(case aS=>exact (below_size (by repeat (first|(with_reducible first|exact HB.out|apply below_alloc|apply pw_below_drewN|apply below_drew1)|exact HB.out))));(case aL=>have:=LMc6.out;omega);intro v213 w10 ho hb hg hat;rw [← Ny212.out] at ho;have n0_:=Aside0.mk (Kd.R_after (ok:=(fun _=>True)) (by (with_reducible repeat (first|apply Kd.R_alloc|apply Kd.R_drewN|apply Kd.R_drew));exact HO211.out) hg hat);have n1_:=Aside0.mk (hb);have n2_:=Aside0.mk (ho);clear HO211;clear HB;clear HO208;have HO211:=n0_;have HB:=n1_;have HO214:=n2_;clear n0_ n1_ n2_;clear ho hb hg hat))
   go_ret
   exact ⟨_,by first|rfl|(simp [errW_none,errW_some] <;> rfl)|(simp [*,errW_none,errW_some] <;> rfl),by (with_reducible repeat (first|apply Kd.R_alloc|apply Kd.R_drewN|apply Kd.R_drew));exact Kd.R_mono HO214.out (fun _ hk=>trivial),by repeat (first|(with_reducible first|exact HB.out|apply below_alloc|apply pw_below_drewN|apply below_drew1)|exact HB.out)⟩
  ·rw [if_neg c6] at H
   exact absurd H (by simp)

/-! ### ref26_bytes: function 52 -/
def ref26_bytes.l0:Nat → List (S39) → List Int → Int → Option (List Int)
 | 0,_,_,_=>none
 | k + 1,x0,x3,x4=>if x4 < (x0.length:Int) then (if 0 ≤ x4 then ((ref26_Copies.f ((rd_T39 x0 x4).f0) ((rd_T39 x0 x4).f1) ((rd_T39 x0 x4).f2)).bind fun t220=>(if t220 = true then ((stockyardref01_Uint.f k (IntKind.u64.wrap ((IntKind.u64.wrap (2 * (IntKind.u64.wrap ((rd_T39 x0 x4).f1)))) + 1))).bind fun t221=>(if x3.length + t221.length < 140737488355328 then ((some (x3 ++ t221:List Int)).bind fun y224=>((stockyardref01_Uint.f k (IntKind.u64.wrap ((rd_T39 x0 x4).f0))).bind fun t227=>(if y224.length + t227.length < 140737488355328 then (ref26_bytes.l0 k x0 (y224 ++ t227) (wrap64 (x4 + 1))) else (none)))) else (none))) else ((stockyardref01_Uint.f k (IntKind.u64.wrap (2 * (IntKind.u64.wrap ((((rd_T39 x0 x4).f2).length:Int)))))).bind fun t233=>(if x3.length + t233.length < 140737488355328 then ((some (x3 ++ t233:List Int)).bind fun y236=>(if y236.length + ((rd_T39 x0 x4).f2).length < 140737488355328 then (ref26_bytes.l0 k x0 (y236 ++ ((rd_T39 x0 x4).f2)) (wrap64 (x4 + 1))) else (none))) else (none))))) else (none)) else (some x3)
def ref26_bytes.f (k:Nat) (l0:List (S39)):Option (List Int):=(stockyardref01_Uint.f k (IntKind.u64.wrap ((l0.length:Int)))).bind fun t215=>(ref26_bytes.l0 k l0 t215 0)
set_option maxHeartbeats 8000000 in
set_option maxRecDepth 100000 in
theorem ref26_bytes.calls (k:Nat) (A0:Option Addr) (c0:Nat) (l0:List (S39)) (r:List Int) (w:World) (hr0:Kd.C k39 w A0 l0.length l0) (hc0:l0.length ≤ c0) (h:ref26_bytes.f k l0 = some r) :
  Calls Try.prog 52 #[.slice A0 l0.length c0] w fun e w'=>∃ v0_:Value,e = .returned (v0_) ∧ Kd.R (Kd.int .u8) 5 w' w.heap.size (fun _=>True) v0_ r ∧ Below w.heap.size w w':=by
 have hu39:=Try.underlying39
 have HR0:=Aside0.mk hr0
 have HC0:=Aside0.mk hc0
 clear hr0 hc0
 have HB:=Aside0.mk (Below.refl w.heap.size w)
 have H:((stockyardref01_Uint.f k (IntKind.u64.wrap ((l0.length:Int)))).bind fun t215=>(ref26_bytes.l0 k l0 t215 0)) = some r:=h
 clear h
 replace H:=Option.bind_eq_some_iff.mp H
 obtain ⟨t215,A20,H⟩:=H
 replace H:(ref26_bytes.l0 k l0 t215 0) = some r:=H
 have A2:=Aside0.mk A20
 clear A20
 have H':=Aside0.mk H
 clear H
 go_enter Try.func52,Try.ntmps52
 go_wp2_with (first|((with_reducible refine gate_callee (f:=59) rfl ?_);refine goesL_ (some 9) rfl rfl Try.func59 (by kernel_rfl) rfl #[.int .u64 (IntKind.u64.wrap ((l0.length:Int)))] rfl (by (try simp only [List.map_toArray,List.map_cons,List.map_nil]);first|done|rfl|(simp only [List.length_drop,List.length_take];rfl)) ?_;(with_reducible refine (stockyardref01_Uint.calls k (IntKind.u64.wrap ((l0.length:Int))) t215 _ A2.out).mono ?_);rintro e w3 ⟨v216,rfl,ho0,hb⟩;refine ⟨_,rfl,?_⟩;have n0_:=Aside0.mk (Kd.R_lower ho0 (below_size (by repeat (first|(with_reducible first|exact HB.out|apply below_alloc|apply pw_below_drewN|apply below_drew1)|exact HB.out))));have n1_:=Aside0.mk (below_step (by repeat (first|(with_reducible first|exact HB.out|apply below_alloc|apply pw_below_drewN|apply below_drew1)|exact HB.out)) hb);clear HB;have HO217:=n0_;have HB:=n1_;clear n0_ n1_;(try clear hb);(try clear hb2);(try clear hk);(try clear hi);(try clear ho0)))
 go_loopg [3,4] k (fun kq v3 v4 w'=>∃ (x3_1:List Int) (x4_1:Int),v4 = .int .i64 x4_1 ∧ Aside0 (ref26_bytes.l0 kq l0 x3_1 x4_1 = some r) ∧ Aside0 (kq ≤ k) ∧ Aside0 (Kd.R (Kd.int .u8) 5 w' w.heap.size (fun _=>True) v3 x3_1) ∧ Aside0 (Below w.heap.size w w'))
 case atStart=>exact ⟨(t215),(0),(by first|rfl|(simp;done)|(simp [*];done)),H',⟨Nat.le_refl _⟩,⟨by (with_reducible repeat (first|apply Kd.R_alloc|apply Kd.R_drewN|apply Kd.R_drew));exact HO217.out⟩,⟨by repeat (first|(with_reducible first|exact HB.out|apply below_alloc|apply pw_below_drewN|apply below_drew1)|exact HB.out)⟩⟩
 case round =>
  clear H'
  try clear p2
  obtain ⟨x3_1,x4_1,rfl,HA,HK1,HO_3,HB⟩:=hrel
  cases gk with
  | zero=>exact absurd HA.out (by simp [ref26_bytes.l0])
  | succ k1 =>
   have H:=HA.out
   clear HA
   simp only [ref26_bytes.l0] at H
   by_cases c4:x4_1 < (l0.length:Int)
   ·rw [if_pos c4] at H
    have c4b0:decide (x4_1 < (l0.length:Int)) = true:=decide_eq_true c4
    clear c4
    by_cases c5:0 ≤ x4_1
    ·rw [if_pos c5] at H
     have c5b0:decide (0 ≤ x4_1) = true:=decide_eq_true c5
     clear c5
     replace H:=Option.bind_eq_some_iff.mp H
     obtain ⟨t220,A60,H⟩:=H
     replace H:(if t220 = true then ((stockyardref01_Uint.f k1 (IntKind.u64.wrap ((IntKind.u64.wrap (2 * (IntKind.u64.wrap ((rd_T39 l0 x4_1).f1)))) + 1))).bind fun t221=>(if x3_1.length + t221.length < 140737488355328 then ((some (x3_1 ++ t221:List Int)).bind fun y224=>((stockyardref01_Uint.f k1 (IntKind.u64.wrap ((rd_T39 l0 x4_1).f0))).bind fun t227=>(if y224.length + t227.length < 140737488355328 then (ref26_bytes.l0 k1 l0 (y224 ++ t227) (wrap64 (x4_1 + 1))) else (none)))) else (none))) else ((stockyardref01_Uint.f k1 (IntKind.u64.wrap (2 * (IntKind.u64.wrap ((((rd_T39 l0 x4_1).f2).length:Int)))))).bind fun t233=>(if x3_1.length + t233.length < 140737488355328 then ((some (x3_1 ++ t233:List Int)).bind fun y236=>(if y236.length + ((rd_T39 l0 x4_1).f2).length < 140737488355328 then (ref26_bytes.l0 k1 l0 (y236 ++ ((rd_T39 l0 x4_1).f2)) (wrap64 (x4_1 + 1))) else (none))) else (none)))) = some r:=H
     have A6:=Aside0.mk A60
     clear A60
     by_cases c7:t220 = true
     ·subst c7
      have H1:((stockyardref01_Uint.f k1 (IntKind.u64.wrap ((IntKind.u64.wrap (2 * (IntKind.u64.wrap ((rd_T39 l0 x4_1).f1)))) + 1))).bind fun t221=>(if x3_1.length + t221.length < 140737488355328 then ((some (x3_1 ++ t221:List Int)).bind fun y224=>((stockyardref01_Uint.f k1 (IntKind.u64.wrap ((rd_T39 l0 x4_1).f0))).bind fun t227=>(if y224.length + t227.length < 140737488355328 then (ref26_bytes.l0 k1 l0 (y224 ++ t227) (wrap64 (x4_1 + 1))) else (none)))) else (none))) = some r:=by rw [if_pos rfl] at H;exact H
      clear H
      have H:=H1
      clear H1
      replace H:=Option.bind_eq_some_iff.mp H
      obtain ⟨t221,A80,H⟩:=H
      replace H:(if x3_1.length + t221.length < 140737488355328 then ((some (x3_1 ++ t221:List Int)).bind fun y224=>((stockyardref01_Uint.f k1 (IntKind.u64.wrap ((rd_T39 l0 x4_1).f0))).bind fun t227=>(if y224.length + t227.length < 140737488355328 then (ref26_bytes.l0 k1 l0 (y224 ++ t227) (wrap64 (x4_1 + 1))) else (none)))) else (none)) = some r:=H
      have A8:=Aside0.mk A80
      clear A80
      by_cases c9:x3_1.length + t221.length < 140737488355328
      ·rw [if_pos c9] at H
       have LMc9:=Aside0.mk c9
       clear c9
       obtain ⟨y224,hy224⟩:∃ y_:List Int,y_ = (x3_1 ++ t221):=⟨_,rfl⟩
       replace H:((stockyardref01_Uint.f k1 (IntKind.u64.wrap ((rd_T39 l0 x4_1).f0))).bind fun t227=>(if y224.length + t227.length < 140737488355328 then (ref26_bytes.l0 k1 l0 (y224 ++ t227) (wrap64 (x4_1 + 1))) else (none))) = some r:=by first|(rw [hy224];with_reducible exact H)|(have H2_:=(Option.bind_some _ _).symm.trans H;rw [hy224];with_reducible exact H2_)|(have H2_:=(Option.bind_some _ _).symm.trans H;with_reducible exact H2_)|with_reducible exact H|(rw [hy224];exact H)|exact H
       have Ny224:=Aside0.mk hy224
       clear hy224
       replace H:=Option.bind_eq_some_iff.mp H
       obtain ⟨t227,A100,H⟩:=H
       replace H:(if y224.length + t227.length < 140737488355328 then (ref26_bytes.l0 k1 l0 (y224 ++ t227) (wrap64 (x4_1 + 1))) else (none)) = some r:=H
       have A10:=Aside0.mk A100
       clear A100
       by_cases c11:y224.length + t227.length < 140737488355328
       ·rw [if_pos c11] at H
        have LMc11:=Aside0.mk c11
        clear c11
        obtain ⟨y230,hy230⟩:∃ y_:List Int,y_ = (y224 ++ t227):=⟨_,rfl⟩
        replace H:(ref26_bytes.l0 k1 l0 y230 (wrap64 (x4_1 + 1))) = some r:=by first|(rw [hy230];with_reducible exact H)|(have H2_:=(Option.bind_some _ _).symm.trans H;rw [hy230];with_reducible exact H2_)|(have H2_:=(Option.bind_some _ _).symm.trans H;with_reducible exact H2_)|with_reducible exact H|(rw [hy230];exact H)|exact H
        have Ny230:=Aside0.mk hy230
        clear hy230
        have H':=Aside0.mk H
        clear H
        have p218:0 ≤ (x4_1:Int):=of_decide_eq_true (by first|(with_reducible assumption)|assumption)
        have q218:x4_1 < (l0.length:Int):=of_decide_eq_true (by first|(with_reducible assumption)|assumption)
        obtain ⟨ad218,A218_2,c218_2,e218,hx218_0,hx218_1,hx218_2,hl218_2,hi218_2⟩:=at_T39 HR0.out x4_1 p218 q218
        cases e218
        have hu218_2:=Aside0.mk hx218_2
        replace hx218_0:=(HB.out.cell (World.block_lt_of_cell? w _ hx218_0)).trans hx218_0
        replace hx218_1:=(HB.out.cell (World.block_lt_of_cell? w _ hx218_1)).trans hx218_1
        replace hx218_2:=(HB.out.cell (World.block_lt_of_cell? w _ hx218_2)).trans hx218_2
        have HR218_2:=Aside0.mk hi218_2
        have HC218_2:=Aside0.mk hl218_2
        clear hi218_2 hl218_2
        replace p218:=eq_true p218
        replace q218:=eq_true q218
        go_wp2_with (first|((with_reducible refine gate_dst (N:=5) rfl ?_);refine box_event ?hg (N:=5) ?hd (cs:=#[.int .i64 0,.int .i64 0,.slice none 0 0]) (t:=39) ?hr ?_;(case hd=>rfl);(case hg=>rfl);(case hr=>first|(go_simp;done)|(go_simp;rfl));intro gb219 hg w12 hbox hb;have n0_:=Aside0.mk (Kd.R_below (by (with_reducible repeat (first|apply Kd.R_alloc|apply Kd.R_drewN|apply Kd.R_drew));exact HO_3.out) hb);have n1_:=Aside0.mk (below_step (by repeat (first|(with_reducible first|exact HB.out|apply below_alloc|apply pw_below_drewN|apply below_drew1)|exact HB.out)) hb);have n2_:=Aside0.mk (hbox);have n3_:=Aside0.mk ((by rw [hg];exact (below_size (by repeat (first|(with_reducible first|exact HB.out|apply below_alloc|apply pw_below_drewN|apply below_drew1)|exact HB.out))):w.heap.size ≤ gb219));have n4_:=Aside0.mk ((by rw [hg];exact (below_size (by repeat (first|(with_reducible first|exact HB.out|apply below_alloc|apply pw_below_drewN|apply below_drew1)|exact HB.out))):w.heap.size ≤ gb219));clear HO_3;clear HB;have HO_3:=n0_;have HB:=n1_;have BK219:=n2_;have GW219:=n3_;have GE219:=n4_;clear n0_ n1_ n2_ n3_ n4_;clear hb hbox hg;have hcz13_0:w12.cell? ⟨gb219,0,none⟩ = some (.int .i64 0):=(blk_cell BK219.out 0).trans rfl;have hcz13_1:w12.cell? ⟨gb219,1,none⟩ = some (.int .i64 0):=(blk_cell BK219.out 1).trans rfl;have hcz13_2:w12.cell? ⟨gb219,2,none⟩ = some (.slice none 0 0):=(blk_cell BK219.out 2).trans rfl;have hfz13_0:=blk_frozen BK219.out 0;have hfz13_1:=blk_frozen BK219.out 1;have hfz13_2:=blk_frozen BK219.out 2)|((with_reducible refine gate_callee (f:=48) rfl ?_);refine goesL_ (some 21) rfl rfl Try.func48 (by kernel_rfl) rfl #[.agg #[.int .i64 ((rd_T39 l0 x4_1).f0),.int .i64 ((rd_T39 l0 x4_1).f1),.slice A218_2 ((rd_T39 l0 x4_1).f2).length c218_2]] rfl (by (try simp only [List.map_toArray,List.map_cons,List.map_nil]);first|done|rfl|(simp only [List.length_drop,List.length_take];rfl)) ?_;(with_reducible refine (ref26_Copies.calls ((rd_T39 l0 x4_1).f0) ((rd_T39 l0 x4_1).f1) _ _ ((rd_T39 l0 x4_1).f2) true _ ?side1 ?side2 A6.out).mono ?_);(case side1=>exact Kd.C_below HR218_2.out (by repeat (first|(with_reducible first|exact HB.out|apply below_alloc|apply pw_below_drewN|apply below_drew1|refine below_set ?_ GE219.out)|exact HB.out)));(case side2=>exact HC218_2.out);rintro e w14 ⟨rfl,hb⟩;refine ⟨_,rfl,?_⟩;have n0_:=Aside0.mk (Kd.R_below (by (with_reducible repeat (first|apply Kd.R_alloc|apply Kd.R_drewN|apply Kd.R_drew));exact (Kd.R_mono (Kd.R_far (p:=⟨gb219,2,none⟩) (Kd.R_far (p:=⟨gb219,1,none⟩) (Kd.R_far (p:=⟨gb219,0,none⟩) (Kd.R_types HO_3.out BK219.out (by decide)) (fun _ hk=>hk.2) (.int .i64 ((rd_T39 l0 x4_1).f0))) (fun _ hk=>hk.2) (.int .i64 ((rd_T39 l0 x4_1).f1))) (fun _ hk=>hk.2) (.slice A218_2 ((rd_T39 l0 x4_1).f2).length c218_2)) (fun _ h_=>h_.1))) hb);have n1_:=Aside0.mk (blk_below (g:=gb219) (o:=.cells #[.int .i64 ((rd_T39 l0 x4_1).f0),.int .i64 ((rd_T39 l0 x4_1).f1),.slice A218_2 ((rd_T39 l0 x4_1).f2).length c218_2] 39 (0,0)) (by (with_reducible repeat (first|refine blk_drewN ?_ _|refine blk_drew ?_|refine blk_alloc ?_ _));refine blk_put (cs:=#[.int .i64 ((rd_T39 l0 x4_1).f0),.int .i64 ((rd_T39 l0 x4_1).f1),.slice none 0 0]) ?_ 2 _ rfl;(with_reducible repeat (first|refine blk_drewN ?_ _|refine blk_drew ?_|refine blk_alloc ?_ _));refine blk_put (cs:=#[.int .i64 ((rd_T39 l0 x4_1).f0),.int .i64 0,.slice none 0 0]) ?_ 1 _ rfl;(with_reducible repeat (first|refine blk_drewN ?_ _|refine blk_drew ?_|refine blk_alloc ?_ _));refine blk_put (cs:=#[.int .i64 0,.int .i64 0,.slice none 0 0]) ?_ 0 _ rfl;(with_reducible repeat (first|refine blk_drewN ?_ _|refine blk_drew ?_|refine blk_alloc ?_ _));exact BK219.out) hb);have n2_:=Aside0.mk (below_step (by repeat (first|(with_reducible first|exact HB.out|apply below_alloc|apply pw_below_drewN|apply below_drew1|refine below_set ?_ GE219.out)|exact HB.out)) hb);clear HO_3;clear BK219;clear HB;have HO_3:=n0_;have BK219:=n1_;have HB:=n2_;clear n0_ n1_ n2_;(try clear hb);(try clear hb2);(try clear hk);(try clear hi);have hcz15_0:w14.cell? ⟨gb219,0,none⟩ = some (.int .i64 ((rd_T39 l0 x4_1).f0)):=(blk_cell BK219.out 0).trans rfl;have hcz15_1:w14.cell? ⟨gb219,1,none⟩ = some (.int .i64 ((rd_T39 l0 x4_1).f1)):=(blk_cell BK219.out 1).trans rfl;have hcz15_2:w14.cell? ⟨gb219,2,none⟩ = some (.slice A218_2 ((rd_T39 l0 x4_1).f2).length c218_2):=(blk_cell BK219.out 2).trans rfl;have hfz15_0:=blk_frozen BK219.out 0;have hfz15_1:=blk_frozen BK219.out 1;have hfz15_2:=blk_frozen BK219.out 2)|((with_reducible refine gate_callee (f:=59) rfl ?_);refine goesL_ (some 28) rfl rfl Try.func59 (by kernel_rfl) rfl #[.int .u64 (IntKind.u64.wrap ((IntKind.u64.wrap (2 * (IntKind.u64.wrap ((rd_T39 l0 x4_1).f1)))) + 1))] rfl (by (try simp only [List.map_toArray,List.map_cons,List.map_nil]);first|done|rfl|(simp only [List.length_drop,List.length_take];rfl)) ?_;(with_reducible refine (stockyardref01_Uint.calls k1 (IntKind.u64.wrap ((IntKind.u64.wrap (2 * (IntKind.u64.wrap ((rd_T39 l0 x4_1).f1)))) + 1)) t221 _ A8.out).mono ?_);rintro e w16 ⟨v222,rfl,ho0,hb⟩;refine ⟨_,rfl,?_⟩;have n0_:=Aside0.mk (Kd.R_elder' (by (with_reducible repeat (first|apply Kd.R_alloc|apply Kd.R_drewN|apply Kd.R_drew));exact HO_3.out) (Kd.R_base ho0) hb);have n1_:=Aside0.mk (Kd.R_lower (Kd.R_new' ho0 (Kd.R_lt (by (with_reducible repeat (first|apply Kd.R_alloc|apply Kd.R_drewN|apply Kd.R_drew));exact HO_3.out))) (below_size (by repeat (first|(with_reducible first|exact HB.out|apply below_alloc|apply pw_below_drewN|apply below_drew1|refine below_set ?_ GE219.out)|exact HB.out))));have n2_:=Aside0.mk (blk_below (g:=gb219) (o:=.cells #[.int .i64 ((rd_T39 l0 x4_1).f0),.int .i64 ((rd_T39 l0 x4_1).f1),.slice A218_2 ((rd_T39 l0 x4_1).f2).length c218_2] 39 (0,0)) (by (with_reducible repeat (first|refine blk_drewN ?_ _|refine blk_drew ?_|refine blk_alloc ?_ _));exact BK219.out) hb);have n3_:=Aside0.mk (below_step (by repeat (first|(with_reducible first|exact HB.out|apply below_alloc|apply pw_below_drewN|apply below_drew1|refine below_set ?_ GE219.out)|exact HB.out)) hb);clear HO_3;clear BK219;clear HB;have HO_3:=n0_;have HO223:=n1_;have BK219:=n2_;have HB:=n3_;clear n0_ n1_ n2_ n3_;(try clear hb);(try clear hb2);(try clear hk);(try clear hi);(try clear ho0);obtain ⟨Ao18,co18,eo18⟩:=Kd.R_slice HO223.out;subst eo18)|((with_reducible refine gate_builtin (b:=.append) (xs:=#[.tmp 22,.tmp 28]) rfl ?_);at_builtin;refine Kd.R_append_rows (Kd.int .u8) (w0:=w) w.heap.size rfl (.tmp 22) (.tmp 28) 26 5 (.int .u8 0) 1 rfl Try.underlying26 info5 rfl (by decide) (by omega) u3 x3_1 t221 _ _ _ (fun k_=>some k_ ≠ (.slice Ao18 t221.length co18:Value).ownBlock) (fun _=>False) rfl rfl ?aO ?aR (fun _ _ h=>h) (fun _ h=>h.elim) ?aF ?aB ?aS ?aL ?_;(case aR=>repeat (first|exact (Kd.R_reads' HO223.out).2.2|(with_reducible refine Kd.C_alloc ?_ _)|(with_reducible refine Kd.C_drewN ?_ _)|(with_reducible refine Kd.C_drew ?_)));(case aB=>exact (by repeat (first|(with_reducible first|exact HB.out|apply below_alloc|apply pw_below_drewN|apply below_drew1|refine below_set ?_ GE219.out)|exact HB.out)));(case aF=>exact (fun k_ hk=>Kd.fresh' (Kd.R_lt (by (with_reducible repeat (first|apply Kd.R_alloc|apply Kd.R_drewN|apply Kd.R_drew));exact HO223.out)) k_ hk));(case aO=>exact (by (with_reducible repeat (first|apply Kd.R_alloc|apply Kd.R_drewN|apply Kd.R_drew));exact Kd.R_mono HO_3.out (fun _ hk=>hk.2)));(case aS=>exact (below_size (by repeat (first|(with_reducible first|exact HB.out|apply below_alloc|apply pw_below_drewN|apply below_drew1|refine below_set ?_ GE219.out)|exact HB.out))));(case aL=>have:=LMc9.out;omega);intro v225 w17 ho hb hg hat;rw [← Ny224.out] at ho;have n0_:=Aside0.mk (blk_grown (g:=gb219) (o:=.cells #[.int .i64 ((rd_T39 l0 x4_1).f0),.int .i64 ((rd_T39 l0 x4_1).f1),.slice A218_2 ((rd_T39 l0 x4_1).f2).length c218_2] 39 (0,0)) (by (with_reducible repeat (first|refine blk_drewN ?_ _|refine blk_drew ?_|refine blk_alloc ?_ _));exact BK219.out) hg (Kd.R_ne HO_3.out BK219.out (by decide)));have n1_:=Aside0.mk (Kd.R_after (ok:=(fun _=>True)) (by (with_reducible repeat (first|apply Kd.R_alloc|apply Kd.R_drewN|apply Kd.R_drew));exact HO223.out) hg hat);have n2_:=Aside0.mk (hb);have n3_:=Aside0.mk (ho);clear BK219;clear HO223;clear HB;clear HO_3;have BK219:=n0_;have HO223:=n1_;have HB:=n2_;have HO226:=n3_;clear n0_ n1_ n2_ n3_;clear ho hb hg hat;have hcz19_0:w17.cell? ⟨gb219,0,none⟩ = some (.int .i64 ((rd_T39 l0 x4_1).f0)):=(blk_cell BK219.out 0).trans rfl;have hcz19_1:w17.cell? ⟨gb219,1,none⟩ = some (.int .i64 ((rd_T39 l0 x4_1).f1)):=(blk_cell BK219.out 1).trans rfl;have hcz19_2:w17.cell? ⟨gb219,2,none⟩ = some (.slice A218_2 ((rd_T39 l0 x4_1).f2).length c218_2):=(blk_cell BK219.out 2).trans rfl;have hfz19_0:=blk_frozen BK219.out 0;have hfz19_1:=blk_frozen BK219.out 1;have hfz19_2:=blk_frozen BK219.out 2)|((with_reducible refine gate_callee (f:=59) rfl ?_);refine goesL_ (some 34) rfl rfl Try.func59 (by kernel_rfl) rfl #[.int .u64 (IntKind.u64.wrap ((rd_T39 l0 x4_1).f0))] rfl (by (try simp only [List.map_toArray,List.map_cons,List.map_nil]);first|done|rfl|(simp only [List.length_drop,List.length_take];rfl)) ?_;(with_reducible refine (stockyardref01_Uint.calls k1 (IntKind.u64.wrap ((rd_T39 l0 x4_1).f0)) t227 _ A10.out).mono ?_);rintro e w20 ⟨v228,rfl,ho0,hb⟩;refine ⟨_,rfl,?_⟩;have n0_:=Aside0.mk (Kd.R_elder' (by (with_reducible repeat (first|apply Kd.R_alloc|apply Kd.R_drewN|apply Kd.R_drew));exact HO223.out) (Kd.R_base ho0) hb);have n1_:=Aside0.mk (Kd.R_elder' (by (with_reducible repeat (first|apply Kd.R_alloc|apply Kd.R_drewN|apply Kd.R_drew));exact HO226.out) (Kd.R_base ho0) hb);have n2_:=Aside0.mk (Kd.R_lower (Kd.R_new' (Kd.R_new' ho0 (Kd.R_lt (by (with_reducible repeat (first|apply Kd.R_alloc|apply Kd.R_drewN|apply Kd.R_drew));exact HO223.out))) (Kd.R_lt (by (with_reducible repeat (first|apply Kd.R_alloc|apply Kd.R_drewN|apply Kd.R_drew));exact HO226.out))) (below_size (by repeat (first|(with_reducible first|exact HB.out|apply below_alloc|apply pw_below_drewN|apply below_drew1|refine below_set ?_ GE219.out)|exact HB.out))));have n3_:=Aside0.mk (blk_below (g:=gb219) (o:=.cells #[.int .i64 ((rd_T39 l0 x4_1).f0),.int .i64 ((rd_T39 l0 x4_1).f1),.slice A218_2 ((rd_T39 l0 x4_1).f2).length c218_2] 39 (0,0)) (by (with_reducible repeat (first|refine blk_drewN ?_ _|refine blk_drew ?_|refine blk_alloc ?_ _));exact BK219.out) hb);have n4_:=Aside0.mk (below_step (by repeat (first|(with_reducible first|exact HB.out|apply below_alloc|apply pw_below_drewN|apply below_drew1|refine below_set ?_ GE219.out)|exact HB.out)) hb);clear HO223;clear HO226;clear BK219;clear HB;have HO223:=n0_;have HO226:=n1_;have HO229:=n2_;have BK219:=n3_;have HB:=n4_;clear n0_ n1_ n2_ n3_ n4_;(try clear hb);(try clear hb2);(try clear hk);(try clear hi);(try clear ho0);obtain ⟨Ao22,co22,eo22⟩:=Kd.R_slice HO229.out;subst eo22)|((with_reducible refine gate_builtin (b:=.append) (xs:=#[.tmp 30,.tmp 34]) rfl ?_);at_builtin;refine Kd.R_append_rows (Kd.int .u8) (w0:=w) w.heap.size rfl (.tmp 30) (.tmp 34) 26 5 (.int .u8 0) 1 rfl Try.underlying26 info5 rfl (by decide) (by omega) v225 y224 t227 _ _ _ (fun k_=>some k_ ≠ (.slice Ao18 t221.length co18:Value).ownBlock ∧ some k_ ≠ (.slice Ao22 t227.length co22:Value).ownBlock) (fun _=>False) rfl rfl ?aO ?aR (fun _ _ h=>h) (fun _ h=>h.elim) ?aF ?aB ?aS ?aL ?_;(case aR=>repeat (first|exact (Kd.R_reads' HO229.out).2.2|(with_reducible refine Kd.C_alloc ?_ _)|(with_reducible refine Kd.C_drewN ?_ _)|(with_reducible refine Kd.C_drew ?_)));(case aB=>exact (by repeat (first|(with_reducible first|exact HB.out|apply below_alloc|apply pw_below_drewN|apply below_drew1|refine below_set ?_ GE219.out)|exact HB.out)));(case aF=>exact (fun k_ hk=>⟨Kd.fresh' (Kd.R_lt (by (with_reducible repeat (first|apply Kd.R_alloc|apply Kd.R_drewN|apply Kd.R_drew));exact HO223.out)) k_ hk,Kd.fresh' (Kd.R_lt (by (with_reducible repeat (first|apply Kd.R_alloc|apply Kd.R_drewN|apply Kd.R_drew));exact HO229.out)) k_ hk⟩));(case aO=>exact (by (with_reducible repeat (first|apply Kd.R_alloc|apply Kd.R_drewN|apply Kd.R_drew));exact HO226.out));(case aS=>exact (below_size (by repeat (first|(with_reducible first|exact HB.out|apply below_alloc|apply pw_below_drewN|apply below_drew1|refine below_set ?_ GE219.out)|exact HB.out))));(case aL=>have:=LMc11.out;omega);intro v231 w21 ho hb hg hat;rw [← Ny230.out] at ho;have n0_:=Aside0.mk (blk_grown (g:=gb219) (o:=.cells #[.int .i64 ((rd_T39 l0 x4_1).f0),.int .i64 ((rd_T39 l0 x4_1).f1),.slice A218_2 ((rd_T39 l0 x4_1).f2).length c218_2] 39 (0,0)) (by (with_reducible repeat (first|refine blk_drewN ?_ _|refine blk_drew ?_|refine blk_alloc ?_ _));exact BK219.out) hg (Kd.R_ne HO226.out BK219.out (by decide)));have n1_:=Aside0.mk (Kd.R_after (ok:=(fun k_=>some k_ ≠ (.slice Ao22 t227.length co22:Value).ownBlock)) (by (with_reducible repeat (first|apply Kd.R_alloc|apply Kd.R_drewN|apply Kd.R_drew));exact Kd.R_mono HO223.out (fun _ hk=>⟨hk.2,hk.1.2⟩)) hg hat);have n2_:=Aside0.mk (Kd.R_after (ok:=(fun k_=>some k_ ≠ (.slice Ao18 t221.length co18:Value).ownBlock)) (by (with_reducible repeat (first|apply Kd.R_alloc|apply Kd.R_drewN|apply Kd.R_drew));exact Kd.R_mono HO229.out (fun _ hk=>⟨hk.1.2,hk.2⟩)) hg hat);have n3_:=Aside0.mk (hb);have n4_:=Aside0.mk (ho);clear BK219;clear HO223;clear HO229;clear HB;clear HO226;have BK219:=n0_;have HO223:=n1_;have HO229:=n2_;have HB:=n3_;have HO232:=n4_;clear n0_ n1_ n2_ n3_ n4_;clear ho hb hg hat))
        go_roundg k1
        case measure=>have:=HK1.out;omega
        case rel=>exact ⟨(y230),(wrap64 (x4_1 + 1)),(by first|rfl|(simp;done)|(simp [*];done)),H',⟨by have:=HK1.out;omega⟩,⟨by (with_reducible repeat (first|apply Kd.R_alloc|apply Kd.R_drewN|apply Kd.R_drew));exact Kd.R_mono HO232.out (fun _ hk=>trivial)⟩,⟨by repeat (first|(with_reducible first|exact HB.out|apply below_alloc|apply pw_below_drewN|apply below_drew1|refine below_set ?_ GE219.out)|exact HB.out)⟩⟩
       ·rw [if_neg c11] at H
        exact absurd H (by simp)
      ·rw [if_neg c9] at H
       exact absurd H (by simp)
     ·replace c7:=Bool.eq_false_iff.mpr c7
      subst c7
      have H1:((stockyardref01_Uint.f k1 (IntKind.u64.wrap (2 * (IntKind.u64.wrap ((((rd_T39 l0 x4_1).f2).length:Int)))))).bind fun t233=>(if x3_1.length + t233.length < 140737488355328 then ((some (x3_1 ++ t233:List Int)).bind fun y236=>(if y236.length + ((rd_T39 l0 x4_1).f2).length < 140737488355328 then (ref26_bytes.l0 k1 l0 (y236 ++ ((rd_T39 l0 x4_1).f2)) (wrap64 (x4_1 + 1))) else (none))) else (none))) = some r:=by rw [if_neg (show ¬ (false = true) by decide)] at H;exact H
      clear H
      have H:=H1
      clear H1
      replace H:=Option.bind_eq_some_iff.mp H
      obtain ⟨t233,A230,H⟩:=H
      replace H:(if x3_1.length + t233.length < 140737488355328 then ((some (x3_1 ++ t233:List Int)).bind fun y236=>(if y236.length + ((rd_T39 l0 x4_1).f2).length < 140737488355328 then (ref26_bytes.l0 k1 l0 (y236 ++ ((rd_T39 l0 x4_1).f2)) (wrap64 (x4_1 + 1))) else (none))) else (none)) = some r:=H
      have A23:=Aside0.mk A230
      clear A230
      by_cases c24:x3_1.length + t233.length < 140737488355328
      ·rw [if_pos c24] at H
       have LMc24:=Aside0.mk c24
       clear c24
       obtain ⟨y236,hy236⟩:∃ y_:List Int,y_ = (x3_1 ++ t233):=⟨_,rfl⟩
       replace H:(if y236.length + ((rd_T39 l0 x4_1).f2).length < 140737488355328 then (ref26_bytes.l0 k1 l0 (y236 ++ ((rd_T39 l0 x4_1).f2)) (wrap64 (x4_1 + 1))) else (none)) = some r:=by first|(rw [hy236];with_reducible exact H)|(have H2_:=(Option.bind_some _ _).symm.trans H;rw [hy236];with_reducible exact H2_)|(have H2_:=(Option.bind_some _ _).symm.trans H;with_reducible exact H2_)|with_reducible exact H|(rw [hy236];exact H)|exact H
       have Ny236:=Aside0.mk hy236
       clear hy236
       by_cases c25:y236.length + ((rd_T39 l0 x4_1).f2).length < 140737488355328
       ·rw [if_pos c25] at H
        have LMc25:=Aside0.mk c25
        clear c25
        obtain ⟨y239,hy239⟩:∃ y_:List Int,y_ = (y236 ++ ((rd_T39 l0 x4_1).f2)):=⟨_,rfl⟩
        replace H:(ref26_bytes.l0 k1 l0 y239 (wrap64 (x4_1 + 1))) = some r:=by first|(rw [hy239];with_reducible exact H)|(have H2_:=(Option.bind_some _ _).symm.trans H;rw [hy239];with_reducible exact H2_)|(have H2_:=(Option.bind_some _ _).symm.trans H;with_reducible exact H2_)|with_reducible exact H|(rw [hy239];exact H)|exact H
        have Ny239:=Aside0.mk hy239
        clear hy239
        have H':=Aside0.mk H
        clear H
        have p218:0 ≤ (x4_1:Int):=of_decide_eq_true (by first|(with_reducible assumption)|assumption)
        have q218:x4_1 < (l0.length:Int):=of_decide_eq_true (by first|(with_reducible assumption)|assumption)
        obtain ⟨ad218,A218_2,c218_2,e218,hx218_0,hx218_1,hx218_2,hl218_2,hi218_2⟩:=at_T39 HR0.out x4_1 p218 q218
        cases e218
        have hu218_2:=Aside0.mk hx218_2
        replace hx218_0:=(HB.out.cell (World.block_lt_of_cell? w _ hx218_0)).trans hx218_0
        replace hx218_1:=(HB.out.cell (World.block_lt_of_cell? w _ hx218_1)).trans hx218_1
        replace hx218_2:=(HB.out.cell (World.block_lt_of_cell? w _ hx218_2)).trans hx218_2
        have HR218_2:=Aside0.mk hi218_2
        have HC218_2:=Aside0.mk hl218_2
        clear hi218_2 hl218_2
        replace p218:=eq_true p218
        replace q218:=eq_true q218
        go_wp2_with (first|((with_reducible refine gate_dst (N:=5) rfl ?_);refine box_event ?hg (N:=5) ?hd (cs:=#[.int .i64 0,.int .i64 0,.slice none 0 0]) (t:=39) ?hr ?_;(case hd=>rfl);(case hg=>rfl);(case hr=>first|(go_simp;done)|(go_simp;rfl));intro gb219 hg w26 hbox hb;have n0_:=Aside0.mk (Kd.R_below (by (with_reducible repeat (first|apply Kd.R_alloc|apply Kd.R_drewN|apply Kd.R_drew));exact HO_3.out) hb);have n1_:=Aside0.mk (below_step (by repeat (first|(with_reducible first|exact HB.out|apply below_alloc|apply pw_below_drewN|apply below_drew1)|exact HB.out)) hb);have n2_:=Aside0.mk (hbox);have n3_:=Aside0.mk ((by rw [hg];exact (below_size (by repeat (first|(with_reducible first|exact HB.out|apply below_alloc|apply pw_below_drewN|apply below_drew1)|exact HB.out))):w.heap.size ≤ gb219));have n4_:=Aside0.mk ((by rw [hg];exact (below_size (by repeat (first|(with_reducible first|exact HB.out|apply below_alloc|apply pw_below_drewN|apply below_drew1)|exact HB.out))):w.heap.size ≤ gb219));clear HO_3;clear HB;have HO_3:=n0_;have HB:=n1_;have BK219:=n2_;have GW219:=n3_;have GE219:=n4_;clear n0_ n1_ n2_ n3_ n4_;clear hb hbox hg;have hcz27_0:w26.cell? ⟨gb219,0,none⟩ = some (.int .i64 0):=(blk_cell BK219.out 0).trans rfl;have hcz27_1:w26.cell? ⟨gb219,1,none⟩ = some (.int .i64 0):=(blk_cell BK219.out 1).trans rfl;have hcz27_2:w26.cell? ⟨gb219,2,none⟩ = some (.slice none 0 0):=(blk_cell BK219.out 2).trans rfl;have hfz27_0:=blk_frozen BK219.out 0;have hfz27_1:=blk_frozen BK219.out 1;have hfz27_2:=blk_frozen BK219.out 2)|((with_reducible refine gate_callee (f:=48) rfl ?_);refine goesL_ (some 21) rfl rfl Try.func48 (by kernel_rfl) rfl #[.agg #[.int .i64 ((rd_T39 l0 x4_1).f0),.int .i64 ((rd_T39 l0 x4_1).f1),.slice A218_2 ((rd_T39 l0 x4_1).f2).length c218_2]] rfl (by (try simp only [List.map_toArray,List.map_cons,List.map_nil]);first|done|rfl|(simp only [List.length_drop,List.length_take];rfl)) ?_;(with_reducible refine (ref26_Copies.calls ((rd_T39 l0 x4_1).f0) ((rd_T39 l0 x4_1).f1) _ _ ((rd_T39 l0 x4_1).f2) false _ ?side1 ?side2 A6.out).mono ?_);(case side1=>exact Kd.C_below HR218_2.out (by repeat (first|(with_reducible first|exact HB.out|apply below_alloc|apply pw_below_drewN|apply below_drew1|refine below_set ?_ GE219.out)|exact HB.out)));(case side2=>exact HC218_2.out);rintro e w28 ⟨rfl,hb⟩;refine ⟨_,rfl,?_⟩;have n0_:=Aside0.mk (Kd.R_below (by (with_reducible repeat (first|apply Kd.R_alloc|apply Kd.R_drewN|apply Kd.R_drew));exact (Kd.R_mono (Kd.R_far (p:=⟨gb219,2,none⟩) (Kd.R_far (p:=⟨gb219,1,none⟩) (Kd.R_far (p:=⟨gb219,0,none⟩) (Kd.R_types HO_3.out BK219.out (by decide)) (fun _ hk=>hk.2) (.int .i64 ((rd_T39 l0 x4_1).f0))) (fun _ hk=>hk.2) (.int .i64 ((rd_T39 l0 x4_1).f1))) (fun _ hk=>hk.2) (.slice A218_2 ((rd_T39 l0 x4_1).f2).length c218_2)) (fun _ h_=>h_.1))) hb);have n1_:=Aside0.mk (blk_below (g:=gb219) (o:=.cells #[.int .i64 ((rd_T39 l0 x4_1).f0),.int .i64 ((rd_T39 l0 x4_1).f1),.slice A218_2 ((rd_T39 l0 x4_1).f2).length c218_2] 39 (0,0)) (by (with_reducible repeat (first|refine blk_drewN ?_ _|refine blk_drew ?_|refine blk_alloc ?_ _));refine blk_put (cs:=#[.int .i64 ((rd_T39 l0 x4_1).f0),.int .i64 ((rd_T39 l0 x4_1).f1),.slice none 0 0]) ?_ 2 _ rfl;(with_reducible repeat (first|refine blk_drewN ?_ _|refine blk_drew ?_|refine blk_alloc ?_ _));refine blk_put (cs:=#[.int .i64 ((rd_T39 l0 x4_1).f0),.int .i64 0,.slice none 0 0]) ?_ 1 _ rfl;(with_reducible repeat (first|refine blk_drewN ?_ _|refine blk_drew ?_|refine blk_alloc ?_ _));refine blk_put (cs:=#[.int .i64 0,.int .i64 0,.slice none 0 0]) ?_ 0 _ rfl;(with_reducible repeat (first|refine blk_drewN ?_ _|refine blk_drew ?_|refine blk_alloc ?_ _));exact BK219.out) hb);have n2_:=Aside0.mk (below_step (by repeat (first|(with_reducible first|exact HB.out|apply below_alloc|apply pw_below_drewN|apply below_drew1|refine below_set ?_ GE219.out)|exact HB.out)) hb);clear HO_3;clear BK219;clear HB;have HO_3:=n0_;have BK219:=n1_;have HB:=n2_;clear n0_ n1_ n2_;(try clear hb);(try clear hb2);(try clear hk);(try clear hi);have hcz29_0:w28.cell? ⟨gb219,0,none⟩ = some (.int .i64 ((rd_T39 l0 x4_1).f0)):=(blk_cell BK219.out 0).trans rfl;have hcz29_1:w28.cell? ⟨gb219,1,none⟩ = some (.int .i64 ((rd_T39 l0 x4_1).f1)):=(blk_cell BK219.out 1).trans rfl;have hcz29_2:w28.cell? ⟨gb219,2,none⟩ = some (.slice A218_2 ((rd_T39 l0 x4_1).f2).length c218_2):=(blk_cell BK219.out 2).trans rfl;have hfz29_0:=blk_frozen BK219.out 0;have hfz29_1:=blk_frozen BK219.out 1;have hfz29_2:=blk_frozen BK219.out 2)|((with_reducible refine gate_callee (f:=59) rfl ?_);refine goesL_ (some 42) rfl rfl Try.func59 (by kernel_rfl) rfl #[.int .u64 (IntKind.u64.wrap (2 * (IntKind.u64.wrap ((((rd_T39 l0 x4_1).f2).length:Int)))))] rfl (by (try simp only [List.map_toArray,List.map_cons,List.map_nil]);first|done|rfl|(simp only [List.length_drop,List.length_take];rfl)) ?_;(with_reducible refine (stockyardref01_Uint.calls k1 (IntKind.u64.wrap (2 * (IntKind.u64.wrap ((((rd_T39 l0 x4_1).f2).length:Int))))) t233 _ A23.out).mono ?_);rintro e w30 ⟨v234,rfl,ho0,hb⟩;refine ⟨_,rfl,?_⟩;have n0_:=Aside0.mk (Kd.R_elder' (by (with_reducible repeat (first|apply Kd.R_alloc|apply Kd.R_drewN|apply Kd.R_drew));exact HO_3.out) (Kd.R_base ho0) hb);have n1_:=Aside0.mk (Kd.R_lower (Kd.R_new' ho0 (Kd.R_lt (by (with_reducible repeat (first|apply Kd.R_alloc|apply Kd.R_drewN|apply Kd.R_drew));exact HO_3.out))) (below_size (by repeat (first|(with_reducible first|exact HB.out|apply below_alloc|apply pw_below_drewN|apply below_drew1|refine below_set ?_ GE219.out)|exact HB.out))));have n2_:=Aside0.mk (blk_below (g:=gb219) (o:=.cells #[.int .i64 ((rd_T39 l0 x4_1).f0),.int .i64 ((rd_T39 l0 x4_1).f1),.slice A218_2 ((rd_T39 l0 x4_1).f2).length c218_2] 39 (0,0)) (by (with_reducible repeat (first|refine blk_drewN ?_ _|refine blk_drew ?_|refine blk_alloc ?_ _));exact BK219.out) hb);have n3_:=Aside0.mk (below_step (by repeat (first|(with_reducible first|exact HB.out|apply below_alloc|apply pw_below_drewN|apply below_drew1|refine below_set ?_ GE219.out)|exact HB.out)) hb);clear HO_3;clear BK219;clear HB;have HO_3:=n0_;have HO235:=n1_;have BK219:=n2_;have HB:=n3_;clear n0_ n1_ n2_ n3_;(try clear hb);(try clear hb2);(try clear hk);(try clear hi);(try clear ho0);obtain ⟨Ao32,co32,eo32⟩:=Kd.R_slice HO235.out;subst eo32)|((with_reducible refine gate_builtin (b:=.append) (xs:=#[.tmp 36,.tmp 42]) rfl ?_);at_builtin;refine Kd.R_append_rows (Kd.int .u8) (w0:=w) w.heap.size rfl (.tmp 36) (.tmp 42) 26 5 (.int .u8 0) 1 rfl Try.underlying26 info5 rfl (by decide) (by omega) u3 x3_1 t233 _ _ _ (fun k_=>some k_ ≠ (.slice Ao32 t233.length co32:Value).ownBlock) (fun _=>False) rfl rfl ?aO ?aR (fun _ _ h=>h) (fun _ h=>h.elim) ?aF ?aB ?aS ?aL ?_;(case aR=>repeat (first|exact (Kd.R_reads' HO235.out).2.2|(with_reducible refine Kd.C_alloc ?_ _)|(with_reducible refine Kd.C_drewN ?_ _)|(with_reducible refine Kd.C_drew ?_)));(case aB=>exact (by repeat (first|(with_reducible first|exact HB.out|apply below_alloc|apply pw_below_drewN|apply below_drew1|refine below_set ?_ GE219.out)|exact HB.out)));(case aF=>exact (fun k_ hk=>Kd.fresh' (Kd.R_lt (by (with_reducible repeat (first|apply Kd.R_alloc|apply Kd.R_drewN|apply Kd.R_drew));exact HO235.out)) k_ hk));(case aO=>exact (by (with_reducible repeat (first|apply Kd.R_alloc|apply Kd.R_drewN|apply Kd.R_drew));exact Kd.R_mono HO_3.out (fun _ hk=>hk.2)));(case aS=>exact (below_size (by repeat (first|(with_reducible first|exact HB.out|apply below_alloc|apply pw_below_drewN|apply below_drew1|refine below_set ?_ GE219.out)|exact HB.out))));(case aL=>have:=LMc24.out;omega);intro v237 w31 ho hb hg hat;rw [← Ny236.out] at ho;have n0_:=Aside0.mk (blk_grown (g:=gb219) (o:=.cells #[.int .i64 ((rd_T39 l0 x4_1).f0),.int .i64 ((rd_T39 l0 x4_1).f1),.slice A218_2 ((rd_T39 l0 x4_1).f2).length c218_2] 39 (0,0)) (by (with_reducible repeat (first|refine blk_drewN ?_ _|refine blk_drew ?_|refine blk_alloc ?_ _));exact BK219.out) hg (Kd.R_ne HO_3.out BK219.out (by decide)));have n1_:=Aside0.mk (Kd.R_after (ok:=(fun _=>True)) (by (with_reducible repeat (first|apply Kd.R_alloc|apply Kd.R_drewN|apply Kd.R_drew));exact HO235.out) hg hat);have n2_:=Aside0.mk (hb);have n3_:=Aside0.mk (ho);clear BK219;clear HO235;clear HB;clear HO_3;have BK219:=n0_;have HO235:=n1_;have HB:=n2_;have HO238:=n3_;clear n0_ n1_ n2_ n3_;clear ho hb hg hat;have hcz33_0:w31.cell? ⟨gb219,0,none⟩ = some (.int .i64 ((rd_T39 l0 x4_1).f0)):=(blk_cell BK219.out 0).trans rfl;have hcz33_1:w31.cell? ⟨gb219,1,none⟩ = some (.int .i64 ((rd_T39 l0 x4_1).f1)):=(blk_cell BK219.out 1).trans rfl;have hcz33_2:w31.cell? ⟨gb219,2,none⟩ = some (.slice A218_2 ((rd_T39 l0 x4_1).f2).length c218_2):=(blk_cell BK219.out 2).trans rfl;have hfz33_0:=blk_frozen BK219.out 0;have hfz33_1:=blk_frozen BK219.out 1;have hfz33_2:=blk_frozen BK219.out 2)|((with_reducible refine gate_builtin (b:=.append) (xs:=#[.tmp 44,.tmp 46]) rfl ?_);at_builtin;refine Kd.R_append_rows (Kd.int .u8) (w0:=w) w.heap.size rfl (.tmp 44) (.tmp 46) 26 5 (.int .u8 0) 1 rfl Try.underlying26 info5 rfl (by decide) (by omega) v237 y236 ((rd_T39 l0 x4_1).f2) _ _ _ (fun k_=>some k_ ≠ (.slice Ao32 t233.length co32:Value).ownBlock) (fun _=>False) rfl rfl ?aO ?aR (fun _ _ h=>h) (fun _ h=>h.elim) ?aF ?aB ?aS ?aL ?_;(case aR=>repeat (first|exact (Kd.C_below HR218_2.out HB.out)|(with_reducible refine Kd.C_alloc ?_ _)|(with_reducible refine Kd.C_drewN ?_ _)|(with_reducible refine Kd.C_drew ?_)));(case aB=>exact (by repeat (first|(with_reducible first|exact HB.out|apply below_alloc|apply pw_below_drewN|apply below_drew1|refine below_set ?_ GE219.out)|exact HB.out)));(case aF=>exact (fun k_ hk=>Kd.fresh' (Kd.R_lt (by (with_reducible repeat (first|apply Kd.R_alloc|apply Kd.R_drewN|apply Kd.R_drew));exact HO235.out)) k_ hk));(case aO=>exact (by (with_reducible repeat (first|apply Kd.R_alloc|apply Kd.R_drewN|apply Kd.R_drew));exact HO238.out));(case aS=>exact (below_size (by repeat (first|(with_reducible first|exact HB.out|apply below_alloc|apply pw_below_drewN|apply below_drew1|refine below_set ?_ GE219.out)|exact HB.out))));(case aL=>have:=LMc25.out;omega);intro v240 w34 ho hb hg hat;rw [← Ny239.out] at ho;have n0_:=Aside0.mk (blk_grown (g:=gb219) (o:=.cells #[.int .i64 ((rd_T39 l0 x4_1).f0),.int .i64 ((rd_T39 l0 x4_1).f1),.slice A218_2 ((rd_T39 l0 x4_1).f2).length c218_2] 39 (0,0)) (by (with_reducible repeat (first|refine blk_drewN ?_ _|refine blk_drew ?_|refine blk_alloc ?_ _));exact BK219.out) hg (Kd.R_ne HO238.out BK219.out (by decide)));have n1_:=Aside0.mk (Kd.R_after (ok:=(fun _=>True)) (by (with_reducible repeat (first|apply Kd.R_alloc|apply Kd.R_drewN|apply Kd.R_drew));exact HO235.out) hg hat);have n2_:=Aside0.mk (hb);have n3_:=Aside0.mk (ho);clear BK219;clear HO235;clear HB;clear HO238;have BK219:=n0_;have HO235:=n1_;have HB:=n2_;have HO241:=n3_;clear n0_ n1_ n2_ n3_;clear ho hb hg hat))
        go_roundg k1
        case measure=>have:=HK1.out;omega
        case rel=>exact ⟨(y239),(wrap64 (x4_1 + 1)),(by first|rfl|(simp;done)|(simp [*];done)),H',⟨by have:=HK1.out;omega⟩,⟨by (with_reducible repeat (first|apply Kd.R_alloc|apply Kd.R_drewN|apply Kd.R_drew));exact Kd.R_mono HO241.out (fun _ hk=>trivial)⟩,⟨by repeat (first|(with_reducible first|exact HB.out|apply below_alloc|apply pw_below_drewN|apply below_drew1|refine below_set ?_ GE219.out)|exact HB.out)⟩⟩
       ·rw [if_neg c25] at H
        exact absurd H (by simp)
      ·rw [if_neg c24] at H
       exact absurd H (by simp)
    ·rw [if_neg c5] at H
     exact absurd H (by simp)
   ·rw [if_neg c4] at H
    have c4b0:decide (x4_1 < (l0.length:Int)) = false:=decide_eq_false c4
    clear c4
    obtain rfl:=Option.some.inj H
    go_wp2
    go_ret
    exact ⟨_,by first|rfl|(simp [errW_none,errW_some] <;> rfl)|(simp [*,errW_none,errW_some] <;> rfl),by (with_reducible repeat (first|apply Kd.R_alloc|apply Kd.R_drewN|apply Kd.R_drew));exact HO_3.out,by repeat (first|(with_reducible first|exact HB.out|apply below_alloc|apply pw_below_drewN|apply below_drew1)|exact HB.out)⟩

end Go.Proofs.Ytjckjcekapkkjaa.P
