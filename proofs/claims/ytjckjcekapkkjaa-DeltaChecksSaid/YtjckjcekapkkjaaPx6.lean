-- WRITTEN BY myprint.py (wip/tools) for this seat
import Derived.Test.YtjckjcekapkkjaaPx0
import Derived.Test.YtjckjcekapkkjaaPx5
namespace Go.Proofs.Ytjckjcekapkkjaa.P
open Go.RowKit Go.Proofs.YtjckjcekapkkjaaW.PrintWords Go.Proofs.YtjckjcekapkkjaaW.PrintLast Go.Proofs.YtjckjcekapkkjaaW.PrintMore
attribute [local go_sem] max2_int min2_int max_two min_two max_three min_three max_four min_four   -- for this text's walks alone
set_option linter.unusedVariables false
set_option linter.unusedSimpArgs false

/-! ### ref26_Check: function 24 -/
mutual
def ref26_Check.j0:Nat → Int → List (S39) → Bool → Option (Int × Int)
 | 0,_,_,_=>none
 | k + 1,x0,x1,x14=>if x14 = true then (some (0,262)) else (if (x1.length:Int) > 4096 then (some (0,263)) else (ref26_Check.l0 k x0 x1 0 0))
def ref26_Check.l0:Nat → Int → List (S39) → Int → Int → Option (Int × Int)
 | 0,_,_,_,_=>none
 | k + 1,x0,x1,x6,x7=>if x7 < (x1.length:Int) then (if 0 ≤ x7 then ((ref26_Copies.f ((rd_T39 x1 x7).f0) ((rd_T39 x1 x7).f1) ((rd_T39 x1 x7).f2)).bind fun t208=>(if t208 = true then (ref26_Check.j2 k x0 x1 x6 x7 false ((rd_T39 x1 x7).f0) ((rd_T39 x1 x7).f1) ((rd_T39 x1 x7).f2)) else ((ref26_Literal.f ((rd_T39 x1 x7).f0) ((rd_T39 x1 x7).f1) ((rd_T39 x1 x7).f2)).bind fun t209=>(ref26_Check.j2 k x0 x1 x6 x7 (!t209) ((rd_T39 x1 x7).f0) ((rd_T39 x1 x7).f1) ((rd_T39 x1 x7).f2))))) else (none)) else (some (x6,0))
def ref26_Check.j2:Nat → Int → List (S39) → Int → Int → Bool → Int → Int → List Int → Option (Int × Int)
 | 0,_,_,_,_,_,_,_,_=>none
 | k + 1,x0,x1,x6,x7,x35,x208000,x208001,x208002=>if x35 = true then (some (0,260)) else ((ref26_Copies.f x208000 x208001 x208002).bind fun t210=>(if t210 = true then (if x208000 < 0 then (ref26_Check.j3 k x0 x1 x6 x7 true x208000 x208001 x208002) else (if x208000 > x0 then (ref26_Check.j3 k x0 x1 x6 x7 true x208000 x208001 x208002) else (ref26_Check.j3 k x0 x1 x6 x7 (decide (x208001 > (wrap64 (x0 - x208000)))) x208000 x208001 x208002))) else (ref26_Check.j3 k x0 x1 x6 x7 false x208000 x208001 x208002)))
def ref26_Check.j3:Nat → Int → List (S39) → Int → Int → Bool → Int → Int → List Int → Option (Int × Int)
 | 0,_,_,_,_,_,_,_,_=>none
 | k + 1,x0,x1,x6,x7,x57,x208000,x208001,x208002=>if x57 = true then (some (0,261)) else (if (wrap64 (x6 + (wrap64 (x208001 + (x208002.length:Int))))) > 1048576 then (some (0,262)) else (ref26_Check.l0 k x0 x1 (wrap64 (x6 + (wrap64 (x208001 + (x208002.length:Int))))) (wrap64 (x7 + 1))))
end
def ref26_Check.f (k:Nat) (a0:Int) (l1:List (S39)):Option (Int × Int):=if a0 < 0 then (ref26_Check.j0 k a0 l1 true) else (ref26_Check.j0 k a0 l1 (decide (a0 > 1048576)))
set_option maxHeartbeats 8000000 in
set_option maxRecDepth 100000 in
theorem ref26_Check.calls (k:Nat) (a0:Int) (A1:Option Addr) (c1:Nat) (l1:List (S39)) (r1:Int) (r2:Int) (w:World) (hr1:Kd.C k39 w A1 l1.length l1) (hc1:l1.length ≤ c1) (h:ref26_Check.f k a0 l1 = some (r1,r2)) :
  Calls Try.prog 24 #[.int .i64 a0,.slice A1 l1.length c1] w fun e w'=>e = .returned (.tuple #[.int .i64 r1,.int .i64 r2]) ∧ Below w.heap.size w w':=by
 have hu39:=Try.underlying39
 have HR1:=Aside0.mk hr1
 have HC1:=Aside0.mk hc1
 clear hr1 hc1
 have HB:=Aside0.mk (Below.refl w.heap.size w)
 have H:(if a0 < 0 then (ref26_Check.j0 k a0 l1 true) else (ref26_Check.j0 k a0 l1 (decide (a0 > 1048576)))) = some (r1,r2):=h
 clear h
 have HC3:=Aside0.mk H
 clear H
 go_enter Try.func24,Try.ntmps24
 go_upto_region 1 with (fail)
 go_cut [14] (fun v14 wc=>∃ (kq:Nat) (x14_2:Bool),v14 = .bool x14_2 ∧ Aside0 (ref26_Check.j0 kq a0 l1 x14_2 = some (r1,r2)) ∧ Aside0 (kq ≤ k) ∧ Aside0 (Below w.heap.size w wc))
 case first =>
  have H:=HC3.out
  clear HC3
  by_cases c4:a0 < 0
  ·rw [if_pos c4] at H
   have c4b0:decide (a0 < 0) = true:=decide_eq_true c4
   clear c4
   (first|rw [c4b0]|(simp only [i64_w,i32_w];rw [c4b0])|skip)
   have H':=Aside0.mk H
   clear H
   go_wp2
   go_meet
   case rel=>exact ⟨_,(true),(by first|rfl|(simp;done)|(simp [*];done)),H',⟨by first|omega|exact Nat.le_refl _⟩,⟨by repeat (first|(with_reducible first|exact HB.out|apply below_alloc|apply pw_below_drewN|apply below_drew1)|exact HB.out)⟩⟩
  ·rw [if_neg c4] at H
   have c4b0:decide (a0 < 0) = false:=decide_eq_false c4
   clear c4
   (first|rw [c4b0]|(simp only [i64_w,i32_w];rw [c4b0])|skip)
   have H':=Aside0.mk H
   clear H
   go_wp2
   go_meet
   case rel=>exact ⟨_,(decide (a0 > 1048576)),(by first|rfl|(simp;done)|(simp [*];done)),H',⟨by first|omega|exact Nat.le_refl _⟩,⟨by repeat (first|(with_reducible first|exact HB.out|apply below_alloc|apply pw_below_drewN|apply below_drew1)|exact HB.out)⟩⟩
 case rest =>
  clear HC3
  try clear c1
  try clear c2
  try clear p2
  try clear c4
  try clear c4b0
  obtain ⟨kq,x14_2,rfl,HA,HJ2,HB⟩:=hcut
  cases kq with
  | zero=>exact absurd HA.out (by simp [ref26_Check.j0])
  | succ kj2 =>
   have H:=HA.out
   clear HA
   simp only [ref26_Check.j0] at H
   by_cases c5:x14_2 = true
   ·subst c5
    have H1:(some (0,262)) = some (r1,r2):=by rw [if_pos rfl] at H;exact H
    clear H
    have H:=H1
    clear H1
    simp only [Option.some.injEq,Prod.mk.injEq] at H
    obtain ⟨rfl,rfl⟩:=H
    go_wp2
    go_ret2
    exact ⟨by first|rfl|(simp [errW_none,errW_some] <;> rfl)|(simp [*,errW_none,errW_some] <;> rfl),by repeat (first|(with_reducible first|exact HB.out|apply below_alloc|apply pw_below_drewN|apply below_drew1)|exact HB.out)⟩
   ·replace c5:=Bool.eq_false_iff.mpr c5
    subst c5
    have H1:(if (l1.length:Int) > 4096 then (some (0,263)) else (ref26_Check.l0 kj2 a0 l1 0 0)) = some (r1,r2):=by rw [if_neg (show ¬ (false = true) by decide)] at H;exact H
    clear H
    have H:=H1
    clear H1
    by_cases c6:(l1.length:Int) > 4096
    ·rw [if_pos c6] at H
     have c6b0:decide (4096 < (l1.length:Int)) = true:=decide_eq_true c6
     have c6b1:decide (4096 < l1.length) = true:=decide_eq_true (by omega)
     clear c6
     simp only [Option.some.injEq,Prod.mk.injEq] at H
     obtain ⟨rfl,rfl⟩:=H
     go_wp2
     go_ret2
     exact ⟨by first|rfl|(simp [errW_none,errW_some] <;> rfl)|(simp [*,errW_none,errW_some] <;> rfl),by repeat (first|(with_reducible first|exact HB.out|apply below_alloc|apply pw_below_drewN|apply below_drew1)|exact HB.out)⟩
    ·rw [if_neg c6] at H
     have c6b0:decide (4096 < (l1.length:Int)) = false:=decide_eq_false c6
     have c6b1:decide (4096 < l1.length) = false:=decide_eq_false (by omega)
     clear c6
     have H':=Aside0.mk H
     clear H
     go_wp2
     go_loopg [6,7] kj2 (fun kq v6 v7 w'=>∃ (x6_2:Int) (x7_2:Int),v6 = .int .i64 x6_2 ∧ v7 = .int .i64 x7_2 ∧ Aside0 (ref26_Check.l0 kq a0 l1 x6_2 x7_2 = some (r1,r2)) ∧ Aside0 (kq ≤ kj2) ∧ Aside0 (Below w.heap.size w w'))
     case atStart=>exact ⟨(0),(0),(by first|rfl|(simp;done)|(simp [*];done)),(by first|rfl|(simp;done)|(simp [*];done)),H',⟨Nat.le_refl _⟩,⟨by repeat (first|(with_reducible first|exact HB.out|apply below_alloc|apply pw_below_drewN|apply below_drew1)|exact HB.out)⟩⟩
     case round =>
      clear H'
      try clear c1
      try clear c2
      try clear p2
      try clear c4
      try clear c4b0
      try clear c5
      try clear c6
      try clear c6b0
      try clear c6b1
      try clear p2
      obtain ⟨x6_2,x7_2,rfl,rfl,HA,HK2,HB⟩:=hrel
      cases gk with
      | zero=>exact absurd HA.out (by simp [ref26_Check.l0])
      | succ k2 =>
       have H:=HA.out
       clear HA
       simp only [ref26_Check.l0] at H
       by_cases c7:x7_2 < (l1.length:Int)
       ·rw [if_pos c7] at H
        have c7b0:decide (x7_2 < (l1.length:Int)) = true:=decide_eq_true c7
        clear c7
        by_cases c8:0 ≤ x7_2
        ·rw [if_pos c8] at H
         have c8b0:decide (0 ≤ x7_2) = true:=decide_eq_true c8
         clear c8
         have HC9:=Aside0.mk H
         clear H
         have p206:0 ≤ (x7_2:Int):=of_decide_eq_true (by first|(with_reducible assumption)|assumption)
         have q206:x7_2 < (l1.length:Int):=of_decide_eq_true (by first|(with_reducible assumption)|assumption)
         obtain ⟨ad206,A206_2,c206_2,e206,hx206_0,hx206_1,hx206_2,hl206_2,hi206_2⟩:=at_T39 HR1.out x7_2 p206 q206
         cases e206
         have hu206_2:=Aside0.mk hx206_2
         replace hx206_0:=(HB.out.cell (World.block_lt_of_cell? w _ hx206_0)).trans hx206_0
         replace hx206_1:=(HB.out.cell (World.block_lt_of_cell? w _ hx206_1)).trans hx206_1
         replace hx206_2:=(HB.out.cell (World.block_lt_of_cell? w _ hx206_2)).trans hx206_2
         have HR206_2:=Aside0.mk hi206_2
         have HC206_2:=Aside0.mk hl206_2
         clear hi206_2 hl206_2
         replace p206:=eq_true p206
         replace q206:=eq_true q206
         go_upto_region 10 with (first|((with_reducible refine gate_dst (N:=8) rfl ?_);refine box_event ?hg (N:=8) ?hd (cs:=#[.int .i64 0,.int .i64 0,.slice none 0 0]) (t:=39) ?hr ?_;(case hd=>rfl);(case hg=>rfl);(case hr=>first|(go_simp;done)|(go_simp;rfl));intro gb207 hg w10 hbox hb;have n0_:=Aside0.mk (below_step (by repeat (first|(with_reducible first|exact HB.out|apply below_alloc|apply pw_below_drewN|apply below_drew1)|exact HB.out)) hb);have n1_:=Aside0.mk (hbox);have n2_:=Aside0.mk ((by rw [hg];exact (below_size (by repeat (first|(with_reducible first|exact HB.out|apply below_alloc|apply pw_below_drewN|apply below_drew1)|exact HB.out))):w.heap.size ≤ gb207));have n3_:=Aside0.mk ((by rw [hg];exact (below_size (by repeat (first|(with_reducible first|exact HB.out|apply below_alloc|apply pw_below_drewN|apply below_drew1)|exact HB.out))):w.heap.size ≤ gb207));clear HB;have HB:=n0_;have BK207:=n1_;have GW207:=n2_;have GE207:=n3_;clear n0_ n1_ n2_ n3_;clear hb hbox hg;have hcz11_0:w10.cell? ⟨gb207,0,none⟩ = some (.int .i64 0):=(blk_cell BK207.out 0).trans rfl;have hcz11_1:w10.cell? ⟨gb207,1,none⟩ = some (.int .i64 0):=(blk_cell BK207.out 1).trans rfl;have hcz11_2:w10.cell? ⟨gb207,2,none⟩ = some (.slice none 0 0):=(blk_cell BK207.out 2).trans rfl;have hfz11_0:=blk_frozen BK207.out 0;have hfz11_1:=blk_frozen BK207.out 1;have hfz11_2:=blk_frozen BK207.out 2))
         (try simp only [Act.put,List.setIfInBounds_toArray,List.set_cons_zero,List.set_cons_succ])
         go_cut [35] (fun v35 wc=>∃ (kq:Nat) (x35_8:Bool),v35 = .bool x35_8 ∧ Aside0 (ref26_Check.j2 kq a0 l1 x6_2 x7_2 x35_8 ((rd_T39 l1 x7_2).f0) ((rd_T39 l1 x7_2).f1) ((rd_T39 l1 x7_2).f2) = some (r1,r2)) ∧ Aside0 (kq ≤ k2) ∧ Aside0 (wc.heap[gb207]? = some (.cells #[.int .i64 ((rd_T39 l1 x7_2).f0),.int .i64 ((rd_T39 l1 x7_2).f1),(.slice A206_2 ((rd_T39 l1 x7_2).f2).length c206_2)] 39 (0,0))) ∧ Aside0 (Below w.heap.size w wc))
         case first =>
          have H:=HC9.out
          clear HC9
          replace H:=Option.bind_eq_some_iff.mp H
          obtain ⟨t208,A120,H⟩:=H
          replace H:(if t208 = true then (ref26_Check.j2 k2 a0 l1 x6_2 x7_2 false ((rd_T39 l1 x7_2).f0) ((rd_T39 l1 x7_2).f1) ((rd_T39 l1 x7_2).f2)) else ((ref26_Literal.f ((rd_T39 l1 x7_2).f0) ((rd_T39 l1 x7_2).f1) ((rd_T39 l1 x7_2).f2)).bind fun t209=>(ref26_Check.j2 k2 a0 l1 x6_2 x7_2 (!t209) ((rd_T39 l1 x7_2).f0) ((rd_T39 l1 x7_2).f1) ((rd_T39 l1 x7_2).f2)))) = some (r1,r2):=H
          have A12:=Aside0.mk A120
          clear A120
          by_cases c13:t208 = true
          ·subst c13
           have H1:(ref26_Check.j2 k2 a0 l1 x6_2 x7_2 false ((rd_T39 l1 x7_2).f0) ((rd_T39 l1 x7_2).f1) ((rd_T39 l1 x7_2).f2)) = some (r1,r2):=by rw [if_pos rfl] at H;exact H
           clear H
           have H:=H1
           clear H1
           have H':=Aside0.mk H
           clear H
           have hcz14_0:w10.cell? ⟨gb207,0,none⟩ = some (.int .i64 0):=(blk_cell BK207.out 0).trans rfl
           have hcz14_1:w10.cell? ⟨gb207,1,none⟩ = some (.int .i64 0):=(blk_cell BK207.out 1).trans rfl
           have hcz14_2:w10.cell? ⟨gb207,2,none⟩ = some (.slice none 0 0):=(blk_cell BK207.out 2).trans rfl
           have hfz14_0:=blk_frozen BK207.out 0
           have hfz14_1:=blk_frozen BK207.out 1
           have hfz14_2:=blk_frozen BK207.out 2
           go_wp2_with (first|((with_reducible refine gate_callee (f:=48) rfl ?_);refine goesL_ (some 29) rfl rfl Try.func48 (by kernel_rfl) rfl #[.agg #[.int .i64 ((rd_T39 l1 x7_2).f0),.int .i64 ((rd_T39 l1 x7_2).f1),.slice A206_2 ((rd_T39 l1 x7_2).f2).length c206_2]] rfl (by (try simp only [List.map_toArray,List.map_cons,List.map_nil]);first|done|rfl|(simp only [List.length_drop,List.length_take];rfl)) ?_;(with_reducible refine (ref26_Copies.calls ((rd_T39 l1 x7_2).f0) ((rd_T39 l1 x7_2).f1) _ _ ((rd_T39 l1 x7_2).f2) true _ ?side1 ?side2 A12.out).mono ?_);(case side1=>exact Kd.C_below HR206_2.out (by repeat (first|(with_reducible first|exact HB.out|apply below_alloc|apply pw_below_drewN|apply below_drew1|refine below_set ?_ GE207.out)|exact HB.out)));(case side2=>exact HC206_2.out);rintro e w15 ⟨rfl,hb⟩;refine ⟨_,rfl,?_⟩;have n0_:=Aside0.mk (blk_below (g:=gb207) (o:=.cells #[.int .i64 ((rd_T39 l1 x7_2).f0),.int .i64 ((rd_T39 l1 x7_2).f1),.slice A206_2 ((rd_T39 l1 x7_2).f2).length c206_2] 39 (0,0)) (by (with_reducible repeat (first|refine blk_drewN ?_ _|refine blk_drew ?_|refine blk_alloc ?_ _));refine blk_put (cs:=#[.int .i64 ((rd_T39 l1 x7_2).f0),.int .i64 ((rd_T39 l1 x7_2).f1),.slice none 0 0]) ?_ 2 _ rfl;(with_reducible repeat (first|refine blk_drewN ?_ _|refine blk_drew ?_|refine blk_alloc ?_ _));refine blk_put (cs:=#[.int .i64 ((rd_T39 l1 x7_2).f0),.int .i64 0,.slice none 0 0]) ?_ 1 _ rfl;(with_reducible repeat (first|refine blk_drewN ?_ _|refine blk_drew ?_|refine blk_alloc ?_ _));refine blk_put (cs:=#[.int .i64 0,.int .i64 0,.slice none 0 0]) ?_ 0 _ rfl;(with_reducible repeat (first|refine blk_drewN ?_ _|refine blk_drew ?_|refine blk_alloc ?_ _));exact BK207.out) hb);have n1_:=Aside0.mk (below_step (by repeat (first|(with_reducible first|exact HB.out|apply below_alloc|apply pw_below_drewN|apply below_drew1|refine below_set ?_ GE207.out)|exact HB.out)) hb);clear BK207;clear HB;have BK207:=n0_;have HB:=n1_;clear n0_ n1_;(try clear hb);(try clear hb2);(try clear hk);(try clear hi)))
           go_meet
           case rel=>exact ⟨_,(false),(by first|rfl|(simp;done)|(simp [*];done)),H',⟨by have:=HJ2.out;have:=HK2.out;first|omega|exact Nat.le_refl _⟩,⟨by (with_reducible repeat (first|refine blk_drewN ?_ _|refine blk_drew ?_|refine blk_alloc ?_ _));exact BK207.out⟩,⟨by repeat (first|(with_reducible first|exact HB.out|apply below_alloc|apply pw_below_drewN|apply below_drew1|refine below_set ?_ GE207.out)|exact HB.out)⟩⟩
          ·replace c13:=Bool.eq_false_iff.mpr c13
           subst c13
           have H1:((ref26_Literal.f ((rd_T39 l1 x7_2).f0) ((rd_T39 l1 x7_2).f1) ((rd_T39 l1 x7_2).f2)).bind fun t209=>(ref26_Check.j2 k2 a0 l1 x6_2 x7_2 (!t209) ((rd_T39 l1 x7_2).f0) ((rd_T39 l1 x7_2).f1) ((rd_T39 l1 x7_2).f2))) = some (r1,r2):=by rw [if_neg (show ¬ (false = true) by decide)] at H;exact H
           clear H
           have H:=H1
           clear H1
           replace H:=Option.bind_eq_some_iff.mp H
           obtain ⟨t209,A160,H⟩:=H
           replace H:(ref26_Check.j2 k2 a0 l1 x6_2 x7_2 (!t209) ((rd_T39 l1 x7_2).f0) ((rd_T39 l1 x7_2).f1) ((rd_T39 l1 x7_2).f2)) = some (r1,r2):=H
           have A16:=Aside0.mk A160
           clear A160
           have H':=Aside0.mk H
           clear H
           have hcz17_0:w10.cell? ⟨gb207,0,none⟩ = some (.int .i64 0):=(blk_cell BK207.out 0).trans rfl
           have hcz17_1:w10.cell? ⟨gb207,1,none⟩ = some (.int .i64 0):=(blk_cell BK207.out 1).trans rfl
           have hcz17_2:w10.cell? ⟨gb207,2,none⟩ = some (.slice none 0 0):=(blk_cell BK207.out 2).trans rfl
           have hfz17_0:=blk_frozen BK207.out 0
           have hfz17_1:=blk_frozen BK207.out 1
           have hfz17_2:=blk_frozen BK207.out 2
           go_wp2_with (first|((with_reducible refine gate_callee (f:=48) rfl ?_);refine goesL_ (some 29) rfl rfl Try.func48 (by kernel_rfl) rfl #[.agg #[.int .i64 ((rd_T39 l1 x7_2).f0),.int .i64 ((rd_T39 l1 x7_2).f1),.slice A206_2 ((rd_T39 l1 x7_2).f2).length c206_2]] rfl (by (try simp only [List.map_toArray,List.map_cons,List.map_nil]);first|done|rfl|(simp only [List.length_drop,List.length_take];rfl)) ?_;(with_reducible refine (ref26_Copies.calls ((rd_T39 l1 x7_2).f0) ((rd_T39 l1 x7_2).f1) _ _ ((rd_T39 l1 x7_2).f2) false _ ?side1 ?side2 A12.out).mono ?_);(case side1=>exact Kd.C_below HR206_2.out (by repeat (first|(with_reducible first|exact HB.out|apply below_alloc|apply pw_below_drewN|apply below_drew1|refine below_set ?_ GE207.out)|exact HB.out)));(case side2=>exact HC206_2.out);rintro e w18 ⟨rfl,hb⟩;refine ⟨_,rfl,?_⟩;have n0_:=Aside0.mk (blk_below (g:=gb207) (o:=.cells #[.int .i64 ((rd_T39 l1 x7_2).f0),.int .i64 ((rd_T39 l1 x7_2).f1),.slice A206_2 ((rd_T39 l1 x7_2).f2).length c206_2] 39 (0,0)) (by (with_reducible repeat (first|refine blk_drewN ?_ _|refine blk_drew ?_|refine blk_alloc ?_ _));refine blk_put (cs:=#[.int .i64 ((rd_T39 l1 x7_2).f0),.int .i64 ((rd_T39 l1 x7_2).f1),.slice none 0 0]) ?_ 2 _ rfl;(with_reducible repeat (first|refine blk_drewN ?_ _|refine blk_drew ?_|refine blk_alloc ?_ _));refine blk_put (cs:=#[.int .i64 ((rd_T39 l1 x7_2).f0),.int .i64 0,.slice none 0 0]) ?_ 1 _ rfl;(with_reducible repeat (first|refine blk_drewN ?_ _|refine blk_drew ?_|refine blk_alloc ?_ _));refine blk_put (cs:=#[.int .i64 0,.int .i64 0,.slice none 0 0]) ?_ 0 _ rfl;(with_reducible repeat (first|refine blk_drewN ?_ _|refine blk_drew ?_|refine blk_alloc ?_ _));exact BK207.out) hb);have n1_:=Aside0.mk (below_step (by repeat (first|(with_reducible first|exact HB.out|apply below_alloc|apply pw_below_drewN|apply below_drew1|refine below_set ?_ GE207.out)|exact HB.out)) hb);clear BK207;clear HB;have BK207:=n0_;have HB:=n1_;clear n0_ n1_;(try clear hb);(try clear hb2);(try clear hk);(try clear hi);have hcz19_0:w18.cell? ⟨gb207,0,none⟩ = some (.int .i64 ((rd_T39 l1 x7_2).f0)):=(blk_cell BK207.out 0).trans rfl;have hcz19_1:w18.cell? ⟨gb207,1,none⟩ = some (.int .i64 ((rd_T39 l1 x7_2).f1)):=(blk_cell BK207.out 1).trans rfl;have hcz19_2:w18.cell? ⟨gb207,2,none⟩ = some (.slice A206_2 ((rd_T39 l1 x7_2).f2).length c206_2):=(blk_cell BK207.out 2).trans rfl;have hfz19_0:=blk_frozen BK207.out 0;have hfz19_1:=blk_frozen BK207.out 1;have hfz19_2:=blk_frozen BK207.out 2)|(go_at_call 49;(with_reducible refine (ref26_Literal.calls ((rd_T39 l1 x7_2).f0) ((rd_T39 l1 x7_2).f1) _ _ ((rd_T39 l1 x7_2).f2) t209 _ ?side1 ?side2 A16.out).mono ?_);(case side1=>repeat (first|exact (Kd.C_below HR206_2.out HB.out)|(with_reducible refine Kd.C_alloc ?_ _)|(with_reducible refine Kd.C_drewN ?_ _)|(with_reducible refine Kd.C_drew ?_)));(case side2=>exact HC206_2.out);rintro e w20 ⟨rfl,hb⟩;have n0_:=Aside0.mk (blk_below (g:=gb207) (o:=.cells #[.int .i64 ((rd_T39 l1 x7_2).f0),.int .i64 ((rd_T39 l1 x7_2).f1),.slice A206_2 ((rd_T39 l1 x7_2).f2).length c206_2] 39 (0,0)) (by (with_reducible repeat (first|refine blk_drewN ?_ _|refine blk_drew ?_|refine blk_alloc ?_ _));exact BK207.out) hb);have n1_:=Aside0.mk (below_step (by repeat (first|(with_reducible first|exact HB.out|apply below_alloc|apply pw_below_drewN|apply below_drew1|refine below_set ?_ GE207.out)|exact HB.out)) hb);clear BK207;clear HB;have BK207:=n0_;have HB:=n1_;clear n0_ n1_;(try clear hb);(try clear hb2);(try clear hk);(try clear hi)))
           go_meet
           case rel=>exact ⟨_,(!t209),(by first|rfl|(simp;done)|(simp [*];done)),H',⟨by have:=HJ2.out;have:=HK2.out;first|omega|exact Nat.le_refl _⟩,⟨by (with_reducible repeat (first|refine blk_drewN ?_ _|refine blk_drew ?_|refine blk_alloc ?_ _));exact BK207.out⟩,⟨by repeat (first|(with_reducible first|exact HB.out|apply below_alloc|apply pw_below_drewN|apply below_drew1|refine below_set ?_ GE207.out)|exact HB.out)⟩⟩
         case rest =>
          clear HC9
          try clear c1
          try clear c2
          try clear p2
          try clear q2
          try clear hx2
          try clear c4
          try clear c4b0
          try clear c5
          try clear c6
          try clear c6b0
          try clear c6b1
          try clear c7
          try clear c7b0
          try clear c8
          try clear c8b0
          try clear c13
          try clear c20
          try clear p20
          try clear q20
          try clear hx20
          try clear hcz11_0
          try clear hcz11_1
          try clear hcz11_2
          try clear hcz14_0
          try clear hcz14_1
          try clear hcz14_2
          try clear hcz17_0
          try clear hcz17_1
          try clear hcz17_2
          try clear hcz19_0
          try clear hcz19_1
          try clear hcz19_2
          try clear hfz11_0
          try clear hfz11_1
          try clear hfz11_2
          try clear hfz14_0
          try clear hfz14_1
          try clear hfz14_2
          try clear hfz17_0
          try clear hfz17_1
          try clear hfz17_2
          try clear hfz19_0
          try clear hfz19_1
          try clear hfz19_2
          try clear hx206_0
          try clear hx206_1
          try clear hx206_2
          try clear p2
          try clear p206
          try clear q206
          obtain ⟨kq,x35_8,rfl,HA,HJ8,BK207,HB⟩:=hcut
          cases kq with
          | zero=>exact absurd HA.out (by simp [ref26_Check.j2])
          | succ kj8 =>
           have H:=HA.out
           clear HA
           simp only [ref26_Check.j2] at H
           by_cases c21:x35_8 = true
           ·subst c21
            have H1:(some (0,260)) = some (r1,r2):=by rw [if_pos rfl] at H;exact H
            clear H
            have H:=H1
            clear H1
            simp only [Option.some.injEq,Prod.mk.injEq] at H
            obtain ⟨rfl,rfl⟩:=H
            go_wp2
            go_ret2
            exact ⟨by first|rfl|(simp [errW_none,errW_some] <;> rfl)|(simp [*,errW_none,errW_some] <;> rfl),by repeat (first|(with_reducible first|exact HB.out|apply below_alloc|apply pw_below_drewN|apply below_drew1|refine below_set ?_ GE207.out)|exact HB.out)⟩
           ·replace c21:=Bool.eq_false_iff.mpr c21
            subst c21
            have H1:((ref26_Copies.f ((rd_T39 l1 x7_2).f0) ((rd_T39 l1 x7_2).f1) ((rd_T39 l1 x7_2).f2)).bind fun t210=>(if t210 = true then (if ((rd_T39 l1 x7_2).f0) < 0 then (ref26_Check.j3 kj8 a0 l1 x6_2 x7_2 true ((rd_T39 l1 x7_2).f0) ((rd_T39 l1 x7_2).f1) ((rd_T39 l1 x7_2).f2)) else (if ((rd_T39 l1 x7_2).f0) > a0 then (ref26_Check.j3 kj8 a0 l1 x6_2 x7_2 true ((rd_T39 l1 x7_2).f0) ((rd_T39 l1 x7_2).f1) ((rd_T39 l1 x7_2).f2)) else (ref26_Check.j3 kj8 a0 l1 x6_2 x7_2 (decide (((rd_T39 l1 x7_2).f1) > (wrap64 (a0 - ((rd_T39 l1 x7_2).f0))))) ((rd_T39 l1 x7_2).f0) ((rd_T39 l1 x7_2).f1) ((rd_T39 l1 x7_2).f2)))) else (ref26_Check.j3 kj8 a0 l1 x6_2 x7_2 false ((rd_T39 l1 x7_2).f0) ((rd_T39 l1 x7_2).f1) ((rd_T39 l1 x7_2).f2)))) = some (r1,r2):=by rw [if_neg (show ¬ (false = true) by decide)] at H;exact H
            clear H
            have H:=H1
            clear H1
            have HC22:=Aside0.mk H
            clear H
            go_upto_region 12 with (fail)
            go_cut [57] (fun v57 wc=>∃ (kq:Nat) (x57_21:Bool),v57 = .bool x57_21 ∧ Aside0 (ref26_Check.j3 kq a0 l1 x6_2 x7_2 x57_21 ((rd_T39 l1 x7_2).f0) ((rd_T39 l1 x7_2).f1) ((rd_T39 l1 x7_2).f2) = some (r1,r2)) ∧ Aside0 (kq ≤ kj8) ∧ Aside0 (wc.heap[gb207]? = some (.cells #[.int .i64 ((rd_T39 l1 x7_2).f0),.int .i64 ((rd_T39 l1 x7_2).f1),(.slice A206_2 ((rd_T39 l1 x7_2).f2).length c206_2)] 39 (0,0))) ∧ Aside0 (Below w.heap.size w wc))
            case first =>
             have H:=HC22.out
             clear HC22
             replace H:=Option.bind_eq_some_iff.mp H
             obtain ⟨t210,A230,H⟩:=H
             replace H:(if t210 = true then (if ((rd_T39 l1 x7_2).f0) < 0 then (ref26_Check.j3 kj8 a0 l1 x6_2 x7_2 true ((rd_T39 l1 x7_2).f0) ((rd_T39 l1 x7_2).f1) ((rd_T39 l1 x7_2).f2)) else (if ((rd_T39 l1 x7_2).f0) > a0 then (ref26_Check.j3 kj8 a0 l1 x6_2 x7_2 true ((rd_T39 l1 x7_2).f0) ((rd_T39 l1 x7_2).f1) ((rd_T39 l1 x7_2).f2)) else (ref26_Check.j3 kj8 a0 l1 x6_2 x7_2 (decide (((rd_T39 l1 x7_2).f1) > (wrap64 (a0 - ((rd_T39 l1 x7_2).f0))))) ((rd_T39 l1 x7_2).f0) ((rd_T39 l1 x7_2).f1) ((rd_T39 l1 x7_2).f2)))) else (ref26_Check.j3 kj8 a0 l1 x6_2 x7_2 false ((rd_T39 l1 x7_2).f0) ((rd_T39 l1 x7_2).f1) ((rd_T39 l1 x7_2).f2))) = some (r1,r2):=H
             have A23:=Aside0.mk A230
             clear A230
             by_cases c24:t210 = true
             ·subst c24
              have H1:(if ((rd_T39 l1 x7_2).f0) < 0 then (ref26_Check.j3 kj8 a0 l1 x6_2 x7_2 true ((rd_T39 l1 x7_2).f0) ((rd_T39 l1 x7_2).f1) ((rd_T39 l1 x7_2).f2)) else (if ((rd_T39 l1 x7_2).f0) > a0 then (ref26_Check.j3 kj8 a0 l1 x6_2 x7_2 true ((rd_T39 l1 x7_2).f0) ((rd_T39 l1 x7_2).f1) ((rd_T39 l1 x7_2).f2)) else (ref26_Check.j3 kj8 a0 l1 x6_2 x7_2 (decide (((rd_T39 l1 x7_2).f1) > (wrap64 (a0 - ((rd_T39 l1 x7_2).f0))))) ((rd_T39 l1 x7_2).f0) ((rd_T39 l1 x7_2).f1) ((rd_T39 l1 x7_2).f2)))) = some (r1,r2):=by rw [if_pos rfl] at H;exact H
              clear H
              have H:=H1
              clear H1
              by_cases c25:((rd_T39 l1 x7_2).f0) < 0
              ·rw [if_pos c25] at H
               have c25b0:decide (((rd_T39 l1 x7_2).f0) < 0) = true:=decide_eq_true c25
               clear c25
               (first|rw [c25b0]|(simp only [i64_w,i32_w];rw [c25b0])|skip)
               have H':=Aside0.mk H
               clear H
               have hcz26_0:wc.cell? ⟨gb207,0,none⟩ = some (.int .i64 ((rd_T39 l1 x7_2).f0)):=(blk_cell BK207.out 0).trans rfl
               have hcz26_1:wc.cell? ⟨gb207,1,none⟩ = some (.int .i64 ((rd_T39 l1 x7_2).f1)):=(blk_cell BK207.out 1).trans rfl
               have hcz26_2:wc.cell? ⟨gb207,2,none⟩ = some (.slice A206_2 ((rd_T39 l1 x7_2).f2).length c206_2):=(blk_cell BK207.out 2).trans rfl
               have hfz26_0:=blk_frozen BK207.out 0
               have hfz26_1:=blk_frozen BK207.out 1
               have hfz26_2:=blk_frozen BK207.out 2
               go_wp2_with (first|((with_reducible refine gate_callee (f:=48) rfl ?_);refine goesL_ (some 37) rfl rfl Try.func48 (by kernel_rfl) rfl #[.agg #[.int .i64 ((rd_T39 l1 x7_2).f0),.int .i64 ((rd_T39 l1 x7_2).f1),.slice A206_2 ((rd_T39 l1 x7_2).f2).length c206_2]] rfl (by (try simp only [List.map_toArray,List.map_cons,List.map_nil]);first|done|rfl|(simp only [List.length_drop,List.length_take];rfl)) ?_;(with_reducible refine (ref26_Copies.calls ((rd_T39 l1 x7_2).f0) ((rd_T39 l1 x7_2).f1) _ _ ((rd_T39 l1 x7_2).f2) true _ ?side1 ?side2 A23.out).mono ?_);(case side1=>repeat (first|exact (Kd.C_below HR206_2.out HB.out)|(with_reducible refine Kd.C_alloc ?_ _)|(with_reducible refine Kd.C_drewN ?_ _)|(with_reducible refine Kd.C_drew ?_)));(case side2=>exact HC206_2.out);rintro e w27 ⟨rfl,hb⟩;refine ⟨_,rfl,?_⟩;have n0_:=Aside0.mk (blk_below (g:=gb207) (o:=.cells #[.int .i64 ((rd_T39 l1 x7_2).f0),.int .i64 ((rd_T39 l1 x7_2).f1),.slice A206_2 ((rd_T39 l1 x7_2).f2).length c206_2] 39 (0,0)) (by (with_reducible repeat (first|refine blk_drewN ?_ _|refine blk_drew ?_|refine blk_alloc ?_ _));exact BK207.out) hb);have n1_:=Aside0.mk (below_step (by repeat (first|(with_reducible first|exact HB.out|apply below_alloc|apply pw_below_drewN|apply below_drew1|refine below_set ?_ GE207.out)|exact HB.out)) hb);clear BK207;clear HB;have BK207:=n0_;have HB:=n1_;clear n0_ n1_;(try clear hb);(try clear hb2);(try clear hk);(try clear hi);have hcz28_0:w27.cell? ⟨gb207,0,none⟩ = some (.int .i64 ((rd_T39 l1 x7_2).f0)):=(blk_cell BK207.out 0).trans rfl;have hcz28_1:w27.cell? ⟨gb207,1,none⟩ = some (.int .i64 ((rd_T39 l1 x7_2).f1)):=(blk_cell BK207.out 1).trans rfl;have hcz28_2:w27.cell? ⟨gb207,2,none⟩ = some (.slice A206_2 ((rd_T39 l1 x7_2).f2).length c206_2):=(blk_cell BK207.out 2).trans rfl;have hfz28_0:=blk_frozen BK207.out 0;have hfz28_1:=blk_frozen BK207.out 1;have hfz28_2:=blk_frozen BK207.out 2))
               go_meet
               case rel=>exact ⟨_,(true),(by first|rfl|(simp;done)|(simp [*];done)),H',⟨by have:=HJ2.out;have:=HK2.out;have:=HJ8.out;first|omega|exact Nat.le_refl _⟩,⟨by (with_reducible repeat (first|refine blk_drewN ?_ _|refine blk_drew ?_|refine blk_alloc ?_ _));exact BK207.out⟩,⟨by repeat (first|(with_reducible first|exact HB.out|apply below_alloc|apply pw_below_drewN|apply below_drew1|refine below_set ?_ GE207.out)|exact HB.out)⟩⟩
              ·rw [if_neg c25] at H
               have c25b0:decide (((rd_T39 l1 x7_2).f0) < 0) = false:=decide_eq_false c25
               clear c25
               (first|rw [c25b0]|(simp only [i64_w,i32_w];rw [c25b0])|skip)
               by_cases c29:((rd_T39 l1 x7_2).f0) > a0
               ·rw [if_pos c29] at H
                have c29b0:decide (a0 < ((rd_T39 l1 x7_2).f0)) = true:=decide_eq_true c29
                clear c29
                have H':=Aside0.mk H
                clear H
                have hcz30_0:wc.cell? ⟨gb207,0,none⟩ = some (.int .i64 ((rd_T39 l1 x7_2).f0)):=(blk_cell BK207.out 0).trans rfl
                have hcz30_1:wc.cell? ⟨gb207,1,none⟩ = some (.int .i64 ((rd_T39 l1 x7_2).f1)):=(blk_cell BK207.out 1).trans rfl
                have hcz30_2:wc.cell? ⟨gb207,2,none⟩ = some (.slice A206_2 ((rd_T39 l1 x7_2).f2).length c206_2):=(blk_cell BK207.out 2).trans rfl
                have hfz30_0:=blk_frozen BK207.out 0
                have hfz30_1:=blk_frozen BK207.out 1
                have hfz30_2:=blk_frozen BK207.out 2
                go_wp2_with (first|((with_reducible refine gate_callee (f:=48) rfl ?_);refine goesL_ (some 37) rfl rfl Try.func48 (by kernel_rfl) rfl #[.agg #[.int .i64 ((rd_T39 l1 x7_2).f0),.int .i64 ((rd_T39 l1 x7_2).f1),.slice A206_2 ((rd_T39 l1 x7_2).f2).length c206_2]] rfl (by (try simp only [List.map_toArray,List.map_cons,List.map_nil]);first|done|rfl|(simp only [List.length_drop,List.length_take];rfl)) ?_;(with_reducible refine (ref26_Copies.calls ((rd_T39 l1 x7_2).f0) ((rd_T39 l1 x7_2).f1) _ _ ((rd_T39 l1 x7_2).f2) true _ ?side1 ?side2 A23.out).mono ?_);(case side1=>repeat (first|exact (Kd.C_below HR206_2.out HB.out)|(with_reducible refine Kd.C_alloc ?_ _)|(with_reducible refine Kd.C_drewN ?_ _)|(with_reducible refine Kd.C_drew ?_)));(case side2=>exact HC206_2.out);rintro e w31 ⟨rfl,hb⟩;refine ⟨_,rfl,?_⟩;have n0_:=Aside0.mk (blk_below (g:=gb207) (o:=.cells #[.int .i64 ((rd_T39 l1 x7_2).f0),.int .i64 ((rd_T39 l1 x7_2).f1),.slice A206_2 ((rd_T39 l1 x7_2).f2).length c206_2] 39 (0,0)) (by (with_reducible repeat (first|refine blk_drewN ?_ _|refine blk_drew ?_|refine blk_alloc ?_ _));exact BK207.out) hb);have n1_:=Aside0.mk (below_step (by repeat (first|(with_reducible first|exact HB.out|apply below_alloc|apply pw_below_drewN|apply below_drew1|refine below_set ?_ GE207.out)|exact HB.out)) hb);clear BK207;clear HB;have BK207:=n0_;have HB:=n1_;clear n0_ n1_;(try clear hb);(try clear hb2);(try clear hk);(try clear hi);have hcz32_0:w31.cell? ⟨gb207,0,none⟩ = some (.int .i64 ((rd_T39 l1 x7_2).f0)):=(blk_cell BK207.out 0).trans rfl;have hcz32_1:w31.cell? ⟨gb207,1,none⟩ = some (.int .i64 ((rd_T39 l1 x7_2).f1)):=(blk_cell BK207.out 1).trans rfl;have hcz32_2:w31.cell? ⟨gb207,2,none⟩ = some (.slice A206_2 ((rd_T39 l1 x7_2).f2).length c206_2):=(blk_cell BK207.out 2).trans rfl;have hfz32_0:=blk_frozen BK207.out 0;have hfz32_1:=blk_frozen BK207.out 1;have hfz32_2:=blk_frozen BK207.out 2))
                go_meet
                case rel=>exact ⟨_,(true),(by first|rfl|(simp;done)|(simp [*];done)),H',⟨by have:=HJ2.out;have:=HK2.out;have:=HJ8.out;first|omega|exact Nat.le_refl _⟩,⟨by (with_reducible repeat (first|refine blk_drewN ?_ _|refine blk_drew ?_|refine blk_alloc ?_ _));exact BK207.out⟩,⟨by repeat (first|(with_reducible first|exact HB.out|apply below_alloc|apply pw_below_drewN|apply below_drew1|refine below_set ?_ GE207.out)|exact HB.out)⟩⟩
               ·rw [if_neg c29] at H
                have c29b0:decide (a0 < ((rd_T39 l1 x7_2).f0)) = false:=decide_eq_false c29
                clear c29
                have H':=Aside0.mk H
                clear H
                have hcz33_0:wc.cell? ⟨gb207,0,none⟩ = some (.int .i64 ((rd_T39 l1 x7_2).f0)):=(blk_cell BK207.out 0).trans rfl
                have hcz33_1:wc.cell? ⟨gb207,1,none⟩ = some (.int .i64 ((rd_T39 l1 x7_2).f1)):=(blk_cell BK207.out 1).trans rfl
                have hcz33_2:wc.cell? ⟨gb207,2,none⟩ = some (.slice A206_2 ((rd_T39 l1 x7_2).f2).length c206_2):=(blk_cell BK207.out 2).trans rfl
                have hfz33_0:=blk_frozen BK207.out 0
                have hfz33_1:=blk_frozen BK207.out 1
                have hfz33_2:=blk_frozen BK207.out 2
                go_wp2_with (first|((with_reducible refine gate_callee (f:=48) rfl ?_);refine goesL_ (some 37) rfl rfl Try.func48 (by kernel_rfl) rfl #[.agg #[.int .i64 ((rd_T39 l1 x7_2).f0),.int .i64 ((rd_T39 l1 x7_2).f1),.slice A206_2 ((rd_T39 l1 x7_2).f2).length c206_2]] rfl (by (try simp only [List.map_toArray,List.map_cons,List.map_nil]);first|done|rfl|(simp only [List.length_drop,List.length_take];rfl)) ?_;(with_reducible refine (ref26_Copies.calls ((rd_T39 l1 x7_2).f0) ((rd_T39 l1 x7_2).f1) _ _ ((rd_T39 l1 x7_2).f2) true _ ?side1 ?side2 A23.out).mono ?_);(case side1=>repeat (first|exact (Kd.C_below HR206_2.out HB.out)|(with_reducible refine Kd.C_alloc ?_ _)|(with_reducible refine Kd.C_drewN ?_ _)|(with_reducible refine Kd.C_drew ?_)));(case side2=>exact HC206_2.out);rintro e w34 ⟨rfl,hb⟩;refine ⟨_,rfl,?_⟩;have n0_:=Aside0.mk (blk_below (g:=gb207) (o:=.cells #[.int .i64 ((rd_T39 l1 x7_2).f0),.int .i64 ((rd_T39 l1 x7_2).f1),.slice A206_2 ((rd_T39 l1 x7_2).f2).length c206_2] 39 (0,0)) (by (with_reducible repeat (first|refine blk_drewN ?_ _|refine blk_drew ?_|refine blk_alloc ?_ _));exact BK207.out) hb);have n1_:=Aside0.mk (below_step (by repeat (first|(with_reducible first|exact HB.out|apply below_alloc|apply pw_below_drewN|apply below_drew1|refine below_set ?_ GE207.out)|exact HB.out)) hb);clear BK207;clear HB;have BK207:=n0_;have HB:=n1_;clear n0_ n1_;(try clear hb);(try clear hb2);(try clear hk);(try clear hi);have hcz35_0:w34.cell? ⟨gb207,0,none⟩ = some (.int .i64 ((rd_T39 l1 x7_2).f0)):=(blk_cell BK207.out 0).trans rfl;have hcz35_1:w34.cell? ⟨gb207,1,none⟩ = some (.int .i64 ((rd_T39 l1 x7_2).f1)):=(blk_cell BK207.out 1).trans rfl;have hcz35_2:w34.cell? ⟨gb207,2,none⟩ = some (.slice A206_2 ((rd_T39 l1 x7_2).f2).length c206_2):=(blk_cell BK207.out 2).trans rfl;have hfz35_0:=blk_frozen BK207.out 0;have hfz35_1:=blk_frozen BK207.out 1;have hfz35_2:=blk_frozen BK207.out 2))
                go_meet
                case rel=>exact ⟨_,(decide (((rd_T39 l1 x7_2).f1) > (wrap64 (a0 - ((rd_T39 l1 x7_2).f0))))),(by first|rfl|(simp;done)|(simp [*];done)),H',⟨by have:=HJ2.out;have:=HK2.out;have:=HJ8.out;first|omega|exact Nat.le_refl _⟩,⟨by (with_reducible repeat (first|refine blk_drewN ?_ _|refine blk_drew ?_|refine blk_alloc ?_ _));exact BK207.out⟩,⟨by repeat (first|(with_reducible first|exact HB.out|apply below_alloc|apply pw_below_drewN|apply below_drew1|refine below_set ?_ GE207.out)|exact HB.out)⟩⟩
             ·replace c24:=Bool.eq_false_iff.mpr c24
              subst c24
              have H1:(ref26_Check.j3 kj8 a0 l1 x6_2 x7_2 false ((rd_T39 l1 x7_2).f0) ((rd_T39 l1 x7_2).f1) ((rd_T39 l1 x7_2).f2)) = some (r1,r2):=by rw [if_neg (show ¬ (false = true) by decide)] at H;exact H
              clear H
              have H:=H1
              clear H1
              have H':=Aside0.mk H
              clear H
              have hcz36_0:wc.cell? ⟨gb207,0,none⟩ = some (.int .i64 ((rd_T39 l1 x7_2).f0)):=(blk_cell BK207.out 0).trans rfl
              have hcz36_1:wc.cell? ⟨gb207,1,none⟩ = some (.int .i64 ((rd_T39 l1 x7_2).f1)):=(blk_cell BK207.out 1).trans rfl
              have hcz36_2:wc.cell? ⟨gb207,2,none⟩ = some (.slice A206_2 ((rd_T39 l1 x7_2).f2).length c206_2):=(blk_cell BK207.out 2).trans rfl
              have hfz36_0:=blk_frozen BK207.out 0
              have hfz36_1:=blk_frozen BK207.out 1
              have hfz36_2:=blk_frozen BK207.out 2
              go_wp2_with (first|((with_reducible refine gate_callee (f:=48) rfl ?_);refine goesL_ (some 37) rfl rfl Try.func48 (by kernel_rfl) rfl #[.agg #[.int .i64 ((rd_T39 l1 x7_2).f0),.int .i64 ((rd_T39 l1 x7_2).f1),.slice A206_2 ((rd_T39 l1 x7_2).f2).length c206_2]] rfl (by (try simp only [List.map_toArray,List.map_cons,List.map_nil]);first|done|rfl|(simp only [List.length_drop,List.length_take];rfl)) ?_;(with_reducible refine (ref26_Copies.calls ((rd_T39 l1 x7_2).f0) ((rd_T39 l1 x7_2).f1) _ _ ((rd_T39 l1 x7_2).f2) false _ ?side1 ?side2 A23.out).mono ?_);(case side1=>repeat (first|exact (Kd.C_below HR206_2.out HB.out)|(with_reducible refine Kd.C_alloc ?_ _)|(with_reducible refine Kd.C_drewN ?_ _)|(with_reducible refine Kd.C_drew ?_)));(case side2=>exact HC206_2.out);rintro e w37 ⟨rfl,hb⟩;refine ⟨_,rfl,?_⟩;have n0_:=Aside0.mk (blk_below (g:=gb207) (o:=.cells #[.int .i64 ((rd_T39 l1 x7_2).f0),.int .i64 ((rd_T39 l1 x7_2).f1),.slice A206_2 ((rd_T39 l1 x7_2).f2).length c206_2] 39 (0,0)) (by (with_reducible repeat (first|refine blk_drewN ?_ _|refine blk_drew ?_|refine blk_alloc ?_ _));exact BK207.out) hb);have n1_:=Aside0.mk (below_step (by repeat (first|(with_reducible first|exact HB.out|apply below_alloc|apply pw_below_drewN|apply below_drew1|refine below_set ?_ GE207.out)|exact HB.out)) hb);clear BK207;clear HB;have BK207:=n0_;have HB:=n1_;clear n0_ n1_;(try clear hb);(try clear hb2);(try clear hk);(try clear hi)))
              go_meet
              case rel=>exact ⟨_,(false),(by first|rfl|(simp;done)|(simp [*];done)),H',⟨by have:=HJ2.out;have:=HK2.out;have:=HJ8.out;first|omega|exact Nat.le_refl _⟩,⟨by (with_reducible repeat (first|refine blk_drewN ?_ _|refine blk_drew ?_|refine blk_alloc ?_ _));exact BK207.out⟩,⟨by repeat (first|(with_reducible first|exact HB.out|apply below_alloc|apply pw_below_drewN|apply below_drew1|refine below_set ?_ GE207.out)|exact HB.out)⟩⟩
            case rest =>
             clear HC22
             try clear c1
             try clear c2
             try clear p2
             try clear q2
             try clear hx2
             try clear c4
             try clear c4b0
             try clear c5
             try clear c6
             try clear c6b0
             try clear c6b1
             try clear p6
             try clear c7
             try clear c7b0
             try clear c8
             try clear c8b0
             try clear c13
             try clear c20
             try clear p20
             try clear q20
             try clear hx20
             try clear c21
             try clear c24
             try clear c25
             try clear c25b0
             try clear c29
             try clear c29b0
             try clear hcz11_0
             try clear hcz11_1
             try clear hcz11_2
             try clear hcz14_0
             try clear hcz14_1
             try clear hcz14_2
             try clear hcz17_0
             try clear hcz17_1
             try clear hcz17_2
             try clear hcz19_0
             try clear hcz19_1
             try clear hcz19_2
             try clear hcz26_0
             try clear hcz26_1
             try clear hcz26_2
             try clear hcz28_0
             try clear hcz28_1
             try clear hcz28_2
             try clear hcz30_0
             try clear hcz30_1
             try clear hcz30_2
             try clear hcz32_0
             try clear hcz32_1
             try clear hcz32_2
             try clear hcz33_0
             try clear hcz33_1
             try clear hcz33_2
             try clear hcz35_0
             try clear hcz35_1
             try clear hcz35_2
             try clear hcz36_0
             try clear hcz36_1
             try clear hcz36_2
             try clear hfz11_0
             try clear hfz11_1
             try clear hfz11_2
             try clear hfz14_0
             try clear hfz14_1
             try clear hfz14_2
             try clear hfz17_0
             try clear hfz17_1
             try clear hfz17_2
             try clear hfz19_0
             try clear hfz19_1
             try clear hfz19_2
             try clear hfz26_0
             try clear hfz26_1
             try clear hfz26_2
             try clear hfz28_0
             try clear hfz28_1
             try clear hfz28_2
             try clear hfz30_0
             try clear hfz30_1
             try clear hfz30_2
             try clear hfz32_0
             try clear hfz32_1
             try clear hfz32_2
             try clear hfz33_0
             try clear hfz33_1
             try clear hfz33_2
             try clear hfz35_0
             try clear hfz35_1
             try clear hfz35_2
             try clear hfz36_0
             try clear hfz36_1
             try clear hfz36_2
             try clear hx206_0
             try clear hx206_1
             try clear hx206_2
             try clear p2
             try clear p20
             try clear p206
             try clear q2
             try clear q20
             try clear q206
             obtain ⟨kq,x57_21,rfl,HA,HJ21,BK207,HB⟩:=hcut
             cases kq with
             | zero=>exact absurd HA.out (by simp [ref26_Check.j3])
             | succ kj21 =>
              have H:=HA.out
              clear HA
              simp only [ref26_Check.j3] at H
              by_cases c38:x57_21 = true
              ·subst c38
               have H1:(some (0,261)) = some (r1,r2):=by rw [if_pos rfl] at H;exact H
               clear H
               have H:=H1
               clear H1
               simp only [Option.some.injEq,Prod.mk.injEq] at H
               obtain ⟨rfl,rfl⟩:=H
               go_wp2
               go_ret2
               exact ⟨by first|rfl|(simp [errW_none,errW_some] <;> rfl)|(simp [*,errW_none,errW_some] <;> rfl),by repeat (first|(with_reducible first|exact HB.out|apply below_alloc|apply pw_below_drewN|apply below_drew1|refine below_set ?_ GE207.out)|exact HB.out)⟩
              ·replace c38:=Bool.eq_false_iff.mpr c38
               subst c38
               have H1:(if (wrap64 (x6_2 + (wrap64 (((rd_T39 l1 x7_2).f1) + (((rd_T39 l1 x7_2).f2).length:Int))))) > 1048576 then (some (0,262)) else (ref26_Check.l0 kj21 a0 l1 (wrap64 (x6_2 + (wrap64 (((rd_T39 l1 x7_2).f1) + (((rd_T39 l1 x7_2).f2).length:Int))))) (wrap64 (x7_2 + 1)))) = some (r1,r2):=by rw [if_neg (show ¬ (false = true) by decide)] at H;exact H
               clear H
               have H:=H1
               clear H1
               by_cases c39:(wrap64 (x6_2 + (wrap64 (((rd_T39 l1 x7_2).f1) + (((rd_T39 l1 x7_2).f2).length:Int))))) > 1048576
               ·rw [if_pos c39] at H
                have c39b0:decide (1048576 < (wrap64 (x6_2 + (wrap64 (((rd_T39 l1 x7_2).f1) + (((rd_T39 l1 x7_2).f2).length:Int)))))) = true:=decide_eq_true c39
                clear c39
                simp only [Option.some.injEq,Prod.mk.injEq] at H
                obtain ⟨rfl,rfl⟩:=H
                have hcz40_0:wc.cell? ⟨gb207,0,none⟩ = some (.int .i64 ((rd_T39 l1 x7_2).f0)):=(blk_cell BK207.out 0).trans rfl
                have hcz40_1:wc.cell? ⟨gb207,1,none⟩ = some (.int .i64 ((rd_T39 l1 x7_2).f1)):=(blk_cell BK207.out 1).trans rfl
                have hcz40_2:wc.cell? ⟨gb207,2,none⟩ = some (.slice A206_2 ((rd_T39 l1 x7_2).f2).length c206_2):=(blk_cell BK207.out 2).trans rfl
                have hfz40_0:=blk_frozen BK207.out 0
                have hfz40_1:=blk_frozen BK207.out 1
                have hfz40_2:=blk_frozen BK207.out 2
                go_wp2
                go_ret2
                exact ⟨by first|rfl|(simp [errW_none,errW_some] <;> rfl)|(simp [*,errW_none,errW_some] <;> rfl),by repeat (first|(with_reducible first|exact HB.out|apply below_alloc|apply pw_below_drewN|apply below_drew1|refine below_set ?_ GE207.out)|exact HB.out)⟩
               ·rw [if_neg c39] at H
                have c39b0:decide (1048576 < (wrap64 (x6_2 + (wrap64 (((rd_T39 l1 x7_2).f1) + (((rd_T39 l1 x7_2).f2).length:Int)))))) = false:=decide_eq_false c39
                clear c39
                have H':=Aside0.mk H
                clear H
                have hcz41_0:wc.cell? ⟨gb207,0,none⟩ = some (.int .i64 ((rd_T39 l1 x7_2).f0)):=(blk_cell BK207.out 0).trans rfl
                have hcz41_1:wc.cell? ⟨gb207,1,none⟩ = some (.int .i64 ((rd_T39 l1 x7_2).f1)):=(blk_cell BK207.out 1).trans rfl
                have hcz41_2:wc.cell? ⟨gb207,2,none⟩ = some (.slice A206_2 ((rd_T39 l1 x7_2).f2).length c206_2):=(blk_cell BK207.out 2).trans rfl
                have hfz41_0:=blk_frozen BK207.out 0
                have hfz41_1:=blk_frozen BK207.out 1
                have hfz41_2:=blk_frozen BK207.out 2
                go_wp2
                go_roundg kj21
                case measure=>have:=HJ2.out;have:=HK2.out;have:=HJ8.out;have:=HJ21.out;omega
                case rel=>exact ⟨(wrap64 (x6_2 + (wrap64 (((rd_T39 l1 x7_2).f1) + (((rd_T39 l1 x7_2).f2).length:Int))))),(wrap64 (x7_2 + 1)),(by first|rfl|(simp;done)|(simp [*];done)),(by first|rfl|(simp;done)|(simp [*];done)),H',⟨by have:=HJ2.out;have:=HK2.out;have:=HJ8.out;have:=HJ21.out;omega⟩,⟨by repeat (first|(with_reducible first|exact HB.out|apply below_alloc|apply pw_below_drewN|apply below_drew1|refine below_set ?_ GE207.out)|exact HB.out)⟩⟩
        ·rw [if_neg c8] at H
         exact absurd H (by simp)
       ·rw [if_neg c7] at H
        have c7b0:decide (x7_2 < (l1.length:Int)) = false:=decide_eq_false c7
        clear c7
        simp only [Option.some.injEq,Prod.mk.injEq] at H
        obtain ⟨rfl,rfl⟩:=H
        go_wp2
        go_ret2
        exact ⟨by first|rfl|(simp [errW_none,errW_some] <;> rfl)|(simp [*,errW_none,errW_some] <;> rfl),by repeat (first|(with_reducible first|exact HB.out|apply below_alloc|apply pw_below_drewN|apply below_drew1)|exact HB.out)⟩

end Go.Proofs.Ytjckjcekapkkjaa.P
