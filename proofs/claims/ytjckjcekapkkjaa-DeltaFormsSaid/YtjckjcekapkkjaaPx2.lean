-- WRITTEN BY myprint.py (wip/tools) for this seat
import Derived.Test.YtjckjcekapkkjaaPx0
import Derived.Test.YtjckjcekapkkjaaHCheck
import Derived.Test.YtjckjcekapkkjaaHPutUint
namespace Go.Proofs.Ytjckjcekapkkjaa.P
open Go.RowKit Go.Proofs.YtjckjcekapkkjaaW.PrintWords Go.Proofs.YtjckjcekapkkjaaW.PrintLast Go.Proofs.YtjckjcekapkkjaaW.PrintMore
attribute [local go_sem] max2_int min2_int max_two min_two max_three min_three max_four min_four   -- for this text's walks alone
set_option linter.unusedVariables false
set_option linter.unusedSimpArgs false

/-! ### delta_Encode: function 36 -/
def delta_Encode.l0:Nat → List Int → List (S39) → Int → Int → Option (List Int × Int)
 | 0,_,_,_,_=>none
 | k + 1,x8,x24,x25,x26=>if x26 < x25 then (if 0 ≤ x26 then (if x26 < (x24.length:Int) then (if (((rd_T39 x24 x26).f2).length:Int) > 0 then ((codec_PutUint.f ([]:List Int) (IntKind.u64.wrap (wrap64 (2 * (((rd_T39 x24 x26).f2).length:Int))))).bind fun t119=>(if x8.length + t119.length < 140737488355328 then ((some (x8 ++ t119:List Int)).bind fun y122=>(if y122.length + ((rd_T39 x24 x26).f2).length < 140737488355328 then (delta_Encode.l0 k (y122 ++ ((rd_T39 x24 x26).f2)) x24 x25 (wrap64 (x26 + 1))) else (none))) else (none))) else ((codec_PutUint.f ([]:List Int) (IntKind.u64.wrap (wrap64 ((wrap64 (2 * ((rd_T39 x24 x26).f1))) + 1)))).bind fun t128=>(if x8.length + t128.length < 140737488355328 then ((some (x8 ++ t128:List Int)).bind fun y131=>((codec_PutUint.f ([]:List Int) (IntKind.u64.wrap ((rd_T39 x24 x26).f0))).bind fun t134=>(if y131.length + t134.length < 140737488355328 then (delta_Encode.l0 k (y131 ++ t134) x24 x25 (wrap64 (x26 + 1))) else (none)))) else (none)))) else (none)) else (none)) else (some (x8,0))
def delta_Encode.f (k:Nat) (a0:Int) (l1:List (S39)):Option (List Int × Int):=(delta_Check.f a0 l1).bind fun bt112=>(if bt112.2 = 0 then ((codec_PutUint.f ([]:List Int) (IntKind.u64.wrap ((l1.length:Int)))).bind fun t114=>(delta_Encode.l0 k t114 l1 (l1.length:Int) 0)) else (some (([]:List Int),bt112.2)))
set_option maxHeartbeats 8000000 in
set_option maxRecDepth 100000 in
theorem delta_Encode.calls (k:Nat) (a0:Int) (A1:Option Addr) (c1:Nat) (l1:List (S39)) (r1:List Int) (r2:Int) (w:World) (hr1:Kd.C k39 w A1 l1.length l1) (hc1:l1.length ≤ c1) (h:delta_Encode.f k a0 l1 = some (r1,r2)) :
  Calls Try.prog 36 #[.int .i64 a0,.slice A1 l1.length c1] w fun e w'=>∃ v0_:Value,e = .returned (.tuple #[v0_,.int .i64 r2]) ∧ Kd.R (Kd.int .u8) 5 w' w.heap.size (fun _=>True) v0_ r1 ∧ Below w.heap.size w w':=by
 have hu39:=Try.underlying39
 have HR1:=Aside0.mk hr1
 have HC1:=Aside0.mk hc1
 clear hr1 hc1
 have HB:=Aside0.mk (Below.refl w.heap.size w)
 have H:((delta_Check.f a0 l1).bind fun bt112=>(if bt112.2 = 0 then ((codec_PutUint.f ([]:List Int) (IntKind.u64.wrap ((l1.length:Int)))).bind fun t114=>(delta_Encode.l0 k t114 l1 (l1.length:Int) 0)) else (some (([]:List Int),bt112.2)))) = some (r1,r2):=h
 clear h
 replace H:=Option.bind_eq_some_iff.mp H
 obtain ⟨⟨t112,t113⟩,A30,H⟩:=H
 replace H:(if t113 = 0 then ((codec_PutUint.f ([]:List Int) (IntKind.u64.wrap ((l1.length:Int)))).bind fun t114=>(delta_Encode.l0 k t114 l1 (l1.length:Int) 0)) else (some (([]:List Int),t113))) = some (r1,r2):=H
 have A3:=Aside0.mk A30
 clear A30
 by_cases c4:t113 = 0
 ·rw [if_pos c4] at H
  have c4b0:(t113 == 0) = true:=beq_iff_eq.mpr c4
  have c4b1:(t113 != 0) = false:=bne_eq_false_iff_eq.mpr c4
  clear c4
  replace H:=Option.bind_eq_some_iff.mp H
  obtain ⟨t114,A50,H⟩:=H
  replace H:(delta_Encode.l0 k t114 l1 (l1.length:Int) 0) = some (r1,r2):=H
  have A5:=Aside0.mk A50
  clear A50
  have H':=Aside0.mk H
  clear H
  go_enter Try.func36,Try.ntmps36
  go_wp2_with (first|((with_reducible refine gate_callee (f:=23) rfl ?_);refine goesL_ (some 14) rfl rfl Try.func23 (by kernel_rfl) rfl #[.int .i64 a0,.slice A1 l1.length c1] rfl (by (try simp only [List.map_toArray,List.map_cons,List.map_nil]);first|done|rfl|(simp only [List.length_drop,List.length_take];rfl)) ?_;(with_reducible refine (delta_Check.calls a0 _ _ l1 t112 t113 _ ?side1 ?side2 A3.out).mono ?_);(case side1=>repeat (first|exact HR1.out|(with_reducible refine Kd.C_alloc ?_ _)|(with_reducible refine Kd.C_drewN ?_ _)|(with_reducible refine Kd.C_drew ?_)));(case side2=>exact HC1.out);rintro e w6 ⟨rfl,hb⟩;refine ⟨_,rfl,?_⟩;have n0_:=Aside0.mk (below_step (by repeat (first|(with_reducible first|exact HB.out|apply below_alloc|apply pw_below_drewN|apply below_drew1)|exact HB.out)) hb);clear HB;have HB:=n0_;clear n0_;(try clear hb);(try clear hb2);(try clear hk);(try clear hi))|((with_reducible refine gate_callee (f:=51) rfl ?_);refine goesL_ (some 23) rfl rfl Try.func51 (by kernel_rfl) rfl #[.slice none 0 0,.int .u64 (IntKind.u64.wrap ((l1.length:Int)))] rfl (by (try simp only [List.map_toArray,List.map_cons,List.map_nil]);first|done|rfl|(simp only [List.length_drop,List.length_take];rfl)) ?_;(refine (codec_PutUint.calls _ _ ([]:List Int) (IntKind.u64.wrap ((l1.length:Int))) t114 _ ?side1 ?side2 A5.out).mono ?_);(case side1=>exact Kd.C_nil _ _);(case side2=>exact Nat.le_refl _);rintro e w7 ⟨v115,rfl,ho0,hb⟩;refine ⟨_,rfl,?_⟩;have n0_:=Aside0.mk (Kd.R_lower ho0 (below_size (by repeat (first|(with_reducible first|exact HB.out|apply below_alloc|apply pw_below_drewN|apply below_drew1)|exact HB.out))));have n1_:=Aside0.mk (below_step (by repeat (first|(with_reducible first|exact HB.out|apply below_alloc|apply pw_below_drewN|apply below_drew1)|exact HB.out)) hb);clear HB;have HO116:=n0_;have HB:=n1_;clear n0_ n1_;(try clear hb);(try clear hb2);(try clear hk);(try clear hi);(try clear ho0)))
  go_loopg [8,26] k (fun kq v8 v26 w'=>∃ (x8_1:List Int) (x26_1:Int),v26 = .int .i64 x26_1 ∧ Aside0 (delta_Encode.l0 kq x8_1 l1 (l1.length:Int) x26_1 = some (r1,r2)) ∧ Aside0 (kq ≤ k) ∧ Aside0 (Kd.R (Kd.int .u8) 5 w' w.heap.size (fun _=>True) v8 x8_1) ∧ Aside0 (Below w.heap.size w w'))
  case atStart=>exact ⟨(t114),(0),(by first|rfl|(simp;done)|(simp [*];done)),H',⟨Nat.le_refl _⟩,⟨by (with_reducible repeat (first|apply Kd.R_alloc|apply Kd.R_drewN|apply Kd.R_drew));exact HO116.out⟩,⟨by repeat (first|(with_reducible first|exact HB.out|apply below_alloc|apply pw_below_drewN|apply below_drew1)|exact HB.out)⟩⟩
  case round =>
   clear H'
   try clear c1
   try clear c2
   try clear p2
   try clear c3
   try clear c4
   try clear c4b0
   try clear c4b1
   try clear c5
   obtain ⟨x8_1,x26_1,rfl,HA,HK1,HO_8,HB⟩:=hrel
   cases gk with
   | zero=>exact absurd HA.out (by simp [delta_Encode.l0])
   | succ k1 =>
    have H:=HA.out
    clear HA
    simp only [delta_Encode.l0] at H
    by_cases c8:x26_1 < (l1.length:Int)
    ·rw [if_pos c8] at H
     have c8b0:decide (x26_1 < (l1.length:Int)) = true:=decide_eq_true c8
     clear c8
     by_cases c9:0 ≤ x26_1
     ·rw [if_pos c9] at H
      have c9b0:decide (0 ≤ x26_1) = true:=decide_eq_true c9
      clear c9
      by_cases c10:x26_1 < (l1.length:Int)
      ·rw [if_pos c10] at H
       have c10b0:decide (x26_1 < (l1.length:Int)) = true:=decide_eq_true c10
       clear c10
       by_cases c11:(((rd_T39 l1 x26_1).f2).length:Int) > 0
       ·rw [if_pos c11] at H
        have c11b0:decide (0 < (((rd_T39 l1 x26_1).f2).length:Int)) = true:=decide_eq_true c11
        have c11b1:decide (0 < ((rd_T39 l1 x26_1).f2).length) = true:=decide_eq_true (by omega)
        clear c11
        replace H:=Option.bind_eq_some_iff.mp H
        obtain ⟨t119,A120,H⟩:=H
        replace H:(if x8_1.length + t119.length < 140737488355328 then ((some (x8_1 ++ t119:List Int)).bind fun y122=>(if y122.length + ((rd_T39 l1 x26_1).f2).length < 140737488355328 then (delta_Encode.l0 k1 (y122 ++ ((rd_T39 l1 x26_1).f2)) l1 (l1.length:Int) (wrap64 (x26_1 + 1))) else (none))) else (none)) = some (r1,r2):=H
        have A12:=Aside0.mk A120
        clear A120
        by_cases c13:x8_1.length + t119.length < 140737488355328
        ·rw [if_pos c13] at H
         have LMc13:=Aside0.mk c13
         clear c13
         obtain ⟨y122,hy122⟩:∃ y_:List Int,y_ = (x8_1 ++ t119):=⟨_,rfl⟩
         replace H:(if y122.length + ((rd_T39 l1 x26_1).f2).length < 140737488355328 then (delta_Encode.l0 k1 (y122 ++ ((rd_T39 l1 x26_1).f2)) l1 (l1.length:Int) (wrap64 (x26_1 + 1))) else (none)) = some (r1,r2):=by first|(rw [hy122];with_reducible exact H)|(have H2_:=(Option.bind_some _ _).symm.trans H;rw [hy122];with_reducible exact H2_)|(have H2_:=(Option.bind_some _ _).symm.trans H;with_reducible exact H2_)|with_reducible exact H|(rw [hy122];exact H)|exact H
         have Ny122:=Aside0.mk hy122
         clear hy122
         by_cases c14:y122.length + ((rd_T39 l1 x26_1).f2).length < 140737488355328
         ·rw [if_pos c14] at H
          have LMc14:=Aside0.mk c14
          clear c14
          obtain ⟨y125,hy125⟩:∃ y_:List Int,y_ = (y122 ++ ((rd_T39 l1 x26_1).f2)):=⟨_,rfl⟩
          replace H:(delta_Encode.l0 k1 y125 l1 (l1.length:Int) (wrap64 (x26_1 + 1))) = some (r1,r2):=by first|(rw [hy125];with_reducible exact H)|(have H2_:=(Option.bind_some _ _).symm.trans H;rw [hy125];with_reducible exact H2_)|(have H2_:=(Option.bind_some _ _).symm.trans H;with_reducible exact H2_)|with_reducible exact H|(rw [hy125];exact H)|exact H
          have Ny125:=Aside0.mk hy125
          clear hy125
          have H':=Aside0.mk H
          clear H
          have p117:0 ≤ (x26_1:Int):=of_decide_eq_true (by first|(with_reducible assumption)|assumption)
          have q117:x26_1 < (l1.length:Int):=of_decide_eq_true (by first|(with_reducible assumption)|assumption)
          obtain ⟨ad117,A117_2,c117_2,e117,hx117_0,hx117_1,hx117_2,hl117_2,hi117_2⟩:=at_T39 HR1.out x26_1 p117 q117
          cases e117
          have hu117_2:=Aside0.mk hx117_2
          replace hx117_0:=(HB.out.cell (World.block_lt_of_cell? w _ hx117_0)).trans hx117_0
          replace hx117_1:=(HB.out.cell (World.block_lt_of_cell? w _ hx117_1)).trans hx117_1
          replace hx117_2:=(HB.out.cell (World.block_lt_of_cell? w _ hx117_2)).trans hx117_2
          have HR117_2:=Aside0.mk hi117_2
          have HC117_2:=Aside0.mk hl117_2
          clear hi117_2 hl117_2
          replace p117:=eq_true p117
          replace q117:=eq_true q117
          go_wp2_with (first|((with_reducible refine gate_dst (N:=10) rfl ?_);refine box_event ?hg (N:=10) ?hd (cs:=#[.int .i64 0,.int .i64 0,.slice none 0 0]) (t:=39) ?hr ?_;(case hd=>rfl);(case hg=>rfl);(case hr=>first|(go_simp;done)|(go_simp;rfl));intro gb118 hg w15 hbox hb;have n0_:=Aside0.mk (Kd.R_below (by (with_reducible repeat (first|apply Kd.R_alloc|apply Kd.R_drewN|apply Kd.R_drew));exact HO_8.out) hb);have n1_:=Aside0.mk (below_step (by repeat (first|(with_reducible first|exact HB.out|apply below_alloc|apply pw_below_drewN|apply below_drew1)|exact HB.out)) hb);have n2_:=Aside0.mk (hbox);have n3_:=Aside0.mk ((by rw [hg];exact (below_size (by repeat (first|(with_reducible first|exact HB.out|apply below_alloc|apply pw_below_drewN|apply below_drew1)|exact HB.out))):w.heap.size ≤ gb118));have n4_:=Aside0.mk ((by rw [hg];exact (below_size (by repeat (first|(with_reducible first|exact HB.out|apply below_alloc|apply pw_below_drewN|apply below_drew1)|exact HB.out))):w.heap.size ≤ gb118));clear HO_8;clear HB;have HO_8:=n0_;have HB:=n1_;have BK118:=n2_;have GW118:=n3_;have GE118:=n4_;clear n0_ n1_ n2_ n3_ n4_;clear hb hbox hg;have hcz16_0:w15.cell? ⟨gb118,0,none⟩ = some (.int .i64 0):=(blk_cell BK118.out 0).trans rfl;have hcz16_1:w15.cell? ⟨gb118,1,none⟩ = some (.int .i64 0):=(blk_cell BK118.out 1).trans rfl;have hcz16_2:w15.cell? ⟨gb118,2,none⟩ = some (.slice none 0 0):=(blk_cell BK118.out 2).trans rfl;have hfz16_0:=blk_frozen BK118.out 0;have hfz16_1:=blk_frozen BK118.out 1;have hfz16_2:=blk_frozen BK118.out 2)|((with_reducible refine gate_callee (f:=51) rfl ?_);refine goesL_ (some 40) rfl rfl Try.func51 (by kernel_rfl) rfl #[.slice none 0 0,.int .u64 (IntKind.u64.wrap (wrap64 (2 * (((rd_T39 l1 x26_1).f2).length:Int))))] rfl (by (try simp only [List.map_toArray,List.map_cons,List.map_nil]);first|done|rfl|(simp only [List.length_drop,List.length_take];rfl)) ?_;(refine (codec_PutUint.calls _ _ ([]:List Int) (IntKind.u64.wrap (wrap64 (2 * (((rd_T39 l1 x26_1).f2).length:Int)))) t119 _ ?side1 ?side2 A12.out).mono ?_);(case side1=>exact Kd.C_nil _ _);(case side2=>exact Nat.le_refl _);rintro e w17 ⟨v120,rfl,ho0,hb⟩;refine ⟨_,rfl,?_⟩;have n0_:=Aside0.mk (Kd.R_elder' (by (with_reducible repeat (first|apply Kd.R_alloc|apply Kd.R_drewN|apply Kd.R_drew));exact (Kd.R_mono (Kd.R_far (p:=⟨gb118,2,none⟩) (Kd.R_far (p:=⟨gb118,1,none⟩) (Kd.R_far (p:=⟨gb118,0,none⟩) (Kd.R_types HO_8.out BK118.out (by decide)) (fun _ hk=>hk.2) (.int .i64 ((rd_T39 l1 x26_1).f0))) (fun _ hk=>hk.2) (.int .i64 ((rd_T39 l1 x26_1).f1))) (fun _ hk=>hk.2) (.slice A117_2 ((rd_T39 l1 x26_1).f2).length c117_2)) (fun _ h_=>h_.1))) (Kd.R_base ho0) hb);have n1_:=Aside0.mk (Kd.R_lower (Kd.R_new' ho0 (Kd.R_lt (by (with_reducible repeat (first|apply Kd.R_alloc|apply Kd.R_drewN|apply Kd.R_drew));exact (Kd.R_mono (Kd.R_far (p:=⟨gb118,2,none⟩) (Kd.R_far (p:=⟨gb118,1,none⟩) (Kd.R_far (p:=⟨gb118,0,none⟩) (Kd.R_types HO_8.out BK118.out (by decide)) (fun _ hk=>hk.2) (.int .i64 ((rd_T39 l1 x26_1).f0))) (fun _ hk=>hk.2) (.int .i64 ((rd_T39 l1 x26_1).f1))) (fun _ hk=>hk.2) (.slice A117_2 ((rd_T39 l1 x26_1).f2).length c117_2)) (fun _ h_=>h_.1))))) (below_size (by repeat (first|(with_reducible first|exact HB.out|apply below_alloc|apply pw_below_drewN|apply below_drew1|refine below_set ?_ GE118.out)|exact HB.out))));have n2_:=Aside0.mk (blk_below (g:=gb118) (o:=.cells #[.int .i64 ((rd_T39 l1 x26_1).f0),.int .i64 ((rd_T39 l1 x26_1).f1),.slice A117_2 ((rd_T39 l1 x26_1).f2).length c117_2] 39 (0,0)) (by (with_reducible repeat (first|refine blk_drewN ?_ _|refine blk_drew ?_|refine blk_alloc ?_ _));refine blk_put (cs:=#[.int .i64 ((rd_T39 l1 x26_1).f0),.int .i64 ((rd_T39 l1 x26_1).f1),.slice none 0 0]) ?_ 2 _ rfl;(with_reducible repeat (first|refine blk_drewN ?_ _|refine blk_drew ?_|refine blk_alloc ?_ _));refine blk_put (cs:=#[.int .i64 ((rd_T39 l1 x26_1).f0),.int .i64 0,.slice none 0 0]) ?_ 1 _ rfl;(with_reducible repeat (first|refine blk_drewN ?_ _|refine blk_drew ?_|refine blk_alloc ?_ _));refine blk_put (cs:=#[.int .i64 0,.int .i64 0,.slice none 0 0]) ?_ 0 _ rfl;(with_reducible repeat (first|refine blk_drewN ?_ _|refine blk_drew ?_|refine blk_alloc ?_ _));exact BK118.out) hb);have n3_:=Aside0.mk (below_step (by repeat (first|(with_reducible first|exact HB.out|apply below_alloc|apply pw_below_drewN|apply below_drew1|refine below_set ?_ GE118.out)|exact HB.out)) hb);clear HO_8;clear BK118;clear HB;have HO_8:=n0_;have HO121:=n1_;have BK118:=n2_;have HB:=n3_;clear n0_ n1_ n2_ n3_;(try clear hb);(try clear hb2);(try clear hk);(try clear hi);(try clear ho0);obtain ⟨Ao19,co19,eo19⟩:=Kd.R_slice HO121.out;subst eo19)|((with_reducible refine gate_builtin (b:=.append) (xs:=#[.tmp 34,.tmp 40]) rfl ?_);at_builtin;refine Kd.R_append_rows (Kd.int .u8) (w0:=w) w.heap.size rfl (.tmp 34) (.tmp 40) 26 5 (.int .u8 0) 1 rfl Try.underlying26 info5 rfl (by decide) (by omega) u8 x8_1 t119 _ _ _ (fun k_=>some k_ ≠ (.slice Ao19 t119.length co19:Value).ownBlock) (fun _=>False) rfl rfl ?aO ?aR (fun _ _ h=>h) (fun _ h=>h.elim) ?aF ?aB ?aS ?aL ?_;(case aR=>repeat (first|exact (Kd.R_reads' HO121.out).2.2|(with_reducible refine Kd.C_alloc ?_ _)|(with_reducible refine Kd.C_drewN ?_ _)|(with_reducible refine Kd.C_drew ?_)));(case aB=>exact (by repeat (first|(with_reducible first|exact HB.out|apply below_alloc|apply pw_below_drewN|apply below_drew1|refine below_set ?_ GE118.out)|exact HB.out)));(case aF=>exact (fun k_ hk=>Kd.fresh' (Kd.R_lt (by (with_reducible repeat (first|apply Kd.R_alloc|apply Kd.R_drewN|apply Kd.R_drew));exact HO121.out)) k_ hk));(case aO=>exact (by (with_reducible repeat (first|apply Kd.R_alloc|apply Kd.R_drewN|apply Kd.R_drew));exact Kd.R_mono HO_8.out (fun _ hk=>hk.2)));(case aS=>exact (below_size (by repeat (first|(with_reducible first|exact HB.out|apply below_alloc|apply pw_below_drewN|apply below_drew1|refine below_set ?_ GE118.out)|exact HB.out))));(case aL=>have:=LMc13.out;omega);intro v123 w18 ho hb hg hat;rw [← Ny122.out] at ho;have n0_:=Aside0.mk (blk_grown (g:=gb118) (o:=.cells #[.int .i64 ((rd_T39 l1 x26_1).f0),.int .i64 ((rd_T39 l1 x26_1).f1),.slice A117_2 ((rd_T39 l1 x26_1).f2).length c117_2] 39 (0,0)) (by (with_reducible repeat (first|refine blk_drewN ?_ _|refine blk_drew ?_|refine blk_alloc ?_ _));exact BK118.out) hg (Kd.R_ne HO_8.out BK118.out (by decide)));have n1_:=Aside0.mk (Kd.R_after (ok:=(fun _=>True)) (by (with_reducible repeat (first|apply Kd.R_alloc|apply Kd.R_drewN|apply Kd.R_drew));exact HO121.out) hg hat);have n2_:=Aside0.mk (hb);have n3_:=Aside0.mk (ho);clear BK118;clear HO121;clear HB;clear HO_8;have BK118:=n0_;have HO121:=n1_;have HB:=n2_;have HO124:=n3_;clear n0_ n1_ n2_ n3_;clear ho hb hg hat;have hcz20_0:w18.cell? ⟨gb118,0,none⟩ = some (.int .i64 ((rd_T39 l1 x26_1).f0)):=(blk_cell BK118.out 0).trans rfl;have hcz20_1:w18.cell? ⟨gb118,1,none⟩ = some (.int .i64 ((rd_T39 l1 x26_1).f1)):=(blk_cell BK118.out 1).trans rfl;have hcz20_2:w18.cell? ⟨gb118,2,none⟩ = some (.slice A117_2 ((rd_T39 l1 x26_1).f2).length c117_2):=(blk_cell BK118.out 2).trans rfl;have hfz20_0:=blk_frozen BK118.out 0;have hfz20_1:=blk_frozen BK118.out 1;have hfz20_2:=blk_frozen BK118.out 2)|((with_reducible refine gate_builtin (b:=.append) (xs:=#[.tmp 42,.tmp 44]) rfl ?_);at_builtin;refine Kd.R_append_rows (Kd.int .u8) (w0:=w) w.heap.size rfl (.tmp 42) (.tmp 44) 26 5 (.int .u8 0) 1 rfl Try.underlying26 info5 rfl (by decide) (by omega) v123 y122 ((rd_T39 l1 x26_1).f2) _ _ _ (fun k_=>some k_ ≠ (.slice Ao19 t119.length co19:Value).ownBlock) (fun _=>False) rfl rfl ?aO ?aR (fun _ _ h=>h) (fun _ h=>h.elim) ?aF ?aB ?aS ?aL ?_;(case aR=>repeat (first|exact (Kd.C_below HR117_2.out HB.out)|(with_reducible refine Kd.C_alloc ?_ _)|(with_reducible refine Kd.C_drewN ?_ _)|(with_reducible refine Kd.C_drew ?_)));(case aB=>exact (by repeat (first|(with_reducible first|exact HB.out|apply below_alloc|apply pw_below_drewN|apply below_drew1|refine below_set ?_ GE118.out)|exact HB.out)));(case aF=>exact (fun k_ hk=>Kd.fresh' (Kd.R_lt (by (with_reducible repeat (first|apply Kd.R_alloc|apply Kd.R_drewN|apply Kd.R_drew));exact HO121.out)) k_ hk));(case aO=>exact (by (with_reducible repeat (first|apply Kd.R_alloc|apply Kd.R_drewN|apply Kd.R_drew));exact HO124.out));(case aS=>exact (below_size (by repeat (first|(with_reducible first|exact HB.out|apply below_alloc|apply pw_below_drewN|apply below_drew1|refine below_set ?_ GE118.out)|exact HB.out))));(case aL=>have:=LMc14.out;omega);intro v126 w21 ho hb hg hat;rw [← Ny125.out] at ho;have n0_:=Aside0.mk (blk_grown (g:=gb118) (o:=.cells #[.int .i64 ((rd_T39 l1 x26_1).f0),.int .i64 ((rd_T39 l1 x26_1).f1),.slice A117_2 ((rd_T39 l1 x26_1).f2).length c117_2] 39 (0,0)) (by (with_reducible repeat (first|refine blk_drewN ?_ _|refine blk_drew ?_|refine blk_alloc ?_ _));exact BK118.out) hg (Kd.R_ne HO124.out BK118.out (by decide)));have n1_:=Aside0.mk (Kd.R_after (ok:=(fun _=>True)) (by (with_reducible repeat (first|apply Kd.R_alloc|apply Kd.R_drewN|apply Kd.R_drew));exact HO121.out) hg hat);have n2_:=Aside0.mk (hb);have n3_:=Aside0.mk (ho);clear BK118;clear HO121;clear HB;clear HO124;have BK118:=n0_;have HO121:=n1_;have HB:=n2_;have HO127:=n3_;clear n0_ n1_ n2_ n3_;clear ho hb hg hat))
          go_roundg k1
          case measure=>have:=HK1.out;omega
          case rel=>exact ⟨(y125),(wrap64 (x26_1 + 1)),(by first|rfl|(simp;done)|(simp [*];done)),H',⟨by have:=HK1.out;omega⟩,⟨by (with_reducible repeat (first|apply Kd.R_alloc|apply Kd.R_drewN|apply Kd.R_drew));exact Kd.R_mono HO127.out (fun _ hk=>trivial)⟩,⟨by repeat (first|(with_reducible first|exact HB.out|apply below_alloc|apply pw_below_drewN|apply below_drew1|refine below_set ?_ GE118.out)|exact HB.out)⟩⟩
         ·rw [if_neg c14] at H
          exact absurd H (by simp)
        ·rw [if_neg c13] at H
         exact absurd H (by simp)
       ·rw [if_neg c11] at H
        have c11b0:decide (0 < (((rd_T39 l1 x26_1).f2).length:Int)) = false:=decide_eq_false c11
        have c11b1:decide (0 < ((rd_T39 l1 x26_1).f2).length) = false:=decide_eq_false (by omega)
        clear c11
        replace H:=Option.bind_eq_some_iff.mp H
        obtain ⟨t128,A220,H⟩:=H
        replace H:(if x8_1.length + t128.length < 140737488355328 then ((some (x8_1 ++ t128:List Int)).bind fun y131=>((codec_PutUint.f ([]:List Int) (IntKind.u64.wrap ((rd_T39 l1 x26_1).f0))).bind fun t134=>(if y131.length + t134.length < 140737488355328 then (delta_Encode.l0 k1 (y131 ++ t134) l1 (l1.length:Int) (wrap64 (x26_1 + 1))) else (none)))) else (none)) = some (r1,r2):=H
        have A22:=Aside0.mk A220
        clear A220
        by_cases c23:x8_1.length + t128.length < 140737488355328
        ·rw [if_pos c23] at H
         have LMc23:=Aside0.mk c23
         clear c23
         obtain ⟨y131,hy131⟩:∃ y_:List Int,y_ = (x8_1 ++ t128):=⟨_,rfl⟩
         replace H:((codec_PutUint.f ([]:List Int) (IntKind.u64.wrap ((rd_T39 l1 x26_1).f0))).bind fun t134=>(if y131.length + t134.length < 140737488355328 then (delta_Encode.l0 k1 (y131 ++ t134) l1 (l1.length:Int) (wrap64 (x26_1 + 1))) else (none))) = some (r1,r2):=by first|(rw [hy131];with_reducible exact H)|(have H2_:=(Option.bind_some _ _).symm.trans H;rw [hy131];with_reducible exact H2_)|(have H2_:=(Option.bind_some _ _).symm.trans H;with_reducible exact H2_)|with_reducible exact H|(rw [hy131];exact H)|exact H
         have Ny131:=Aside0.mk hy131
         clear hy131
         replace H:=Option.bind_eq_some_iff.mp H
         obtain ⟨t134,A240,H⟩:=H
         replace H:(if y131.length + t134.length < 140737488355328 then (delta_Encode.l0 k1 (y131 ++ t134) l1 (l1.length:Int) (wrap64 (x26_1 + 1))) else (none)) = some (r1,r2):=H
         have A24:=Aside0.mk A240
         clear A240
         by_cases c25:y131.length + t134.length < 140737488355328
         ·rw [if_pos c25] at H
          have LMc25:=Aside0.mk c25
          clear c25
          obtain ⟨y137,hy137⟩:∃ y_:List Int,y_ = (y131 ++ t134):=⟨_,rfl⟩
          replace H:(delta_Encode.l0 k1 y137 l1 (l1.length:Int) (wrap64 (x26_1 + 1))) = some (r1,r2):=by first|(rw [hy137];with_reducible exact H)|(have H2_:=(Option.bind_some _ _).symm.trans H;rw [hy137];with_reducible exact H2_)|(have H2_:=(Option.bind_some _ _).symm.trans H;with_reducible exact H2_)|with_reducible exact H|(rw [hy137];exact H)|exact H
          have Ny137:=Aside0.mk hy137
          clear hy137
          have H':=Aside0.mk H
          clear H
          have p117:0 ≤ (x26_1:Int):=of_decide_eq_true (by first|(with_reducible assumption)|assumption)
          have q117:x26_1 < (l1.length:Int):=of_decide_eq_true (by first|(with_reducible assumption)|assumption)
          obtain ⟨ad117,A117_2,c117_2,e117,hx117_0,hx117_1,hx117_2,hl117_2,hi117_2⟩:=at_T39 HR1.out x26_1 p117 q117
          cases e117
          have hu117_2:=Aside0.mk hx117_2
          replace hx117_0:=(HB.out.cell (World.block_lt_of_cell? w _ hx117_0)).trans hx117_0
          replace hx117_1:=(HB.out.cell (World.block_lt_of_cell? w _ hx117_1)).trans hx117_1
          replace hx117_2:=(HB.out.cell (World.block_lt_of_cell? w _ hx117_2)).trans hx117_2
          have HR117_2:=Aside0.mk hi117_2
          have HC117_2:=Aside0.mk hl117_2
          clear hi117_2 hl117_2
          replace p117:=eq_true p117
          replace q117:=eq_true q117
          go_wp2_with (first|((with_reducible refine gate_dst (N:=10) rfl ?_);refine box_event ?hg (N:=10) ?hd (cs:=#[.int .i64 0,.int .i64 0,.slice none 0 0]) (t:=39) ?hr ?_;(case hd=>rfl);(case hg=>rfl);(case hr=>first|(go_simp;done)|(go_simp;rfl));intro gb118 hg w26 hbox hb;have n0_:=Aside0.mk (Kd.R_below (by (with_reducible repeat (first|apply Kd.R_alloc|apply Kd.R_drewN|apply Kd.R_drew));exact HO_8.out) hb);have n1_:=Aside0.mk (below_step (by repeat (first|(with_reducible first|exact HB.out|apply below_alloc|apply pw_below_drewN|apply below_drew1)|exact HB.out)) hb);have n2_:=Aside0.mk (hbox);have n3_:=Aside0.mk ((by rw [hg];exact (below_size (by repeat (first|(with_reducible first|exact HB.out|apply below_alloc|apply pw_below_drewN|apply below_drew1)|exact HB.out))):w.heap.size ≤ gb118));have n4_:=Aside0.mk ((by rw [hg];exact (below_size (by repeat (first|(with_reducible first|exact HB.out|apply below_alloc|apply pw_below_drewN|apply below_drew1)|exact HB.out))):w.heap.size ≤ gb118));clear HO_8;clear HB;have HO_8:=n0_;have HB:=n1_;have BK118:=n2_;have GW118:=n3_;have GE118:=n4_;clear n0_ n1_ n2_ n3_ n4_;clear hb hbox hg;have hcz27_0:w26.cell? ⟨gb118,0,none⟩ = some (.int .i64 0):=(blk_cell BK118.out 0).trans rfl;have hcz27_1:w26.cell? ⟨gb118,1,none⟩ = some (.int .i64 0):=(blk_cell BK118.out 1).trans rfl;have hcz27_2:w26.cell? ⟨gb118,2,none⟩ = some (.slice none 0 0):=(blk_cell BK118.out 2).trans rfl;have hfz27_0:=blk_frozen BK118.out 0;have hfz27_1:=blk_frozen BK118.out 1;have hfz27_2:=blk_frozen BK118.out 2)|((with_reducible refine gate_callee (f:=51) rfl ?_);refine goesL_ (some 52) rfl rfl Try.func51 (by kernel_rfl) rfl #[.slice none 0 0,.int .u64 (IntKind.u64.wrap (wrap64 ((wrap64 (2 * ((rd_T39 l1 x26_1).f1))) + 1)))] rfl (by (try simp only [List.map_toArray,List.map_cons,List.map_nil]);first|done|rfl|(simp only [List.length_drop,List.length_take];rfl)) ?_;(refine (codec_PutUint.calls _ _ ([]:List Int) (IntKind.u64.wrap (wrap64 ((wrap64 (2 * ((rd_T39 l1 x26_1).f1))) + 1))) t128 _ ?side1 ?side2 A22.out).mono ?_);(case side1=>exact Kd.C_nil _ _);(case side2=>exact Nat.le_refl _);rintro e w28 ⟨v129,rfl,ho0,hb⟩;refine ⟨_,rfl,?_⟩;have n0_:=Aside0.mk (Kd.R_elder' (by (with_reducible repeat (first|apply Kd.R_alloc|apply Kd.R_drewN|apply Kd.R_drew));exact (Kd.R_mono (Kd.R_far (p:=⟨gb118,2,none⟩) (Kd.R_far (p:=⟨gb118,1,none⟩) (Kd.R_far (p:=⟨gb118,0,none⟩) (Kd.R_types HO_8.out BK118.out (by decide)) (fun _ hk=>hk.2) (.int .i64 ((rd_T39 l1 x26_1).f0))) (fun _ hk=>hk.2) (.int .i64 ((rd_T39 l1 x26_1).f1))) (fun _ hk=>hk.2) (.slice A117_2 ((rd_T39 l1 x26_1).f2).length c117_2)) (fun _ h_=>h_.1))) (Kd.R_base ho0) hb);have n1_:=Aside0.mk (Kd.R_lower (Kd.R_new' ho0 (Kd.R_lt (by (with_reducible repeat (first|apply Kd.R_alloc|apply Kd.R_drewN|apply Kd.R_drew));exact (Kd.R_mono (Kd.R_far (p:=⟨gb118,2,none⟩) (Kd.R_far (p:=⟨gb118,1,none⟩) (Kd.R_far (p:=⟨gb118,0,none⟩) (Kd.R_types HO_8.out BK118.out (by decide)) (fun _ hk=>hk.2) (.int .i64 ((rd_T39 l1 x26_1).f0))) (fun _ hk=>hk.2) (.int .i64 ((rd_T39 l1 x26_1).f1))) (fun _ hk=>hk.2) (.slice A117_2 ((rd_T39 l1 x26_1).f2).length c117_2)) (fun _ h_=>h_.1))))) (below_size (by repeat (first|(with_reducible first|exact HB.out|apply below_alloc|apply pw_below_drewN|apply below_drew1|refine below_set ?_ GE118.out)|exact HB.out))));have n2_:=Aside0.mk (blk_below (g:=gb118) (o:=.cells #[.int .i64 ((rd_T39 l1 x26_1).f0),.int .i64 ((rd_T39 l1 x26_1).f1),.slice A117_2 ((rd_T39 l1 x26_1).f2).length c117_2] 39 (0,0)) (by (with_reducible repeat (first|refine blk_drewN ?_ _|refine blk_drew ?_|refine blk_alloc ?_ _));refine blk_put (cs:=#[.int .i64 ((rd_T39 l1 x26_1).f0),.int .i64 ((rd_T39 l1 x26_1).f1),.slice none 0 0]) ?_ 2 _ rfl;(with_reducible repeat (first|refine blk_drewN ?_ _|refine blk_drew ?_|refine blk_alloc ?_ _));refine blk_put (cs:=#[.int .i64 ((rd_T39 l1 x26_1).f0),.int .i64 0,.slice none 0 0]) ?_ 1 _ rfl;(with_reducible repeat (first|refine blk_drewN ?_ _|refine blk_drew ?_|refine blk_alloc ?_ _));refine blk_put (cs:=#[.int .i64 0,.int .i64 0,.slice none 0 0]) ?_ 0 _ rfl;(with_reducible repeat (first|refine blk_drewN ?_ _|refine blk_drew ?_|refine blk_alloc ?_ _));exact BK118.out) hb);have n3_:=Aside0.mk (below_step (by repeat (first|(with_reducible first|exact HB.out|apply below_alloc|apply pw_below_drewN|apply below_drew1|refine below_set ?_ GE118.out)|exact HB.out)) hb);clear HO_8;clear BK118;clear HB;have HO_8:=n0_;have HO130:=n1_;have BK118:=n2_;have HB:=n3_;clear n0_ n1_ n2_ n3_;(try clear hb);(try clear hb2);(try clear hk);(try clear hi);(try clear ho0);obtain ⟨Ao30,co30,eo30⟩:=Kd.R_slice HO130.out;subst eo30)|((with_reducible refine gate_builtin (b:=.append) (xs:=#[.tmp 46,.tmp 52]) rfl ?_);at_builtin;refine Kd.R_append_rows (Kd.int .u8) (w0:=w) w.heap.size rfl (.tmp 46) (.tmp 52) 26 5 (.int .u8 0) 1 rfl Try.underlying26 info5 rfl (by decide) (by omega) u8 x8_1 t128 _ _ _ (fun k_=>some k_ ≠ (.slice Ao30 t128.length co30:Value).ownBlock) (fun _=>False) rfl rfl ?aO ?aR (fun _ _ h=>h) (fun _ h=>h.elim) ?aF ?aB ?aS ?aL ?_;(case aR=>repeat (first|exact (Kd.R_reads' HO130.out).2.2|(with_reducible refine Kd.C_alloc ?_ _)|(with_reducible refine Kd.C_drewN ?_ _)|(with_reducible refine Kd.C_drew ?_)));(case aB=>exact (by repeat (first|(with_reducible first|exact HB.out|apply below_alloc|apply pw_below_drewN|apply below_drew1|refine below_set ?_ GE118.out)|exact HB.out)));(case aF=>exact (fun k_ hk=>Kd.fresh' (Kd.R_lt (by (with_reducible repeat (first|apply Kd.R_alloc|apply Kd.R_drewN|apply Kd.R_drew));exact HO130.out)) k_ hk));(case aO=>exact (by (with_reducible repeat (first|apply Kd.R_alloc|apply Kd.R_drewN|apply Kd.R_drew));exact Kd.R_mono HO_8.out (fun _ hk=>hk.2)));(case aS=>exact (below_size (by repeat (first|(with_reducible first|exact HB.out|apply below_alloc|apply pw_below_drewN|apply below_drew1|refine below_set ?_ GE118.out)|exact HB.out))));(case aL=>have:=LMc23.out;omega);intro v132 w29 ho hb hg hat;rw [← Ny131.out] at ho;have n0_:=Aside0.mk (blk_grown (g:=gb118) (o:=.cells #[.int .i64 ((rd_T39 l1 x26_1).f0),.int .i64 ((rd_T39 l1 x26_1).f1),.slice A117_2 ((rd_T39 l1 x26_1).f2).length c117_2] 39 (0,0)) (by (with_reducible repeat (first|refine blk_drewN ?_ _|refine blk_drew ?_|refine blk_alloc ?_ _));exact BK118.out) hg (Kd.R_ne HO_8.out BK118.out (by decide)));have n1_:=Aside0.mk (Kd.R_after (ok:=(fun _=>True)) (by (with_reducible repeat (first|apply Kd.R_alloc|apply Kd.R_drewN|apply Kd.R_drew));exact HO130.out) hg hat);have n2_:=Aside0.mk (hb);have n3_:=Aside0.mk (ho);clear BK118;clear HO130;clear HB;clear HO_8;have BK118:=n0_;have HO130:=n1_;have HB:=n2_;have HO133:=n3_;clear n0_ n1_ n2_ n3_;clear ho hb hg hat;have hcz31_0:w29.cell? ⟨gb118,0,none⟩ = some (.int .i64 ((rd_T39 l1 x26_1).f0)):=(blk_cell BK118.out 0).trans rfl;have hcz31_1:w29.cell? ⟨gb118,1,none⟩ = some (.int .i64 ((rd_T39 l1 x26_1).f1)):=(blk_cell BK118.out 1).trans rfl;have hcz31_2:w29.cell? ⟨gb118,2,none⟩ = some (.slice A117_2 ((rd_T39 l1 x26_1).f2).length c117_2):=(blk_cell BK118.out 2).trans rfl;have hfz31_0:=blk_frozen BK118.out 0;have hfz31_1:=blk_frozen BK118.out 1;have hfz31_2:=blk_frozen BK118.out 2)|((with_reducible refine gate_callee (f:=51) rfl ?_);refine goesL_ (some 58) rfl rfl Try.func51 (by kernel_rfl) rfl #[.slice none 0 0,.int .u64 (IntKind.u64.wrap ((rd_T39 l1 x26_1).f0))] rfl (by (try simp only [List.map_toArray,List.map_cons,List.map_nil]);first|done|rfl|(simp only [List.length_drop,List.length_take];rfl)) ?_;(refine (codec_PutUint.calls _ _ ([]:List Int) (IntKind.u64.wrap ((rd_T39 l1 x26_1).f0)) t134 _ ?side1 ?side2 A24.out).mono ?_);(case side1=>exact Kd.C_nil _ _);(case side2=>exact Nat.le_refl _);rintro e w32 ⟨v135,rfl,ho0,hb⟩;refine ⟨_,rfl,?_⟩;have n0_:=Aside0.mk (Kd.R_elder' (by (with_reducible repeat (first|apply Kd.R_alloc|apply Kd.R_drewN|apply Kd.R_drew));exact HO130.out) (Kd.R_base ho0) hb);have n1_:=Aside0.mk (Kd.R_elder' (by (with_reducible repeat (first|apply Kd.R_alloc|apply Kd.R_drewN|apply Kd.R_drew));exact HO133.out) (Kd.R_base ho0) hb);have n2_:=Aside0.mk (Kd.R_lower (Kd.R_new' (Kd.R_new' ho0 (Kd.R_lt (by (with_reducible repeat (first|apply Kd.R_alloc|apply Kd.R_drewN|apply Kd.R_drew));exact HO130.out))) (Kd.R_lt (by (with_reducible repeat (first|apply Kd.R_alloc|apply Kd.R_drewN|apply Kd.R_drew));exact HO133.out))) (below_size (by repeat (first|(with_reducible first|exact HB.out|apply below_alloc|apply pw_below_drewN|apply below_drew1|refine below_set ?_ GE118.out)|exact HB.out))));have n3_:=Aside0.mk (blk_below (g:=gb118) (o:=.cells #[.int .i64 ((rd_T39 l1 x26_1).f0),.int .i64 ((rd_T39 l1 x26_1).f1),.slice A117_2 ((rd_T39 l1 x26_1).f2).length c117_2] 39 (0,0)) (by (with_reducible repeat (first|refine blk_drewN ?_ _|refine blk_drew ?_|refine blk_alloc ?_ _));exact BK118.out) hb);have n4_:=Aside0.mk (below_step (by repeat (first|(with_reducible first|exact HB.out|apply below_alloc|apply pw_below_drewN|apply below_drew1|refine below_set ?_ GE118.out)|exact HB.out)) hb);clear HO130;clear HO133;clear BK118;clear HB;have HO130:=n0_;have HO133:=n1_;have HO136:=n2_;have BK118:=n3_;have HB:=n4_;clear n0_ n1_ n2_ n3_ n4_;(try clear hb);(try clear hb2);(try clear hk);(try clear hi);(try clear ho0);obtain ⟨Ao34,co34,eo34⟩:=Kd.R_slice HO136.out;subst eo34)|((with_reducible refine gate_builtin (b:=.append) (xs:=#[.tmp 54,.tmp 58]) rfl ?_);at_builtin;refine Kd.R_append_rows (Kd.int .u8) (w0:=w) w.heap.size rfl (.tmp 54) (.tmp 58) 26 5 (.int .u8 0) 1 rfl Try.underlying26 info5 rfl (by decide) (by omega) v132 y131 t134 _ _ _ (fun k_=>some k_ ≠ (.slice Ao30 t128.length co30:Value).ownBlock ∧ some k_ ≠ (.slice Ao34 t134.length co34:Value).ownBlock) (fun _=>False) rfl rfl ?aO ?aR (fun _ _ h=>h) (fun _ h=>h.elim) ?aF ?aB ?aS ?aL ?_;(case aR=>repeat (first|exact (Kd.R_reads' HO136.out).2.2|(with_reducible refine Kd.C_alloc ?_ _)|(with_reducible refine Kd.C_drewN ?_ _)|(with_reducible refine Kd.C_drew ?_)));(case aB=>exact (by repeat (first|(with_reducible first|exact HB.out|apply below_alloc|apply pw_below_drewN|apply below_drew1|refine below_set ?_ GE118.out)|exact HB.out)));(case aF=>exact (fun k_ hk=>⟨Kd.fresh' (Kd.R_lt (by (with_reducible repeat (first|apply Kd.R_alloc|apply Kd.R_drewN|apply Kd.R_drew));exact HO130.out)) k_ hk,Kd.fresh' (Kd.R_lt (by (with_reducible repeat (first|apply Kd.R_alloc|apply Kd.R_drewN|apply Kd.R_drew));exact HO136.out)) k_ hk⟩));(case aO=>exact (by (with_reducible repeat (first|apply Kd.R_alloc|apply Kd.R_drewN|apply Kd.R_drew));exact HO133.out));(case aS=>exact (below_size (by repeat (first|(with_reducible first|exact HB.out|apply below_alloc|apply pw_below_drewN|apply below_drew1|refine below_set ?_ GE118.out)|exact HB.out))));(case aL=>have:=LMc25.out;omega);intro v138 w33 ho hb hg hat;rw [← Ny137.out] at ho;have n0_:=Aside0.mk (blk_grown (g:=gb118) (o:=.cells #[.int .i64 ((rd_T39 l1 x26_1).f0),.int .i64 ((rd_T39 l1 x26_1).f1),.slice A117_2 ((rd_T39 l1 x26_1).f2).length c117_2] 39 (0,0)) (by (with_reducible repeat (first|refine blk_drewN ?_ _|refine blk_drew ?_|refine blk_alloc ?_ _));exact BK118.out) hg (Kd.R_ne HO133.out BK118.out (by decide)));have n1_:=Aside0.mk (Kd.R_after (ok:=(fun k_=>some k_ ≠ (.slice Ao34 t134.length co34:Value).ownBlock)) (by (with_reducible repeat (first|apply Kd.R_alloc|apply Kd.R_drewN|apply Kd.R_drew));exact Kd.R_mono HO130.out (fun _ hk=>⟨hk.2,hk.1.2⟩)) hg hat);have n2_:=Aside0.mk (Kd.R_after (ok:=(fun k_=>some k_ ≠ (.slice Ao30 t128.length co30:Value).ownBlock)) (by (with_reducible repeat (first|apply Kd.R_alloc|apply Kd.R_drewN|apply Kd.R_drew));exact Kd.R_mono HO136.out (fun _ hk=>⟨hk.1.2,hk.2⟩)) hg hat);have n3_:=Aside0.mk (hb);have n4_:=Aside0.mk (ho);clear BK118;clear HO130;clear HO136;clear HB;clear HO133;have BK118:=n0_;have HO130:=n1_;have HO136:=n2_;have HB:=n3_;have HO139:=n4_;clear n0_ n1_ n2_ n3_ n4_;clear ho hb hg hat))
          go_roundg k1
          case measure=>have:=HK1.out;omega
          case rel=>exact ⟨(y137),(wrap64 (x26_1 + 1)),(by first|rfl|(simp;done)|(simp [*];done)),H',⟨by have:=HK1.out;omega⟩,⟨by (with_reducible repeat (first|apply Kd.R_alloc|apply Kd.R_drewN|apply Kd.R_drew));exact Kd.R_mono HO139.out (fun _ hk=>trivial)⟩,⟨by repeat (first|(with_reducible first|exact HB.out|apply below_alloc|apply pw_below_drewN|apply below_drew1|refine below_set ?_ GE118.out)|exact HB.out)⟩⟩
         ·rw [if_neg c25] at H
          exact absurd H (by simp)
        ·rw [if_neg c23] at H
         exact absurd H (by simp)
      ·rw [if_neg c10] at H
       exact absurd H (by simp)
     ·rw [if_neg c9] at H
      exact absurd H (by simp)
    ·rw [if_neg c8] at H
     have c8b0:decide (x26_1 < (l1.length:Int)) = false:=decide_eq_false c8
     clear c8
     simp only [Option.some.injEq,Prod.mk.injEq] at H
     obtain ⟨rfl,rfl⟩:=H
     go_wp2
     go_ret2
     exact ⟨_,by first|rfl|(simp [errW_none,errW_some] <;> rfl)|(simp [*,errW_none,errW_some] <;> rfl),by (with_reducible repeat (first|apply Kd.R_alloc|apply Kd.R_drewN|apply Kd.R_drew));exact HO_8.out,by repeat (first|(with_reducible first|exact HB.out|apply below_alloc|apply pw_below_drewN|apply below_drew1)|exact HB.out)⟩
 ·rw [if_neg c4] at H
  have c4b0:(t113 == 0) = false:=beq_eq_false_iff_ne.mpr c4
  have c4b1:(t113 != 0) = true:=bne_iff_ne.mpr c4
  simp only [Option.some.injEq,Prod.mk.injEq] at H
  obtain ⟨rfl,rfl⟩:=H
  go_enter Try.func36,Try.ntmps36
  go_wp2_with (first|((with_reducible refine gate_callee (f:=23) rfl ?_);refine goesL_ (some 14) rfl rfl Try.func23 (by kernel_rfl) rfl #[.int .i64 a0,.slice A1 l1.length c1] rfl (by (try simp only [List.map_toArray,List.map_cons,List.map_nil]);first|done|rfl|(simp only [List.length_drop,List.length_take];rfl)) ?_;(with_reducible refine (delta_Check.calls a0 _ _ l1 t112 t113 _ ?side1 ?side2 A3.out).mono ?_);(case side1=>repeat (first|exact HR1.out|(with_reducible refine Kd.C_alloc ?_ _)|(with_reducible refine Kd.C_drewN ?_ _)|(with_reducible refine Kd.C_drew ?_)));(case side2=>exact HC1.out);rintro e w35 ⟨rfl,hb⟩;refine ⟨_,rfl,?_⟩;have n0_:=Aside0.mk (below_step (by repeat (first|(with_reducible first|exact HB.out|apply below_alloc|apply pw_below_drewN|apply below_drew1)|exact HB.out)) hb);clear HB;have HB:=n0_;clear n0_;(try clear hb);(try clear hb2);(try clear hk);(try clear hi)))
  go_ret2
  exact ⟨_,by first|rfl|(simp [errW_none,errW_some] <;> rfl)|(simp [*,errW_none,errW_some] <;> rfl),by first|exact Kd.R_nil _ _ _ _ _|exact Kd.N_nil _ _ _ _ _|exact Kd.V_nil _ _ _ _ _|exact Kd.Q_nil _ _ _ _ _|exact Kd.S_nil _ _ _ _ _,by repeat (first|(with_reducible first|exact HB.out|apply below_alloc|apply pw_below_drewN|apply below_drew1)|exact HB.out)⟩

end Go.Proofs.Ytjckjcekapkkjaa.P
