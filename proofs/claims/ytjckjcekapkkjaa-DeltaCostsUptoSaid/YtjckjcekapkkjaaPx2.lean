-- WRITTEN BY myprint.py (wip/tools) for this seat
import Derived.Test.YtjckjcekapkkjaaPx0
import Derived.Test.YtjckjcekapkkjaaHCheck
import Derived.Test.YtjckjcekapkkjaaHPutUint
namespace Go.Proofs.Ytjckjcekapkkjaa.P
open Go.RowKit Go.Proofs.YtjckjcekapkkjaaW.PrintWords Go.Proofs.YtjckjcekapkkjaaW.PrintLast Go.Proofs.YtjckjcekapkkjaaW.PrintMore
attribute [local go_sem] max2_int min2_int max_two min_two max_three min_three max_four min_four   -- for this text's walks alone
set_option linter.unusedVariables false
set_option linter.unusedSimpArgs false

/-! ### delta_Encode: function 36 -/
def delta_Encode.l0:Nat → List Int → List (S39) → Int → Int → Option (List Int × Int)
 | 0,_,_,_,_=>none
 | k + 1,x8,x24,x25,x26=>if x26 < x25 then (if 0 ≤ x26 then (if x26 < (x24.length:Int) then (if (((rd_T39 x24 x26).f2).length:Int) > 0 then ((codec_PutUint.f ([]:List Int) (IntKind.u64.wrap (wrap64 (2 * (((rd_T39 x24 x26).f2).length:Int))))).bind fun t116=>(if x8.length + t116.length < 140737488355328 then ((some (x8 ++ t116:List Int)).bind fun y119=>(if y119.length + ((rd_T39 x24 x26).f2).length < 140737488355328 then (delta_Encode.l0 k (y119 ++ ((rd_T39 x24 x26).f2)) x24 x25 (wrap64 (x26 + 1))) else (none))) else (none))) else ((codec_PutUint.f ([]:List Int) (IntKind.u64.wrap (wrap64 ((wrap64 (2 * ((rd_T39 x24 x26).f1))) + 1)))).bind fun t125=>(if x8.length + t125.length < 140737488355328 then ((some (x8 ++ t125:List Int)).bind fun y128=>((codec_PutUint.f ([]:List Int) (IntKind.u64.wrap ((rd_T39 x24 x26).f0))).bind fun t131=>(if y128.length + t131.length < 140737488355328 then (delta_Encode.l0 k (y128 ++ t131) x24 x25 (wrap64 (x26 + 1))) else (none)))) else (none)))) else (none)) else (none)) else (some (x8,0))
def delta_Encode.f (k:Nat) (a0:Int) (l1:List (S39)):Option (List Int × Int):=(delta_Check.f a0 l1).bind fun bt109=>(if bt109.2 = 0 then ((codec_PutUint.f ([]:List Int) (IntKind.u64.wrap ((l1.length:Int)))).bind fun t111=>(delta_Encode.l0 k t111 l1 (l1.length:Int) 0)) else (some (([]:List Int),bt109.2)))
set_option maxHeartbeats 8000000 in
set_option maxRecDepth 100000 in
theorem delta_Encode.calls (k:Nat) (a0:Int) (A1:Option Addr) (c1:Nat) (l1:List (S39)) (r1:List Int) (r2:Int) (w:World) (hr1:Kd.C k39 w A1 l1.length l1) (hc1:l1.length ≤ c1) (h:delta_Encode.f k a0 l1 = some (r1,r2)) :
  Calls Try.prog 36 #[.int .i64 a0,.slice A1 l1.length c1] w fun e w'=>∃ v0_:Value,e = .returned (.tuple #[v0_,.int .i64 r2]) ∧ Kd.R (Kd.int .u8) 5 w' w.heap.size (fun _=>True) v0_ r1 ∧ Below w.heap.size w w':=by
 have hu39:=Try.underlying39
 have HR1:=Aside0.mk hr1
 have HC1:=Aside0.mk hc1
 clear hr1 hc1
 have HB:=Aside0.mk (Below.refl w.heap.size w)
 have H:((delta_Check.f a0 l1).bind fun bt109=>(if bt109.2 = 0 then ((codec_PutUint.f ([]:List Int) (IntKind.u64.wrap ((l1.length:Int)))).bind fun t111=>(delta_Encode.l0 k t111 l1 (l1.length:Int) 0)) else (some (([]:List Int),bt109.2)))) = some (r1,r2):=h
 clear h
 replace H:=Option.bind_eq_some_iff.mp H
 obtain ⟨⟨t109,t110⟩,A30,H⟩:=H
 replace H:(if t110 = 0 then ((codec_PutUint.f ([]:List Int) (IntKind.u64.wrap ((l1.length:Int)))).bind fun t111=>(delta_Encode.l0 k t111 l1 (l1.length:Int) 0)) else (some (([]:List Int),t110))) = some (r1,r2):=H
 have A3:=Aside0.mk A30
 clear A30
 by_cases c4:t110 = 0
 ·rw [if_pos c4] at H
  have c4b0:(t110 == 0) = true:=beq_iff_eq.mpr c4
  have c4b1:(t110 != 0) = false:=bne_eq_false_iff_eq.mpr c4
  clear c4
  replace H:=Option.bind_eq_some_iff.mp H
  obtain ⟨t111,A50,H⟩:=H
  replace H:(delta_Encode.l0 k t111 l1 (l1.length:Int) 0) = some (r1,r2):=H
  have A5:=Aside0.mk A50
  clear A50
  have H':=Aside0.mk H
  clear H
  go_enter Try.func36,Try.ntmps36
  go_wp2_with (first|((with_reducible refine gate_callee (f:=23) rfl ?_);refine goesL_ (some 14) rfl rfl Try.func23 (by kernel_rfl) rfl #[.int .i64 a0,.slice A1 l1.length c1] rfl (by (try simp only [List.map_toArray,List.map_cons,List.map_nil]);first|done|rfl|(simp only [List.length_drop,List.length_take];rfl)) ?_;(with_reducible refine (delta_Check.calls a0 _ _ l1 t109 t110 _ ?side1 ?side2 A3.out).mono ?_);(case side1=>repeat (first|exact HR1.out|(with_reducible refine Kd.C_alloc ?_ _)|(with_reducible refine Kd.C_drewN ?_ _)|(with_reducible refine Kd.C_drew ?_)));(case side2=>exact HC1.out);rintro e w6 ⟨rfl,hb⟩;refine ⟨_,rfl,?_⟩;have n0_:=Aside0.mk (below_step (by repeat (first|(with_reducible first|exact HB.out|apply below_alloc|apply pw_below_drewN|apply below_drew1)|exact HB.out)) hb);clear HB;have HB:=n0_;clear n0_;(try clear hb);(try clear hb2);(try clear hk);(try clear hi))|((with_reducible refine gate_callee (f:=51) rfl ?_);refine goesL_ (some 23) rfl rfl Try.func51 (by kernel_rfl) rfl #[.slice none 0 0,.int .u64 (IntKind.u64.wrap ((l1.length:Int)))] rfl (by (try simp only [List.map_toArray,List.map_cons,List.map_nil]);first|done|rfl|(simp only [List.length_drop,List.length_take];rfl)) ?_;(refine (codec_PutUint.calls _ _ ([]:List Int) (IntKind.u64.wrap ((l1.length:Int))) t111 _ ?side1 ?side2 A5.out).mono ?_);(case side1=>exact Kd.C_nil _ _);(case side2=>exact Nat.le_refl _);rintro e w7 ⟨v112,rfl,ho0,hb⟩;refine ⟨_,rfl,?_⟩;have n0_:=Aside0.mk (Kd.R_lower ho0 (below_size (by repeat (first|(with_reducible first|exact HB.out|apply below_alloc|apply pw_below_drewN|apply below_drew1)|exact HB.out))));have n1_:=Aside0.mk (below_step (by repeat (first|(with_reducible first|exact HB.out|apply below_alloc|apply pw_below_drewN|apply below_drew1)|exact HB.out)) hb);clear HB;have HO113:=n0_;have HB:=n1_;clear n0_ n1_;(try clear hb);(try clear hb2);(try clear hk);(try clear hi);(try clear ho0)))
  go_loopg [8,26] k (fun kq v8 v26 w'=>∃ (x8_1:List Int) (x26_1:Int),v26 = .int .i64 x26_1 ∧ Aside0 (delta_Encode.l0 kq x8_1 l1 (l1.length:Int) x26_1 = some (r1,r2)) ∧ Aside0 (kq ≤ k) ∧ Aside0 (Kd.R (Kd.int .u8) 5 w' w.heap.size (fun _=>True) v8 x8_1) ∧ Aside0 (Below w.heap.size w w'))
  case atStart=>exact ⟨(t111),(0),(by first|rfl|(simp;done)|(simp [*];done)),H',⟨Nat.le_refl _⟩,⟨by (with_reducible repeat (first|apply Kd.R_alloc|apply Kd.R_drewN|apply Kd.R_drew));exact HO113.out⟩,⟨by repeat (first|(with_reducible first|exact HB.out|apply below_alloc|apply pw_below_drewN|apply below_drew1)|exact HB.out)⟩⟩
  case round =>
   clear H'
   try clear c1
   try clear c2
   try clear p2
   try clear c3
   try clear c4
   try clear c4b0
   try clear c4b1
   try clear c5
   obtain ⟨x8_1,x26_1,rfl,HA,HK1,HO_8,HB⟩:=hrel
   cases gk with
   | zero=>exact absurd HA.out (by simp [delta_Encode.l0])
   | succ k1 =>
    have H:=HA.out
    clear HA
    simp only [delta_Encode.l0] at H
    by_cases c8:x26_1 < (l1.length:Int)
    ·rw [if_pos c8] at H
     have c8b0:decide (x26_1 < (l1.length:Int)) = true:=decide_eq_true c8
     clear c8
     by_cases c9:0 ≤ x26_1
     ·rw [if_pos c9] at H
      have c9b0:decide (0 ≤ x26_1) = true:=decide_eq_true c9
      clear c9
      by_cases c10:x26_1 < (l1.length:Int)
      ·rw [if_pos c10] at H
       have c10b0:decide (x26_1 < (l1.length:Int)) = true:=decide_eq_true c10
       clear c10
       by_cases c11:(((rd_T39 l1 x26_1).f2).length:Int) > 0
       ·rw [if_pos c11] at H
        have c11b0:decide (0 < (((rd_T39 l1 x26_1).f2).length:Int)) = true:=decide_eq_true c11
        have c11b1:decide (0 < ((rd_T39 l1 x26_1).f2).length) = true:=decide_eq_true (by omega)
        clear c11
        replace H:=Option.bind_eq_some_iff.mp H
        obtain ⟨t116,A120,H⟩:=H
        replace H:(if x8_1.length + t116.length < 140737488355328 then ((some (x8_1 ++ t116:List Int)).bind fun y119=>(if y119.length + ((rd_T39 l1 x26_1).f2).length < 140737488355328 then (delta_Encode.l0 k1 (y119 ++ ((rd_T39 l1 x26_1).f2)) l1 (l1.length:Int) (wrap64 (x26_1 + 1))) else (none))) else (none)) = some (r1,r2):=H
        have A12:=Aside0.mk A120
        clear A120
        by_cases c13:x8_1.length + t116.length < 140737488355328
        ·rw [if_pos c13] at H
         have LMc13:=Aside0.mk c13
         clear c13
         obtain ⟨y119,hy119⟩:∃ y_:List Int,y_ = (x8_1 ++ t116):=⟨_,rfl⟩
         replace H:(if y119.length + ((rd_T39 l1 x26_1).f2).length < 140737488355328 then (delta_Encode.l0 k1 (y119 ++ ((rd_T39 l1 x26_1).f2)) l1 (l1.length:Int) (wrap64 (x26_1 + 1))) else (none)) = some (r1,r2):=by first|(rw [hy119];with_reducible exact H)|(have H2_:=(Option.bind_some _ _).symm.trans H;rw [hy119];with_reducible exact H2_)|(have H2_:=(Option.bind_some _ _).symm.trans H;with_reducible exact H2_)|with_reducible exact H|(rw [hy119];exact H)|exact H
         have Ny119:=Aside0.mk hy119
         clear hy119
         by_cases c14:y119.length + ((rd_T39 l1 x26_1).f2).length < 140737488355328
         ·rw [if_pos c14] at H
          have LMc14:=Aside0.mk c14
          clear c14
          obtain ⟨y122,hy122⟩:∃ y_:List Int,y_ = (y119 ++ ((rd_T39 l1 x26_1).f2)):=⟨_,rfl⟩
          replace H:(delta_Encode.l0 k1 y122 l1 (l1.length:Int) (wrap64 (x26_1 + 1))) = some (r1,r2):=by first|(rw [hy122];with_reducible exact H)|(have H2_:=(Option.bind_some _ _).symm.trans H;rw [hy122];with_reducible exact H2_)|(have H2_:=(Option.bind_some _ _).symm.trans H;with_reducible exact H2_)|with_reducible exact H|(rw [hy122];exact H)|exact H
          have Ny122:=Aside0.mk hy122
          clear hy122
          have H':=Aside0.mk H
          clear H
          have p114:0 ≤ (x26_1:Int):=of_decide_eq_true (by first|(with_reducible assumption)|assumption)
          have q114:x26_1 < (l1.length:Int):=of_decide_eq_true (by first|(with_reducible assumption)|assumption)
          obtain ⟨ad114,A114_2,c114_2,e114,hx114_0,hx114_1,hx114_2,hl114_2,hi114_2⟩:=at_T39 HR1.out x26_1 p114 q114
          cases e114
          have hu114_2:=Aside0.mk hx114_2
          replace hx114_0:=(HB.out.cell (World.block_lt_of_cell? w _ hx114_0)).trans hx114_0
          replace hx114_1:=(HB.out.cell (World.block_lt_of_cell? w _ hx114_1)).trans hx114_1
          replace hx114_2:=(HB.out.cell (World.block_lt_of_cell? w _ hx114_2)).trans hx114_2
          have HR114_2:=Aside0.mk hi114_2
          have HC114_2:=Aside0.mk hl114_2
          clear hi114_2 hl114_2
          replace p114:=eq_true p114
          replace q114:=eq_true q114
          go_wp2_with (first|((with_reducible refine gate_dst (N:=10) rfl ?_);refine box_event ?hg (N:=10) ?hd (cs:=#[.int .i64 0,.int .i64 0,.slice none 0 0]) (t:=39) ?hr ?_;(case hd=>rfl);(case hg=>rfl);(case hr=>first|(go_simp;done)|(go_simp;rfl));intro gb115 hg w15 hbox hb;have n0_:=Aside0.mk (Kd.R_below (by (with_reducible repeat (first|apply Kd.R_alloc|apply Kd.R_drewN|apply Kd.R_drew));exact HO_8.out) hb);have n1_:=Aside0.mk (below_step (by repeat (first|(with_reducible first|exact HB.out|apply below_alloc|apply pw_below_drewN|apply below_drew1)|exact HB.out)) hb);have n2_:=Aside0.mk (hbox);have n3_:=Aside0.mk ((by rw [hg];exact (below_size (by repeat (first|(with_reducible first|exact HB.out|apply below_alloc|apply pw_below_drewN|apply below_drew1)|exact HB.out))):w.heap.size ≤ gb115));have n4_:=Aside0.mk ((by rw [hg];exact (below_size (by repeat (first|(with_reducible first|exact HB.out|apply below_alloc|apply pw_below_drewN|apply below_drew1)|exact HB.out))):w.heap.size ≤ gb115));clear HO_8;clear HB;have HO_8:=n0_;have HB:=n1_;have BK115:=n2_;have GW115:=n3_;have GE115:=n4_;clear n0_ n1_ n2_ n3_ n4_;clear hb hbox hg;have hcz16_0:w15.cell? ⟨gb115,0,none⟩ = some (.int .i64 0):=(blk_cell BK115.out 0).trans rfl;have hcz16_1:w15.cell? ⟨gb115,1,none⟩ = some (.int .i64 0):=(blk_cell BK115.out 1).trans rfl;have hcz16_2:w15.cell? ⟨gb115,2,none⟩ = some (.slice none 0 0):=(blk_cell BK115.out 2).trans rfl;have hfz16_0:=blk_frozen BK115.out 0;have hfz16_1:=blk_frozen BK115.out 1;have hfz16_2:=blk_frozen BK115.out 2)|((with_reducible refine gate_callee (f:=51) rfl ?_);refine goesL_ (some 40) rfl rfl Try.func51 (by kernel_rfl) rfl #[.slice none 0 0,.int .u64 (IntKind.u64.wrap (wrap64 (2 * (((rd_T39 l1 x26_1).f2).length:Int))))] rfl (by (try simp only [List.map_toArray,List.map_cons,List.map_nil]);first|done|rfl|(simp only [List.length_drop,List.length_take];rfl)) ?_;(refine (codec_PutUint.calls _ _ ([]:List Int) (IntKind.u64.wrap (wrap64 (2 * (((rd_T39 l1 x26_1).f2).length:Int)))) t116 _ ?side1 ?side2 A12.out).mono ?_);(case side1=>exact Kd.C_nil _ _);(case side2=>exact Nat.le_refl _);rintro e w17 ⟨v117,rfl,ho0,hb⟩;refine ⟨_,rfl,?_⟩;have n0_:=Aside0.mk (Kd.R_elder' (by (with_reducible repeat (first|apply Kd.R_alloc|apply Kd.R_drewN|apply Kd.R_drew));exact (Kd.R_mono (Kd.R_far (p:=⟨gb115,2,none⟩) (Kd.R_far (p:=⟨gb115,1,none⟩) (Kd.R_far (p:=⟨gb115,0,none⟩) (Kd.R_types HO_8.out BK115.out (by decide)) (fun _ hk=>hk.2) (.int .i64 ((rd_T39 l1 x26_1).f0))) (fun _ hk=>hk.2) (.int .i64 ((rd_T39 l1 x26_1).f1))) (fun _ hk=>hk.2) (.slice A114_2 ((rd_T39 l1 x26_1).f2).length c114_2)) (fun _ h_=>h_.1))) (Kd.R_base ho0) hb);have n1_:=Aside0.mk (Kd.R_lower (Kd.R_new' ho0 (Kd.R_lt (by (with_reducible repeat (first|apply Kd.R_alloc|apply Kd.R_drewN|apply Kd.R_drew));exact (Kd.R_mono (Kd.R_far (p:=⟨gb115,2,none⟩) (Kd.R_far (p:=⟨gb115,1,none⟩) (Kd.R_far (p:=⟨gb115,0,none⟩) (Kd.R_types HO_8.out BK115.out (by decide)) (fun _ hk=>hk.2) (.int .i64 ((rd_T39 l1 x26_1).f0))) (fun _ hk=>hk.2) (.int .i64 ((rd_T39 l1 x26_1).f1))) (fun _ hk=>hk.2) (.slice A114_2 ((rd_T39 l1 x26_1).f2).length c114_2)) (fun _ h_=>h_.1))))) (below_size (by repeat (first|(with_reducible first|exact HB.out|apply below_alloc|apply pw_below_drewN|apply below_drew1|refine below_set ?_ GE115.out)|exact HB.out))));have n2_:=Aside0.mk (blk_below (g:=gb115) (o:=.cells #[.int .i64 ((rd_T39 l1 x26_1).f0),.int .i64 ((rd_T39 l1 x26_1).f1),.slice A114_2 ((rd_T39 l1 x26_1).f2).length c114_2] 39 (0,0)) (by (with_reducible repeat (first|refine blk_drewN ?_ _|refine blk_drew ?_|refine blk_alloc ?_ _));refine blk_put (cs:=#[.int .i64 ((rd_T39 l1 x26_1).f0),.int .i64 ((rd_T39 l1 x26_1).f1),.slice none 0 0]) ?_ 2 _ rfl;(with_reducible repeat (first|refine blk_drewN ?_ _|refine blk_drew ?_|refine blk_alloc ?_ _));refine blk_put (cs:=#[.int .i64 ((rd_T39 l1 x26_1).f0),.int .i64 0,.slice none 0 0]) ?_ 1 _ rfl;(with_reducible repeat (first|refine blk_drewN ?_ _|refine blk_drew ?_|refine blk_alloc ?_ _));refine blk_put (cs:=#[.int .i64 0,.int .i64 0,.slice none 0 0]) ?_ 0 _ rfl;(with_reducible repeat (first|refine blk_drewN ?_ _|refine blk_drew ?_|refine blk_alloc ?_ _));exact BK115.out) hb);have n3_:=Aside0.mk (below_step (by repeat (first|(with_reducible first|exact HB.out|apply below_alloc|apply pw_below_drewN|apply below_drew1|refine below_set ?_ GE115.out)|exact HB.out)) hb);clear HO_8;clear BK115;clear HB;have HO_8:=n0_;have HO118:=n1_;have BK115:=n2_;have HB:=n3_;clear n0_ n1_ n2_ n3_;(try clear hb);(try clear hb2);(try clear hk);(try clear hi);(try clear ho0);obtain ⟨Ao19,co19,eo19⟩:=Kd.R_slice HO118.out;subst eo19)|((with_reducible refine gate_builtin (b:=.append) (xs:=#[.tmp 34,.tmp 40]) rfl ?_);at_builtin;refine Kd.R_append_rows (Kd.int .u8) (w0:=w) w.heap.size rfl (.tmp 34) (.tmp 40) 26 5 (.int .u8 0) 1 rfl Try.underlying26 info5 rfl (by decide) (by omega) u8 x8_1 t116 _ _ _ (fun k_=>some k_ ≠ (.slice Ao19 t116.length co19:Value).ownBlock) (fun _=>False) rfl rfl ?aO ?aR (fun _ _ h=>h) (fun _ h=>h.elim) ?aF ?aB ?aS ?aL ?_;(case aR=>repeat (first|exact (Kd.R_reads' HO118.out).2.2|(with_reducible refine Kd.C_alloc ?_ _)|(with_reducible refine Kd.C_drewN ?_ _)|(with_reducible refine Kd.C_drew ?_)));(case aB=>exact (by repeat (first|(with_reducible first|exact HB.out|apply below_alloc|apply pw_below_drewN|apply below_drew1|refine below_set ?_ GE115.out)|exact HB.out)));(case aF=>exact (fun k_ hk=>Kd.fresh' (Kd.R_lt (by (with_reducible repeat (first|apply Kd.R_alloc|apply Kd.R_drewN|apply Kd.R_drew));exact HO118.out)) k_ hk));(case aO=>exact (by (with_reducible repeat (first|apply Kd.R_alloc|apply Kd.R_drewN|apply Kd.R_drew));exact Kd.R_mono HO_8.out (fun _ hk=>hk.2)));(case aS=>exact (below_size (by repeat (first|(with_reducible first|exact HB.out|apply below_alloc|apply pw_below_drewN|apply below_drew1|refine below_set ?_ GE115.out)|exact HB.out))));(case aL=>have:=LMc13.out;omega);intro v120 w18 ho hb hg hat;rw [← Ny119.out] at ho;have n0_:=Aside0.mk (blk_grown (g:=gb115) (o:=.cells #[.int .i64 ((rd_T39 l1 x26_1).f0),.int .i64 ((rd_T39 l1 x26_1).f1),.slice A114_2 ((rd_T39 l1 x26_1).f2).length c114_2] 39 (0,0)) (by (with_reducible repeat (first|refine blk_drewN ?_ _|refine blk_drew ?_|refine blk_alloc ?_ _));exact BK115.out) hg (Kd.R_ne HO_8.out BK115.out (by decide)));have n1_:=Aside0.mk (Kd.R_after (ok:=(fun _=>True)) (by (with_reducible repeat (first|apply Kd.R_alloc|apply Kd.R_drewN|apply Kd.R_drew));exact HO118.out) hg hat);have n2_:=Aside0.mk (hb);have n3_:=Aside0.mk (ho);clear BK115;clear HO118;clear HB;clear HO_8;have BK115:=n0_;have HO118:=n1_;have HB:=n2_;have HO121:=n3_;clear n0_ n1_ n2_ n3_;clear ho hb hg hat;have hcz20_0:w18.cell? ⟨gb115,0,none⟩ = some (.int .i64 ((rd_T39 l1 x26_1).f0)):=(blk_cell BK115.out 0).trans rfl;have hcz20_1:w18.cell? ⟨gb115,1,none⟩ = some (.int .i64 ((rd_T39 l1 x26_1).f1)):=(blk_cell BK115.out 1).trans rfl;have hcz20_2:w18.cell? ⟨gb115,2,none⟩ = some (.slice A114_2 ((rd_T39 l1 x26_1).f2).length c114_2):=(blk_cell BK115.out 2).trans rfl;have hfz20_0:=blk_frozen BK115.out 0;have hfz20_1:=blk_frozen BK115.out 1;have hfz20_2:=blk_frozen BK115.out 2)|((with_reducible refine gate_builtin (b:=.append) (xs:=#[.tmp 42,.tmp 44]) rfl ?_);at_builtin;refine Kd.R_append_rows (Kd.int .u8) (w0:=w) w.heap.size rfl (.tmp 42) (.tmp 44) 26 5 (.int .u8 0) 1 rfl Try.underlying26 info5 rfl (by decide) (by omega) v120 y119 ((rd_T39 l1 x26_1).f2) _ _ _ (fun k_=>some k_ ≠ (.slice Ao19 t116.length co19:Value).ownBlock) (fun _=>False) rfl rfl ?aO ?aR (fun _ _ h=>h) (fun _ h=>h.elim) ?aF ?aB ?aS ?aL ?_;(case aR=>repeat (first|exact (Kd.C_below HR114_2.out HB.out)|(with_reducible refine Kd.C_alloc ?_ _)|(with_reducible refine Kd.C_drewN ?_ _)|(with_reducible refine Kd.C_drew ?_)));(case aB=>exact (by repeat (first|(with_reducible first|exact HB.out|apply below_alloc|apply pw_below_drewN|apply below_drew1|refine below_set ?_ GE115.out)|exact HB.out)));(case aF=>exact (fun k_ hk=>Kd.fresh' (Kd.R_lt (by (with_reducible repeat (first|apply Kd.R_alloc|apply Kd.R_drewN|apply Kd.R_drew));exact HO118.out)) k_ hk));(case aO=>exact (by (with_reducible repeat (first|apply Kd.R_alloc|apply Kd.R_drewN|apply Kd.R_drew));exact HO121.out));(case aS=>exact (below_size (by repeat (first|(with_reducible first|exact HB.out|apply below_alloc|apply pw_below_drewN|apply below_drew1|refine below_set ?_ GE115.out)|exact HB.out))));(case aL=>have:=LMc14.out;omega);intro v123 w21 ho hb hg hat;rw [← Ny122.out] at ho;have n0_:=Aside0.mk (blk_grown (g:=gb115) (o:=.cells #[.int .i64 ((rd_T39 l1 x26_1).f0),.int .i64 ((rd_T39 l1 x26_1).f1),.slice A114_2 ((rd_T39 l1 x26_1).f2).length c114_2] 39 (0,0)) (by (with_reducible repeat (first|refine blk_drewN ?_ _|refine blk_drew ?_|refine blk_alloc ?_ _));exact BK115.out) hg (Kd.R_ne HO121.out BK115.out (by decide)));have n1_:=Aside0.mk (Kd.R_after (ok:=(fun _=>True)) (by (with_reducible repeat (first|apply Kd.R_alloc|apply Kd.R_drewN|apply Kd.R_drew));exact HO118.out) hg hat);have n2_:=Aside0.mk (hb);have n3_:=Aside0.mk (ho);clear BK115;clear HO118;clear HB;clear HO121;have BK115:=n0_;have HO118:=n1_;have HB:=n2_;have HO124:=n3_;clear n0_ n1_ n2_ n3_;clear ho hb hg hat))
          go_roundg k1
          case measure=>have:=HK1.out;omega
          case rel=>exact ⟨(y122),(wrap64 (x26_1 + 1)),(by first|rfl|(simp;done)|(simp [*];done)),H',⟨by have:=HK1.out;omega⟩,⟨by (with_reducible repeat (first|apply Kd.R_alloc|apply Kd.R_drewN|apply Kd.R_drew));exact Kd.R_mono HO124.out (fun _ hk=>trivial)⟩,⟨by repeat (first|(with_reducible first|exact HB.out|apply below_alloc|apply pw_below_drewN|apply below_drew1|refine below_set ?_ GE115.out)|exact HB.out)⟩⟩
         ·rw [if_neg c14] at H
          exact absurd H (by simp)
        ·rw [if_neg c13] at H
         exact absurd H (by simp)
       ·rw [if_neg c11] at H
        have c11b0:decide (0 < (((rd_T39 l1 x26_1).f2).length:Int)) = false:=decide_eq_false c11
        have c11b1:decide (0 < ((rd_T39 l1 x26_1).f2).length) = false:=decide_eq_false (by omega)
        clear c11
        replace H:=Option.bind_eq_some_iff.mp H
        obtain ⟨t125,A220,H⟩:=H
        replace H:(if x8_1.length + t125.length < 140737488355328 then ((some (x8_1 ++ t125:List Int)).bind fun y128=>((codec_PutUint.f ([]:List Int) (IntKind.u64.wrap ((rd_T39 l1 x26_1).f0))).bind fun t131=>(if y128.length + t131.length < 140737488355328 then (delta_Encode.l0 k1 (y128 ++ t131) l1 (l1.length:Int) (wrap64 (x26_1 + 1))) else (none)))) else (none)) = some (r1,r2):=H
        have A22:=Aside0.mk A220
        clear A220
        by_cases c23:x8_1.length + t125.length < 140737488355328
        ·rw [if_pos c23] at H
         have LMc23:=Aside0.mk c23
         clear c23
         obtain ⟨y128,hy128⟩:∃ y_:List Int,y_ = (x8_1 ++ t125):=⟨_,rfl⟩
         replace H:((codec_PutUint.f ([]:List Int) (IntKind.u64.wrap ((rd_T39 l1 x26_1).f0))).bind fun t131=>(if y128.length + t131.length < 140737488355328 then (delta_Encode.l0 k1 (y128 ++ t131) l1 (l1.length:Int) (wrap64 (x26_1 + 1))) else (none))) = some (r1,r2):=by first|(rw [hy128];with_reducible exact H)|(have H2_:=(Option.bind_some _ _).symm.trans H;rw [hy128];with_reducible exact H2_)|(have H2_:=(Option.bind_some _ _).symm.trans H;with_reducible exact H2_)|with_reducible exact H|(rw [hy128];exact H)|exact H
         have Ny128:=Aside0.mk hy128
         clear hy128
         replace H:=Option.bind_eq_some_iff.mp H
         obtain ⟨t131,A240,H⟩:=H
         replace H:(if y128.length + t131.length < 140737488355328 then (delta_Encode.l0 k1 (y128 ++ t131) l1 (l1.length:Int) (wrap64 (x26_1 + 1))) else (none)) = some (r1,r2):=H
         have A24:=Aside0.mk A240
         clear A240
         by_cases c25:y128.length + t131.length < 140737488355328
         ·rw [if_pos c25] at H
          have LMc25:=Aside0.mk c25
          clear c25
          obtain ⟨y134,hy134⟩:∃ y_:List Int,y_ = (y128 ++ t131):=⟨_,rfl⟩
          replace H:(delta_Encode.l0 k1 y134 l1 (l1.length:Int) (wrap64 (x26_1 + 1))) = some (r1,r2):=by first|(rw [hy134];with_reducible exact H)|(have H2_:=(Option.bind_some _ _).symm.trans H;rw [hy134];with_reducible exact H2_)|(have H2_:=(Option.bind_some _ _).symm.trans H;with_reducible exact H2_)|with_reducible exact H|(rw [hy134];exact H)|exact H
          have Ny134:=Aside0.mk hy134
          clear hy134
          have H':=Aside0.mk H
          clear H
          have p114:0 ≤ (x26_1:Int):=of_decide_eq_true (by first|(with_reducible assumption)|assumption)
          have q114:x26_1 < (l1.length:Int):=of_decide_eq_true (by first|(with_reducible assumption)|assumption)
          obtain ⟨ad114,A114_2,c114_2,e114,hx114_0,hx114_1,hx114_2,hl114_2,hi114_2⟩:=at_T39 HR1.out x26_1 p114 q114
          cases e114
          have hu114_2:=Aside0.mk hx114_2
          replace hx114_0:=(HB.out.cell (World.block_lt_of_cell? w _ hx114_0)).trans hx114_0
          replace hx114_1:=(HB.out.cell (World.block_lt_of_cell? w _ hx114_1)).trans hx114_1
          replace hx114_2:=(HB.out.cell (World.block_lt_of_cell? w _ hx114_2)).trans hx114_2
          have HR114_2:=Aside0.mk hi114_2
          have HC114_2:=Aside0.mk hl114_2
          clear hi114_2 hl114_2
          replace p114:=eq_true p114
          replace q114:=eq_true q114
          go_wp2_with (first|((with_reducible refine gate_dst (N:=10) rfl ?_);refine box_event ?hg (N:=10) ?hd (cs:=#[.int .i64 0,.int .i64 0,.slice none 0 0]) (t:=39) ?hr ?_;(case hd=>rfl);(case hg=>rfl);(case hr=>first|(go_simp;done)|(go_simp;rfl));intro gb115 hg w26 hbox hb;have n0_:=Aside0.mk (Kd.R_below (by (with_reducible repeat (first|apply Kd.R_alloc|apply Kd.R_drewN|apply Kd.R_drew));exact HO_8.out) hb);have n1_:=Aside0.mk (below_step (by repeat (first|(with_reducible first|exact HB.out|apply below_alloc|apply pw_below_drewN|apply below_drew1)|exact HB.out)) hb);have n2_:=Aside0.mk (hbox);have n3_:=Aside0.mk ((by rw [hg];exact (below_size (by repeat (first|(with_reducible first|exact HB.out|apply below_alloc|apply pw_below_drewN|apply below_drew1)|exact HB.out))):w.heap.size ≤ gb115));have n4_:=Aside0.mk ((by rw [hg];exact (below_size (by repeat (first|(with_reducible first|exact HB.out|apply below_alloc|apply pw_below_drewN|apply below_drew1)|exact HB.out))):w.heap.size ≤ gb115));clear HO_8;clear HB;have HO_8:=n0_;have HB:=n1_;have BK115:=n2_;have GW115:=n3_;have GE115:=n4_;clear n0_ n1_ n2_ n3_ n4_;clear hb hbox hg;have hcz27_0:w26.cell? ⟨gb115,0,none⟩ = some (.int .i64 0):=(blk_cell BK115.out 0).trans rfl;have hcz27_1:w26.cell? ⟨gb115,1,none⟩ = some (.int .i64 0):=(blk_cell BK115.out 1).trans rfl;have hcz27_2:w26.cell? ⟨gb115,2,none⟩ = some (.slice none 0 0):=(blk_cell BK115.out 2).trans rfl;have hfz27_0:=blk_frozen BK115.out 0;have hfz27_1:=blk_frozen BK115.out 1;have hfz27_2:=blk_frozen BK115.out 2)|((with_reducible refine gate_callee (f:=51) rfl ?_);refine goesL_ (some 52) rfl rfl Try.func51 (by kernel_rfl) rfl #[.slice none 0 0,.int .u64 (IntKind.u64.wrap (wrap64 ((wrap64 (2 * ((rd_T39 l1 x26_1).f1))) + 1)))] rfl (by (try simp only [List.map_toArray,List.map_cons,List.map_nil]);first|done|rfl|(simp only [List.length_drop,List.length_take];rfl)) ?_;(refine (codec_PutUint.calls _ _ ([]:List Int) (IntKind.u64.wrap (wrap64 ((wrap64 (2 * ((rd_T39 l1 x26_1).f1))) + 1))) t125 _ ?side1 ?side2 A22.out).mono ?_);(case side1=>exact Kd.C_nil _ _);(case side2=>exact Nat.le_refl _);rintro e w28 ⟨v126,rfl,ho0,hb⟩;refine ⟨_,rfl,?_⟩;have n0_:=Aside0.mk (Kd.R_elder' (by (with_reducible repeat (first|apply Kd.R_alloc|apply Kd.R_drewN|apply Kd.R_drew));exact (Kd.R_mono (Kd.R_far (p:=⟨gb115,2,none⟩) (Kd.R_far (p:=⟨gb115,1,none⟩) (Kd.R_far (p:=⟨gb115,0,none⟩) (Kd.R_types HO_8.out BK115.out (by decide)) (fun _ hk=>hk.2) (.int .i64 ((rd_T39 l1 x26_1).f0))) (fun _ hk=>hk.2) (.int .i64 ((rd_T39 l1 x26_1).f1))) (fun _ hk=>hk.2) (.slice A114_2 ((rd_T39 l1 x26_1).f2).length c114_2)) (fun _ h_=>h_.1))) (Kd.R_base ho0) hb);have n1_:=Aside0.mk (Kd.R_lower (Kd.R_new' ho0 (Kd.R_lt (by (with_reducible repeat (first|apply Kd.R_alloc|apply Kd.R_drewN|apply Kd.R_drew));exact (Kd.R_mono (Kd.R_far (p:=⟨gb115,2,none⟩) (Kd.R_far (p:=⟨gb115,1,none⟩) (Kd.R_far (p:=⟨gb115,0,none⟩) (Kd.R_types HO_8.out BK115.out (by decide)) (fun _ hk=>hk.2) (.int .i64 ((rd_T39 l1 x26_1).f0))) (fun _ hk=>hk.2) (.int .i64 ((rd_T39 l1 x26_1).f1))) (fun _ hk=>hk.2) (.slice A114_2 ((rd_T39 l1 x26_1).f2).length c114_2)) (fun _ h_=>h_.1))))) (below_size (by repeat (first|(with_reducible first|exact HB.out|apply below_alloc|apply pw_below_drewN|apply below_drew1|refine below_set ?_ GE115.out)|exact HB.out))));have n2_:=Aside0.mk (blk_below (g:=gb115) (o:=.cells #[.int .i64 ((rd_T39 l1 x26_1).f0),.int .i64 ((rd_T39 l1 x26_1).f1),.slice A114_2 ((rd_T39 l1 x26_1).f2).length c114_2] 39 (0,0)) (by (with_reducible repeat (first|refine blk_drewN ?_ _|refine blk_drew ?_|refine blk_alloc ?_ _));refine blk_put (cs:=#[.int .i64 ((rd_T39 l1 x26_1).f0),.int .i64 ((rd_T39 l1 x26_1).f1),.slice none 0 0]) ?_ 2 _ rfl;(with_reducible repeat (first|refine blk_drewN ?_ _|refine blk_drew ?_|refine blk_alloc ?_ _));refine blk_put (cs:=#[.int .i64 ((rd_T39 l1 x26_1).f0),.int .i64 0,.slice none 0 0]) ?_ 1 _ rfl;(with_reducible repeat (first|refine blk_drewN ?_ _|refine blk_drew ?_|refine blk_alloc ?_ _));refine blk_put (cs:=#[.int .i64 0,.int .i64 0,.slice none 0 0]) ?_ 0 _ rfl;(with_reducible repeat (first|refine blk_drewN ?_ _|refine blk_drew ?_|refine blk_alloc ?_ _));exact BK115.out) hb);have n3_:=Aside0.mk (below_step (by repeat (first|(with_reducible first|exact HB.out|apply below_alloc|apply pw_below_drewN|apply below_drew1|refine below_set ?_ GE115.out)|exact HB.out)) hb);clear HO_8;clear BK115;clear HB;have HO_8:=n0_;have HO127:=n1_;have BK115:=n2_;have HB:=n3_;clear n0_ n1_ n2_ n3_;(try clear hb);(try clear hb2);(try clear hk);(try clear hi);(try clear ho0);obtain ⟨Ao30,co30,eo30⟩:=Kd.R_slice HO127.out;subst eo30)|((with_reducible refine gate_builtin (b:=.append) (xs:=#[.tmp 46,.tmp 52]) rfl ?_);at_builtin;refine Kd.R_append_rows (Kd.int .u8) (w0:=w) w.heap.size rfl (.tmp 46) (.tmp 52) 26 5 (.int .u8 0) 1 rfl Try.underlying26 info5 rfl (by decide) (by omega) u8 x8_1 t125 _ _ _ (fun k_=>some k_ ≠ (.slice Ao30 t125.length co30:Value).ownBlock) (fun _=>False) rfl rfl ?aO ?aR (fun _ _ h=>h) (fun _ h=>h.elim) ?aF ?aB ?aS ?aL ?_;(case aR=>repeat (first|exact (Kd.R_reads' HO127.out).2.2|(with_reducible refine Kd.C_alloc ?_ _)|(with_reducible refine Kd.C_drewN ?_ _)|(with_reducible refine Kd.C_drew ?_)));(case aB=>exact (by repeat (first|(with_reducible first|exact HB.out|apply below_alloc|apply pw_below_drewN|apply below_drew1|refine below_set ?_ GE115.out)|exact HB.out)));(case aF=>exact (fun k_ hk=>Kd.fresh' (Kd.R_lt (by (with_reducible repeat (first|apply Kd.R_alloc|apply Kd.R_drewN|apply Kd.R_drew));exact HO127.out)) k_ hk));(case aO=>exact (by (with_reducible repeat (first|apply Kd.R_alloc|apply Kd.R_drewN|apply Kd.R_drew));exact Kd.R_mono HO_8.out (fun _ hk=>hk.2)));(case aS=>exact (below_size (by repeat (first|(with_reducible first|exact HB.out|apply below_alloc|apply pw_below_drewN|apply below_drew1|refine below_set ?_ GE115.out)|exact HB.out))));(case aL=>have:=LMc23.out;omega);intro v129 w29 ho hb hg hat;rw [← Ny128.out] at ho;have n0_:=Aside0.mk (blk_grown (g:=gb115) (o:=.cells #[.int .i64 ((rd_T39 l1 x26_1).f0),.int .i64 ((rd_T39 l1 x26_1).f1),.slice A114_2 ((rd_T39 l1 x26_1).f2).length c114_2] 39 (0,0)) (by (with_reducible repeat (first|refine blk_drewN ?_ _|refine blk_drew ?_|refine blk_alloc ?_ _));exact BK115.out) hg (Kd.R_ne HO_8.out BK115.out (by decide)));have n1_:=Aside0.mk (Kd.R_after (ok:=(fun _=>True)) (by (with_reducible repeat (first|apply Kd.R_alloc|apply Kd.R_drewN|apply Kd.R_drew));exact HO127.out) hg hat);have n2_:=Aside0.mk (hb);have n3_:=Aside0.mk (ho);clear BK115;clear HO127;clear HB;clear HO_8;have BK115:=n0_;have HO127:=n1_;have HB:=n2_;have HO130:=n3_;clear n0_ n1_ n2_ n3_;clear ho hb hg hat;have hcz31_0:w29.cell? ⟨gb115,0,none⟩ = some (.int .i64 ((rd_T39 l1 x26_1).f0)):=(blk_cell BK115.out 0).trans rfl;have hcz31_1:w29.cell? ⟨gb115,1,none⟩ = some (.int .i64 ((rd_T39 l1 x26_1).f1)):=(blk_cell BK115.out 1).trans rfl;have hcz31_2:w29.cell? ⟨gb115,2,none⟩ = some (.slice A114_2 ((rd_T39 l1 x26_1).f2).length c114_2):=(blk_cell BK115.out 2).trans rfl;have hfz31_0:=blk_frozen BK115.out 0;have hfz31_1:=blk_frozen BK115.out 1;have hfz31_2:=blk_frozen BK115.out 2)|((with_reducible refine gate_callee (f:=51) rfl ?_);refine goesL_ (some 58) rfl rfl Try.func51 (by kernel_rfl) rfl #[.slice none 0 0,.int .u64 (IntKind.u64.wrap ((rd_T39 l1 x26_1).f0))] rfl (by (try simp only [List.map_toArray,List.map_cons,List.map_nil]);first|done|rfl|(simp only [List.length_drop,List.length_take];rfl)) ?_;(refine (codec_PutUint.calls _ _ ([]:List Int) (IntKind.u64.wrap ((rd_T39 l1 x26_1).f0)) t131 _ ?side1 ?side2 A24.out).mono ?_);(case side1=>exact Kd.C_nil _ _);(case side2=>exact Nat.le_refl _);rintro e w32 ⟨v132,rfl,ho0,hb⟩;refine ⟨_,rfl,?_⟩;have n0_:=Aside0.mk (Kd.R_elder' (by (with_reducible repeat (first|apply Kd.R_alloc|apply Kd.R_drewN|apply Kd.R_drew));exact HO127.out) (Kd.R_base ho0) hb);have n1_:=Aside0.mk (Kd.R_elder' (by (with_reducible repeat (first|apply Kd.R_alloc|apply Kd.R_drewN|apply Kd.R_drew));exact HO130.out) (Kd.R_base ho0) hb);have n2_:=Aside0.mk (Kd.R_lower (Kd.R_new' (Kd.R_new' ho0 (Kd.R_lt (by (with_reducible repeat (first|apply Kd.R_alloc|apply Kd.R_drewN|apply Kd.R_drew));exact HO127.out))) (Kd.R_lt (by (with_reducible repeat (first|apply Kd.R_alloc|apply Kd.R_drewN|apply Kd.R_drew));exact HO130.out))) (below_size (by repeat (first|(with_reducible first|exact HB.out|apply below_alloc|apply pw_below_drewN|apply below_drew1|refine below_set ?_ GE115.out)|exact HB.out))));have n3_:=Aside0.mk (blk_below (g:=gb115) (o:=.cells #[.int .i64 ((rd_T39 l1 x26_1).f0),.int .i64 ((rd_T39 l1 x26_1).f1),.slice A114_2 ((rd_T39 l1 x26_1).f2).length c114_2] 39 (0,0)) (by (with_reducible repeat (first|refine blk_drewN ?_ _|refine blk_drew ?_|refine blk_alloc ?_ _));exact BK115.out) hb);have n4_:=Aside0.mk (below_step (by repeat (first|(with_reducible first|exact HB.out|apply below_alloc|apply pw_below_drewN|apply below_drew1|refine below_set ?_ GE115.out)|exact HB.out)) hb);clear HO127;clear HO130;clear BK115;clear HB;have HO127:=n0_;have HO130:=n1_;have HO133:=n2_;have BK115:=n3_;have HB:=n4_;clear n0_ n1_ n2_ n3_ n4_;(try clear hb);(try clear hb2);(try clear hk);(try clear hi);(try clear ho0);obtain ⟨Ao34,co34,eo34⟩:=Kd.R_slice HO133.out;subst eo34)|((with_reducible refine gate_builtin (b:=.append) (xs:=#[.tmp 54,.tmp 58]) rfl ?_);at_builtin;refine Kd.R_append_rows (Kd.int .u8) (w0:=w) w.heap.size rfl (.tmp 54) (.tmp 58) 26 5 (.int .u8 0) 1 rfl Try.underlying26 info5 rfl (by decide) (by omega) v129 y128 t131 _ _ _ (fun k_=>some k_ ≠ (.slice Ao30 t125.length co30:Value).ownBlock ∧ some k_ ≠ (.slice Ao34 t131.length co34:Value).ownBlock) (fun _=>False) rfl rfl ?aO ?aR (fun _ _ h=>h) (fun _ h=>h.elim) ?aF ?aB ?aS ?aL ?_;(case aR=>repeat (first|exact (Kd.R_reads' HO133.out).2.2|(with_reducible refine Kd.C_alloc ?_ _)|(with_reducible refine Kd.C_drewN ?_ _)|(with_reducible refine Kd.C_drew ?_)));(case aB=>exact (by repeat (first|(with_reducible first|exact HB.out|apply below_alloc|apply pw_below_drewN|apply below_drew1|refine below_set ?_ GE115.out)|exact HB.out)));(case aF=>exact (fun k_ hk=>⟨Kd.fresh' (Kd.R_lt (by (with_reducible repeat (first|apply Kd.R_alloc|apply Kd.R_drewN|apply Kd.R_drew));exact HO127.out)) k_ hk,Kd.fresh' (Kd.R_lt (by (with_reducible repeat (first|apply Kd.R_alloc|apply Kd.R_drewN|apply Kd.R_drew));exact HO133.out)) k_ hk⟩));(case aO=>exact (by (with_reducible repeat (first|apply Kd.R_alloc|apply Kd.R_drewN|apply Kd.R_drew));exact HO130.out));(case aS=>exact (below_size (by repeat (first|(with_reducible first|exact HB.out|apply below_alloc|apply pw_below_drewN|apply below_drew1|refine below_set ?_ GE115.out)|exact HB.out))));(case aL=>have:=LMc25.out;omega);intro v135 w33 ho hb hg hat;rw [← Ny134.out] at ho;have n0_:=Aside0.mk (blk_grown (g:=gb115) (o:=.cells #[.int .i64 ((rd_T39 l1 x26_1).f0),.int .i64 ((rd_T39 l1 x26_1).f1),.slice A114_2 ((rd_T39 l1 x26_1).f2).length c114_2] 39 (0,0)) (by (with_reducible repeat (first|refine blk_drewN ?_ _|refine blk_drew ?_|refine blk_alloc ?_ _));exact BK115.out) hg (Kd.R_ne HO130.out BK115.out (by decide)));have n1_:=Aside0.mk (Kd.R_after (ok:=(fun k_=>some k_ ≠ (.slice Ao34 t131.length co34:Value).ownBlock)) (by (with_reducible repeat (first|apply Kd.R_alloc|apply Kd.R_drewN|apply Kd.R_drew));exact Kd.R_mono HO127.out (fun _ hk=>⟨hk.2,hk.1.2⟩)) hg hat);have n2_:=Aside0.mk (Kd.R_after (ok:=(fun k_=>some k_ ≠ (.slice Ao30 t125.length co30:Value).ownBlock)) (by (with_reducible repeat (first|apply Kd.R_alloc|apply Kd.R_drewN|apply Kd.R_drew));exact Kd.R_mono HO133.out (fun _ hk=>⟨hk.1.2,hk.2⟩)) hg hat);have n3_:=Aside0.mk (hb);have n4_:=Aside0.mk (ho);clear BK115;clear HO127;clear HO133;clear HB;clear HO130;have BK115:=n0_;have HO127:=n1_;have HO133:=n2_;have HB:=n3_;have HO136:=n4_;clear n0_ n1_ n2_ n3_ n4_;clear ho hb hg hat))
          go_roundg k1
          case measure=>have:=HK1.out;omega
          case rel=>exact ⟨(y134),(wrap64 (x26_1 + 1)),(by first|rfl|(simp;done)|(simp [*];done)),H',⟨by have:=HK1.out;omega⟩,⟨by (with_reducible repeat (first|apply Kd.R_alloc|apply Kd.R_drewN|apply Kd.R_drew));exact Kd.R_mono HO136.out (fun _ hk=>trivial)⟩,⟨by repeat (first|(with_reducible first|exact HB.out|apply below_alloc|apply pw_below_drewN|apply below_drew1|refine below_set ?_ GE115.out)|exact HB.out)⟩⟩
         ·rw [if_neg c25] at H
          exact absurd H (by simp)
        ·rw [if_neg c23] at H
         exact absurd H (by simp)
      ·rw [if_neg c10] at H
       exact absurd H (by simp)
     ·rw [if_neg c9] at H
      exact absurd H (by simp)
    ·rw [if_neg c8] at H
     have c8b0:decide (x26_1 < (l1.length:Int)) = false:=decide_eq_false c8
     clear c8
     simp only [Option.some.injEq,Prod.mk.injEq] at H
     obtain ⟨rfl,rfl⟩:=H
     go_wp2
     go_ret2
     exact ⟨_,by first|rfl|(simp [errW_none,errW_some] <;> rfl)|(simp [*,errW_none,errW_some] <;> rfl),by (with_reducible repeat (first|apply Kd.R_alloc|apply Kd.R_drewN|apply Kd.R_drew));exact HO_8.out,by repeat (first|(with_reducible first|exact HB.out|apply below_alloc|apply pw_below_drewN|apply below_drew1)|exact HB.out)⟩
 ·rw [if_neg c4] at H
  have c4b0:(t110 == 0) = false:=beq_eq_false_iff_ne.mpr c4
  have c4b1:(t110 != 0) = true:=bne_iff_ne.mpr c4
  simp only [Option.some.injEq,Prod.mk.injEq] at H
  obtain ⟨rfl,rfl⟩:=H
  go_enter Try.func36,Try.ntmps36
  go_wp2_with (first|((with_reducible refine gate_callee (f:=23) rfl ?_);refine goesL_ (some 14) rfl rfl Try.func23 (by kernel_rfl) rfl #[.int .i64 a0,.slice A1 l1.length c1] rfl (by (try simp only [List.map_toArray,List.map_cons,List.map_nil]);first|done|rfl|(simp only [List.length_drop,List.length_take];rfl)) ?_;(with_reducible refine (delta_Check.calls a0 _ _ l1 t109 t110 _ ?side1 ?side2 A3.out).mono ?_);(case side1=>repeat (first|exact HR1.out|(with_reducible refine Kd.C_alloc ?_ _)|(with_reducible refine Kd.C_drewN ?_ _)|(with_reducible refine Kd.C_drew ?_)));(case side2=>exact HC1.out);rintro e w35 ⟨rfl,hb⟩;refine ⟨_,rfl,?_⟩;have n0_:=Aside0.mk (below_step (by repeat (first|(with_reducible first|exact HB.out|apply below_alloc|apply pw_below_drewN|apply below_drew1)|exact HB.out)) hb);clear HB;have HB:=n0_;clear n0_;(try clear hb);(try clear hb2);(try clear hk);(try clear hi)))
  go_ret2
  exact ⟨_,by first|rfl|(simp [errW_none,errW_some] <;> rfl)|(simp [*,errW_none,errW_some] <;> rfl),by first|exact Kd.R_nil _ _ _ _ _|exact Kd.N_nil _ _ _ _ _|exact Kd.V_nil _ _ _ _ _|exact Kd.Q_nil _ _ _ _ _|exact Kd.S_nil _ _ _ _ _,by repeat (first|(with_reducible first|exact HB.out|apply below_alloc|apply pw_below_drewN|apply below_drew1)|exact HB.out)⟩

/-! ### ref26_Copies: function 48 -/
def ref26_Copies.f (a0_0:Int) (a0_1:Int) (l0_2:List Int):Option (Bool):=if a0_1 ≥ 1 then (some ((l0_2.length:Int) == 0)) else (some false)
set_option maxHeartbeats 8000000 in
set_option maxRecDepth 100000 in
theorem ref26_Copies.calls (a0_0:Int) (a0_1:Int) (A0_2:Option Addr) (c0_2:Nat) (l0_2:List Int) (r:Bool) (w:World) (hr0_2:Kd.C (Kd.int .u8) w A0_2 l0_2.length l0_2) (hc0_2:l0_2.length ≤ c0_2) (h:ref26_Copies.f a0_0 a0_1 l0_2 = some r) :
  Calls Try.prog 48 #[.agg #[.int .i64 a0_0,.int .i64 a0_1,.slice A0_2 l0_2.length c0_2]] w fun e w'=>e = .returned (.bool r) ∧ Below w.heap.size w w':=by
 have hu39:=Try.underlying39
 have HR0_2:=Aside0.mk hr0_2
 have HC0_2:=Aside0.mk hc0_2
 clear hr0_2 hc0_2
 have HB:=Aside0.mk (Below.refl w.heap.size w)
 have H:(if a0_1 ≥ 1 then (some ((l0_2.length:Int) == 0)) else (some false)) = some r:=h
 clear h
 by_cases c2:a0_1 ≥ 1
 ·rw [if_pos c2] at H
  have c2b0:decide (1 ≤ a0_1) = true:=decide_eq_true c2
  clear c2
  obtain rfl:=Option.some.inj H
  go_enter Try.func48,Try.ntmps48
  go_wp2_with (first|((with_reducible refine gate_dst (N:=1) rfl ?_);(try (refine gate_guard (by rfl) ?_;dsimp only));refine box_event ?hg (N:=1) ?hd (cs:=#[.int .i64 a0_0,.int .i64 a0_1,.slice A0_2 l0_2.length c0_2]) (t:=39) ?hr ?_;(case hd=>rfl);(case hg=>rfl);(case hr=>first|(go_simp;done)|(go_simp;rfl));intro gb137 hg w3 hbox hb;have n0_:=Aside0.mk (below_step (by repeat (first|(with_reducible first|exact HB.out|apply below_alloc|apply pw_below_drewN|apply below_drew1)|exact HB.out)) hb);have n1_:=Aside0.mk (hbox);have n2_:=Aside0.mk ((by rw [hg];exact (below_size (by repeat (first|(with_reducible first|exact HB.out|apply below_alloc|apply pw_below_drewN|apply below_drew1)|exact HB.out))):w.heap.size ≤ gb137));have n3_:=Aside0.mk ((by rw [hg];exact (below_size (by repeat (first|(with_reducible first|exact HB.out|apply below_alloc|apply pw_below_drewN|apply below_drew1)|exact HB.out))):w.heap.size ≤ gb137));clear HB;have HB:=n0_;have BK137:=n1_;have GW137:=n2_;have GE137:=n3_;clear n0_ n1_ n2_ n3_;clear hb hbox hg;have hcz4_0:w3.cell? ⟨gb137,0,none⟩ = some (.int .i64 a0_0):=(blk_cell BK137.out 0).trans rfl;have hcz4_1:w3.cell? ⟨gb137,1,none⟩ = some (.int .i64 a0_1):=(blk_cell BK137.out 1).trans rfl;have hcz4_2:w3.cell? ⟨gb137,2,none⟩ = some (.slice A0_2 l0_2.length c0_2):=(blk_cell BK137.out 2).trans rfl;have hfz4_0:=blk_frozen BK137.out 0;have hfz4_1:=blk_frozen BK137.out 1;have hfz4_2:=blk_frozen BK137.out 2))
  go_ret
  exact ⟨by first|rfl|(simp [errW_none,errW_some] <;> rfl)|(simp [*,errW_none,errW_some] <;> rfl),by repeat (first|(with_reducible first|exact HB.out|apply below_alloc|apply pw_below_drewN|apply below_drew1|refine below_set ?_ GE137.out)|exact HB.out)⟩
 ·rw [if_neg c2] at H
  have c2b0:decide (1 ≤ a0_1) = false:=decide_eq_false c2
  clear c2
  obtain rfl:=Option.some.inj H
  go_enter Try.func48,Try.ntmps48
  go_wp2_with (first|((with_reducible refine gate_dst (N:=1) rfl ?_);(try (refine gate_guard (by rfl) ?_;dsimp only));refine box_event ?hg (N:=1) ?hd (cs:=#[.int .i64 a0_0,.int .i64 a0_1,.slice A0_2 l0_2.length c0_2]) (t:=39) ?hr ?_;(case hd=>rfl);(case hg=>rfl);(case hr=>first|(go_simp;done)|(go_simp;rfl));intro gb137 hg w5 hbox hb;have n0_:=Aside0.mk (below_step (by repeat (first|(with_reducible first|exact HB.out|apply below_alloc|apply pw_below_drewN|apply below_drew1)|exact HB.out)) hb);have n1_:=Aside0.mk (hbox);have n2_:=Aside0.mk ((by rw [hg];exact (below_size (by repeat (first|(with_reducible first|exact HB.out|apply below_alloc|apply pw_below_drewN|apply below_drew1)|exact HB.out))):w.heap.size ≤ gb137));have n3_:=Aside0.mk ((by rw [hg];exact (below_size (by repeat (first|(with_reducible first|exact HB.out|apply below_alloc|apply pw_below_drewN|apply below_drew1)|exact HB.out))):w.heap.size ≤ gb137));clear HB;have HB:=n0_;have BK137:=n1_;have GW137:=n2_;have GE137:=n3_;clear n0_ n1_ n2_ n3_;clear hb hbox hg;have hcz6_0:w5.cell? ⟨gb137,0,none⟩ = some (.int .i64 a0_0):=(blk_cell BK137.out 0).trans rfl;have hcz6_1:w5.cell? ⟨gb137,1,none⟩ = some (.int .i64 a0_1):=(blk_cell BK137.out 1).trans rfl;have hcz6_2:w5.cell? ⟨gb137,2,none⟩ = some (.slice A0_2 l0_2.length c0_2):=(blk_cell BK137.out 2).trans rfl;have hfz6_0:=blk_frozen BK137.out 0;have hfz6_1:=blk_frozen BK137.out 1;have hfz6_2:=blk_frozen BK137.out 2))
  go_ret
  exact ⟨by first|rfl|(simp [errW_none,errW_some] <;> rfl)|(simp [*,errW_none,errW_some] <;> rfl),by repeat (first|(with_reducible first|exact HB.out|apply below_alloc|apply pw_below_drewN|apply below_drew1|refine below_set ?_ GE137.out)|exact HB.out)⟩

/-! ### ref26_Literal: function 49 -/
def ref26_Literal.f (a0_0:Int) (a0_1:Int) (l0_2:List Int):Option (Bool):=if a0_1 = 0 then (if a0_0 = 0 then (some (decide ((l0_2.length:Int) > 0))) else (some false)) else (some false)
set_option maxHeartbeats 8000000 in
set_option maxRecDepth 100000 in
theorem ref26_Literal.calls (a0_0:Int) (a0_1:Int) (A0_2:Option Addr) (c0_2:Nat) (l0_2:List Int) (r:Bool) (w:World) (hr0_2:Kd.C (Kd.int .u8) w A0_2 l0_2.length l0_2) (hc0_2:l0_2.length ≤ c0_2) (h:ref26_Literal.f a0_0 a0_1 l0_2 = some r) :
  Calls Try.prog 49 #[.agg #[.int .i64 a0_0,.int .i64 a0_1,.slice A0_2 l0_2.length c0_2]] w fun e w'=>e = .returned (.bool r) ∧ Below w.heap.size w w':=by
 have hu39:=Try.underlying39
 have HR0_2:=Aside0.mk hr0_2
 have HC0_2:=Aside0.mk hc0_2
 clear hr0_2 hc0_2
 have HB:=Aside0.mk (Below.refl w.heap.size w)
 have H:(if a0_1 = 0 then (if a0_0 = 0 then (some (decide ((l0_2.length:Int) > 0))) else (some false)) else (some false)) = some r:=h
 clear h
 by_cases c2:a0_1 = 0
 ·rw [if_pos c2] at H
  have c2b0:(a0_1 == 0) = true:=beq_iff_eq.mpr c2
  have c2b1:(a0_1 != 0) = false:=bne_eq_false_iff_eq.mpr c2
  clear c2
  by_cases c3:a0_0 = 0
  ·rw [if_pos c3] at H
   have c3b0:(a0_0 == 0) = true:=beq_iff_eq.mpr c3
   have c3b1:(a0_0 != 0) = false:=bne_eq_false_iff_eq.mpr c3
   clear c3
   obtain rfl:=Option.some.inj H
   go_enter Try.func49,Try.ntmps49
   go_wp2_with (first|((with_reducible refine gate_dst (N:=1) rfl ?_);(try (refine gate_guard (by rfl) ?_;dsimp only));refine box_event ?hg (N:=1) ?hd (cs:=#[.int .i64 a0_0,.int .i64 a0_1,.slice A0_2 l0_2.length c0_2]) (t:=39) ?hr ?_;(case hd=>rfl);(case hg=>rfl);(case hr=>first|(go_simp;done)|(go_simp;rfl));intro gb138 hg w4 hbox hb;have n0_:=Aside0.mk (below_step (by repeat (first|(with_reducible first|exact HB.out|apply below_alloc|apply pw_below_drewN|apply below_drew1)|exact HB.out)) hb);have n1_:=Aside0.mk (hbox);have n2_:=Aside0.mk ((by rw [hg];exact (below_size (by repeat (first|(with_reducible first|exact HB.out|apply below_alloc|apply pw_below_drewN|apply below_drew1)|exact HB.out))):w.heap.size ≤ gb138));have n3_:=Aside0.mk ((by rw [hg];exact (below_size (by repeat (first|(with_reducible first|exact HB.out|apply below_alloc|apply pw_below_drewN|apply below_drew1)|exact HB.out))):w.heap.size ≤ gb138));clear HB;have HB:=n0_;have BK138:=n1_;have GW138:=n2_;have GE138:=n3_;clear n0_ n1_ n2_ n3_;clear hb hbox hg;have hcz5_0:w4.cell? ⟨gb138,0,none⟩ = some (.int .i64 a0_0):=(blk_cell BK138.out 0).trans rfl;have hcz5_1:w4.cell? ⟨gb138,1,none⟩ = some (.int .i64 a0_1):=(blk_cell BK138.out 1).trans rfl;have hcz5_2:w4.cell? ⟨gb138,2,none⟩ = some (.slice A0_2 l0_2.length c0_2):=(blk_cell BK138.out 2).trans rfl;have hfz5_0:=blk_frozen BK138.out 0;have hfz5_1:=blk_frozen BK138.out 1;have hfz5_2:=blk_frozen BK138.out 2))
   go_ret
   exact ⟨by first|rfl|(simp [errW_none,errW_some] <;> rfl)|(simp [*,errW_none,errW_some] <;> rfl),by repeat (first|(with_reducible first|exact HB.out|apply below_alloc|apply pw_below_drewN|apply below_drew1|refine below_set ?_ GE138.out)|exact HB.out)⟩
  ·rw [if_neg c3] at H
   have c3b0:(a0_0 == 0) = false:=beq_eq_false_iff_ne.mpr c3
   have c3b1:(a0_0 != 0) = true:=bne_iff_ne.mpr c3
   obtain rfl:=Option.some.inj H
   go_enter Try.func49,Try.ntmps49
   go_wp2_with (first|((with_reducible refine gate_dst (N:=1) rfl ?_);(try (refine gate_guard (by rfl) ?_;dsimp only));refine box_event ?hg (N:=1) ?hd (cs:=#[.int .i64 a0_0,.int .i64 a0_1,.slice A0_2 l0_2.length c0_2]) (t:=39) ?hr ?_;(case hd=>rfl);(case hg=>rfl);(case hr=>first|(go_simp;done)|(go_simp;rfl));intro gb138 hg w6 hbox hb;have n0_:=Aside0.mk (below_step (by repeat (first|(with_reducible first|exact HB.out|apply below_alloc|apply pw_below_drewN|apply below_drew1)|exact HB.out)) hb);have n1_:=Aside0.mk (hbox);have n2_:=Aside0.mk ((by rw [hg];exact (below_size (by repeat (first|(with_reducible first|exact HB.out|apply below_alloc|apply pw_below_drewN|apply below_drew1)|exact HB.out))):w.heap.size ≤ gb138));have n3_:=Aside0.mk ((by rw [hg];exact (below_size (by repeat (first|(with_reducible first|exact HB.out|apply below_alloc|apply pw_below_drewN|apply below_drew1)|exact HB.out))):w.heap.size ≤ gb138));clear HB;have HB:=n0_;have BK138:=n1_;have GW138:=n2_;have GE138:=n3_;clear n0_ n1_ n2_ n3_;clear hb hbox hg;have hcz7_0:w6.cell? ⟨gb138,0,none⟩ = some (.int .i64 a0_0):=(blk_cell BK138.out 0).trans rfl;have hcz7_1:w6.cell? ⟨gb138,1,none⟩ = some (.int .i64 a0_1):=(blk_cell BK138.out 1).trans rfl;have hcz7_2:w6.cell? ⟨gb138,2,none⟩ = some (.slice A0_2 l0_2.length c0_2):=(blk_cell BK138.out 2).trans rfl;have hfz7_0:=blk_frozen BK138.out 0;have hfz7_1:=blk_frozen BK138.out 1;have hfz7_2:=blk_frozen BK138.out 2))
   go_ret
   exact ⟨by first|rfl|(simp [errW_none,errW_some] <;> rfl)|(simp [*,errW_none,errW_some] <;> rfl),by repeat (first|(with_reducible first|exact HB.out|apply below_alloc|apply pw_below_drewN|apply below_drew1|refine below_set ?_ GE138.out)|exact HB.out)⟩
 ·rw [if_neg c2] at H
  have c2b0:(a0_1 == 0) = false:=beq_eq_false_iff_ne.mpr c2
  have c2b1:(a0_1 != 0) = true:=bne_iff_ne.mpr c2
  obtain rfl:=Option.some.inj H
  go_enter Try.func49,Try.ntmps49
  go_wp2_with (first|((with_reducible refine gate_dst (N:=1) rfl ?_);(try (refine gate_guard (by rfl) ?_;dsimp only));refine box_event ?hg (N:=1) ?hd (cs:=#[.int .i64 a0_0,.int .i64 a0_1,.slice A0_2 l0_2.length c0_2]) (t:=39) ?hr ?_;(case hd=>rfl);(case hg=>rfl);(case hr=>first|(go_simp;done)|(go_simp;rfl));intro gb138 hg w8 hbox hb;have n0_:=Aside0.mk (below_step (by repeat (first|(with_reducible first|exact HB.out|apply below_alloc|apply pw_below_drewN|apply below_drew1)|exact HB.out)) hb);have n1_:=Aside0.mk (hbox);have n2_:=Aside0.mk ((by rw [hg];exact (below_size (by repeat (first|(with_reducible first|exact HB.out|apply below_alloc|apply pw_below_drewN|apply below_drew1)|exact HB.out))):w.heap.size ≤ gb138));have n3_:=Aside0.mk ((by rw [hg];exact (below_size (by repeat (first|(with_reducible first|exact HB.out|apply below_alloc|apply pw_below_drewN|apply below_drew1)|exact HB.out))):w.heap.size ≤ gb138));clear HB;have HB:=n0_;have BK138:=n1_;have GW138:=n2_;have GE138:=n3_;clear n0_ n1_ n2_ n3_;clear hb hbox hg;have hcz9_0:w8.cell? ⟨gb138,0,none⟩ = some (.int .i64 a0_0):=(blk_cell BK138.out 0).trans rfl;have hcz9_1:w8.cell? ⟨gb138,1,none⟩ = some (.int .i64 a0_1):=(blk_cell BK138.out 1).trans rfl;have hcz9_2:w8.cell? ⟨gb138,2,none⟩ = some (.slice A0_2 l0_2.length c0_2):=(blk_cell BK138.out 2).trans rfl;have hfz9_0:=blk_frozen BK138.out 0;have hfz9_1:=blk_frozen BK138.out 1;have hfz9_2:=blk_frozen BK138.out 2))
  go_ret
  exact ⟨by first|rfl|(simp [errW_none,errW_some] <;> rfl)|(simp [*,errW_none,errW_some] <;> rfl),by repeat (first|(with_reducible first|exact HB.out|apply below_alloc|apply pw_below_drewN|apply below_drew1|refine below_set ?_ GE138.out)|exact HB.out)⟩

/-! ### stockyardref01_Uint: function 59 -/
def stockyardref01_Uint.f:Nat → Int → Option (List Int)
 | 0,_=>none
 | k + 1,a0=>if a0 < 128 then (some (([(a0) % 256]:List Int))) else ((some (([(((Int.tmod a0 128) % 256) + 128) % 256]:List Int):List Int)).bind fun y142=>((stockyardref01_Uint.f k (IntKind.u64.wrap (Int.tdiv a0 128))).bind fun t145=>(if y142.length + t145.length < 140737488355328 then (some (y142 ++ t145)) else (none))))
set_option maxHeartbeats 8000000 in
set_option maxRecDepth 100000 in
theorem stockyardref01_Uint.calls (k:Nat):∀ (a0:Int) (r:List Int) (w:World) (h:stockyardref01_Uint.f k a0 = some r),
  Calls Try.prog 59 #[.int .u64 a0] w fun e w'=>∃ v0_:Value,e = .returned (v0_) ∧ Kd.R (Kd.int .u8) 5 w' w.heap.size (fun _=>True) v0_ r ∧ Below w.heap.size w w':=by
 induction k using Nat.strongRecOn with
 | _ k ih =>
 intro a0 r w h
 cases k with
 | zero=>exact absurd h (by simp [stockyardref01_Uint.f])
 | succ k =>
 simp only [stockyardref01_Uint.f] at h
 have HB:=Aside0.mk (Below.refl w.heap.size w)
 have H:(if a0 < 128 then (some (([(a0) % 256]:List Int))) else ((some (([(((Int.tmod a0 128) % 256) + 128) % 256]:List Int):List Int)).bind fun y142=>((stockyardref01_Uint.f k (IntKind.u64.wrap (Int.tdiv a0 128))).bind fun t145=>(if y142.length + t145.length < 140737488355328 then (some (y142 ++ t145)) else (none))))) = some r:=h
 clear h
 by_cases c2:a0 < 128
 ·rw [if_pos c2] at H
  have c2b0:decide (a0 < 128) = true:=decide_eq_true c2
  clear c2
  obtain ⟨y139,hy139⟩:∃ y_:List Int,y_ = (([(a0) % 256]:List Int)):=⟨_,rfl⟩
  replace H:(some y139) = some r:=by first|(rw [hy139];with_reducible exact H)|(have H2_:=(Option.bind_some _ _).symm.trans H;rw [hy139];with_reducible exact H2_)|(have H2_:=(Option.bind_some _ _).symm.trans H;with_reducible exact H2_)|with_reducible exact H|(rw [hy139];exact H)|exact H
  have Ny139:=Aside0.mk hy139
  clear hy139
  obtain rfl:=Option.some.inj H
  go_enter Try.func59,Try.ntmps59
  go_wp2_with (first|((with_reducible refine gate_dst (N:=7) rfl ?_);refine Kd.R_lit (Kd.int .u8) _ 5 ?hg (N:=7) ?hd (xs:=([(a0) % 256]:List Int)) (inner:=[.int .u8 ((a0) % 256)]) (ok:=fun _=>True) (okp:=fun _=>True) ?hr ?hp (fun _ hk=>hk) trivial (Below.refl _ _) (Nat.le_refl _) (by simp) ?_;(case hd=>rfl);(case hg=>rfl);(case hr=>first|(go_simp;done)|(go_simp;rfl));(case hp=>exact (Reps.one (show Kd.M (Kd.int .u8) _ _ _ ((a0) % 256) [.int .u8 ((a0) % 256)] from rfl) (Reps.none _ _)));intro v140 w3 ho4 hb hg_ hnew_;clear hg_ hnew_;(first|rw [← Ny139.out] at ho4|(simp only [Int.reduceToNat] at ho4;rw [← Ny139.out] at ho4));have n0_:=Aside0.mk (Kd.R_lower ho4 (below_size (by repeat (first|(with_reducible first|exact HB.out|apply below_alloc|apply pw_below_drewN|apply below_drew1)|exact HB.out))));have n1_:=Aside0.mk (below_step (by repeat (first|(with_reducible first|exact HB.out|apply below_alloc|apply pw_below_drewN|apply below_drew1)|exact HB.out)) hb);clear HB;have HO141:=n0_;have HB:=n1_;clear n0_ n1_;clear hb ho4))
  go_ret
  exact ⟨_,by first|rfl|(simp [errW_none,errW_some] <;> rfl)|(simp [*,errW_none,errW_some] <;> rfl),by (with_reducible repeat (first|apply Kd.R_alloc|apply Kd.R_drewN|apply Kd.R_drew));exact HO141.out,by repeat (first|(with_reducible first|exact HB.out|apply below_alloc|apply pw_below_drewN|apply below_drew1)|exact HB.out)⟩
 ·rw [if_neg c2] at H
  have c2b0:decide (a0 < 128) = false:=decide_eq_false c2
  clear c2
  obtain ⟨y142,hy142⟩:∃ y_:List Int,y_ = (([(((Int.tmod a0 128) % 256) + 128) % 256]:List Int)):=⟨_,rfl⟩
  replace H:((stockyardref01_Uint.f k (IntKind.u64.wrap (Int.tdiv a0 128))).bind fun t145=>(if y142.length + t145.length < 140737488355328 then (some (y142 ++ t145)) else (none))) = some r:=by first|(rw [hy142];with_reducible exact H)|(have H2_:=(Option.bind_some _ _).symm.trans H;rw [hy142];with_reducible exact H2_)|(have H2_:=(Option.bind_some _ _).symm.trans H;with_reducible exact H2_)|with_reducible exact H|(rw [hy142];exact H)|exact H
  have Ny142:=Aside0.mk hy142
  clear hy142
  replace H:=Option.bind_eq_some_iff.mp H
  obtain ⟨t145,A50,H⟩:=H
  replace H:(if y142.length + t145.length < 140737488355328 then (some (y142 ++ t145)) else (none)) = some r:=H
  have A5:=Aside0.mk A50
  clear A50
  by_cases c6:y142.length + t145.length < 140737488355328
  ·rw [if_pos c6] at H
   have LMc6:=Aside0.mk c6
   clear c6
   obtain ⟨y148,hy148⟩:∃ y_:List Int,y_ = (y142 ++ t145):=⟨_,rfl⟩
   replace H:(some y148) = some r:=by first|(rw [hy148];with_reducible exact H)|(have H2_:=(Option.bind_some _ _).symm.trans H;rw [hy148];with_reducible exact H2_)|(have H2_:=(Option.bind_some _ _).symm.trans H;with_reducible exact H2_)|with_reducible exact H|(rw [hy148];exact H)|exact H
   have Ny148:=Aside0.mk hy148
   clear hy148
   obtain rfl:=Option.some.inj H
   go_enter Try.func59,Try.ntmps59
   go_wp2_with (first|((with_reducible refine gate_dst (N:=12) rfl ?_);refine Kd.R_lit (Kd.int .u8) _ 5 ?hg (N:=12) ?hd (xs:=([(((Int.tmod a0 128) % 256) + 128) % 256]:List Int)) (inner:=[.int .u8 ((((Int.tmod a0 128) % 256) + 128) % 256)]) (ok:=fun _=>True) (okp:=fun _=>True) ?hr ?hp (fun _ hk=>hk) trivial (Below.refl _ _) (Nat.le_refl _) (by simp) ?_;(case hd=>rfl);(case hg=>rfl);(case hr=>first|(go_simp;done)|(go_simp;rfl));(case hp=>exact (Reps.one (show Kd.M (Kd.int .u8) _ _ _ ((((Int.tmod a0 128) % 256) + 128) % 256) [.int .u8 ((((Int.tmod a0 128) % 256) + 128) % 256)] from rfl) (Reps.none _ _)));intro v143 w7 ho8 hb hg_ hnew_;clear hg_ hnew_;(first|rw [← Ny142.out] at ho8|(simp only [Int.reduceToNat] at ho8;rw [← Ny142.out] at ho8));have n0_:=Aside0.mk (Kd.R_lower ho8 (below_size (by repeat (first|(with_reducible first|exact HB.out|apply below_alloc|apply pw_below_drewN|apply below_drew1)|exact HB.out))));have n1_:=Aside0.mk (below_step (by repeat (first|(with_reducible first|exact HB.out|apply below_alloc|apply pw_below_drewN|apply below_drew1)|exact HB.out)) hb);clear HB;have HO144:=n0_;have HB:=n1_;clear n0_ n1_;clear hb ho8)|((with_reducible refine gate_callee (f:=59) rfl ?_);refine goesL_ (some 15) rfl rfl Try.func59 (by kernel_rfl) rfl #[.int .u64 (IntKind.u64.wrap (Int.tdiv a0 128))] rfl (by (try simp only [List.map_toArray,List.map_cons,List.map_nil]);first|done|rfl|(simp only [List.length_drop,List.length_take];rfl)) ?_;(with_reducible refine (ih k (by omega) (IntKind.u64.wrap (Int.tdiv a0 128)) t145 _ A5.out).mono ?_);rintro e w9 ⟨v146,rfl,ho0,hb⟩;refine ⟨_,rfl,?_⟩;have n0_:=Aside0.mk (Kd.R_elder' (by (with_reducible repeat (first|apply Kd.R_alloc|apply Kd.R_drewN|apply Kd.R_drew));exact HO144.out) (Kd.R_base ho0) hb);have n1_:=Aside0.mk (Kd.R_lower (Kd.R_new' ho0 (Kd.R_lt (by (with_reducible repeat (first|apply Kd.R_alloc|apply Kd.R_drewN|apply Kd.R_drew));exact HO144.out))) (below_size (by repeat (first|(with_reducible first|exact HB.out|apply below_alloc|apply pw_below_drewN|apply below_drew1)|exact HB.out))));have n2_:=Aside0.mk (below_step (by repeat (first|(with_reducible first|exact HB.out|apply below_alloc|apply pw_below_drewN|apply below_drew1)|exact HB.out)) hb);clear HO144;clear HB;have HO144:=n0_;have HO147:=n1_;have HB:=n2_;clear n0_ n1_ n2_;(try clear hb);(try clear hb2);(try clear hk);(try clear hi);(try clear ho0);obtain ⟨Ao11,co11,eo11⟩:=Kd.R_slice HO147.out;subst eo11)|((with_reducible refine gate_builtin (b:=.append) (xs:=#[.tmp 12,.tmp 15]) rfl ?_);at_builtin;refine Kd.R_append_rows (Kd.int .u8) (w0:=w) w.heap.size rfl (.tmp 12) (.tmp 15) 26 5 (.int .u8 0) 1 rfl Try.underlying26 info5 rfl (by decide) (by omega) v143 y142 t145 _ _ _ (fun k_=>some k_ ≠ (.slice Ao11 t145.length co11:Value).ownBlock) (fun _=>False) rfl rfl ?aO ?aR (fun _ _ h=>h) (fun _ h=>h.elim) ?aF ?aB ?aS ?aL ?_;(case aR=>repeat (first|exact (Kd.R_reads' HO147.out).2.2|(with_reducible refine Kd.C_alloc ?_ _)|(with_reducible refine Kd.C_drewN ?_ _)|(with_reducible refine Kd.C_drew ?_)));(case aB=>exact (by repeat (first|(with_reducible first|exact HB.out|apply below_alloc|apply pw_below_drewN|apply below_drew1)|exact HB.out)));(case aF=>exact (fun k_ hk=>Kd.fresh' (Kd.R_lt (by (with_reducible repeat (first|apply Kd.R_alloc|apply Kd.R_drewN|apply Kd.R_drew));exact HO147.out)) k_ hk));(case aO=>exact (by (with_reducible repeat (first|apply Kd.R_alloc|apply Kd.R_drewN|apply Kd.R_drew));exact Kd.R_mono HO144.out (fun _ hk=>hk.2)));(case aS=>exact (below_size (by repeat (first|(with_reducible first|exact HB.out|apply below_alloc|apply pw_below_drewN|apply below_drew1)|exact HB.out))));(case aL=>have:=LMc6.out;omega);intro v149 w10 ho hb hg hat;rw [← Ny148.out] at ho;have n0_:=Aside0.mk (Kd.R_after (ok:=(fun _=>True)) (by (with_reducible repeat (first|apply Kd.R_alloc|apply Kd.R_drewN|apply Kd.R_drew));exact HO147.out) hg hat);have n1_:=Aside0.mk (hb);have n2_:=Aside0.mk (ho);clear HO147;clear HB;clear HO144;have HO147:=n0_;have HB:=n1_;have HO150:=n2_;clear n0_ n1_ n2_;clear ho hb hg hat))
   go_ret
   exact ⟨_,by first|rfl|(simp [errW_none,errW_some] <;> rfl)|(simp [*,errW_none,errW_some] <;> rfl),by (with_reducible repeat (first|apply Kd.R_alloc|apply Kd.R_drewN|apply Kd.R_drew));exact Kd.R_mono HO150.out (fun _ hk=>trivial),by repeat (first|(with_reducible first|exact HB.out|apply below_alloc|apply pw_below_drewN|apply below_drew1)|exact HB.out)⟩
  ·rw [if_neg c6] at H
   exact absurd H (by simp)

/-! ### ref26_bytes: function 52 -/
def ref26_bytes.l0:Nat → List (S39) → List Int → Int → Option (List Int)
 | 0,_,_,_=>none
 | k + 1,x0,x3,x4=>if x4 < (x0.length:Int) then (if 0 ≤ x4 then ((ref26_Copies.f ((rd_T39 x0 x4).f0) ((rd_T39 x0 x4).f1) ((rd_T39 x0 x4).f2)).bind fun t156=>(if t156 = true then ((stockyardref01_Uint.f k (IntKind.u64.wrap ((IntKind.u64.wrap (2 * (IntKind.u64.wrap ((rd_T39 x0 x4).f1)))) + 1))).bind fun t157=>(if x3.length + t157.length < 140737488355328 then ((some (x3 ++ t157:List Int)).bind fun y160=>((stockyardref01_Uint.f k (IntKind.u64.wrap ((rd_T39 x0 x4).f0))).bind fun t163=>(if y160.length + t163.length < 140737488355328 then (ref26_bytes.l0 k x0 (y160 ++ t163) (wrap64 (x4 + 1))) else (none)))) else (none))) else ((stockyardref01_Uint.f k (IntKind.u64.wrap (2 * (IntKind.u64.wrap ((((rd_T39 x0 x4).f2).length:Int)))))).bind fun t169=>(if x3.length + t169.length < 140737488355328 then ((some (x3 ++ t169:List Int)).bind fun y172=>(if y172.length + ((rd_T39 x0 x4).f2).length < 140737488355328 then (ref26_bytes.l0 k x0 (y172 ++ ((rd_T39 x0 x4).f2)) (wrap64 (x4 + 1))) else (none))) else (none))))) else (none)) else (some x3)
def ref26_bytes.f (k:Nat) (l0:List (S39)):Option (List Int):=(stockyardref01_Uint.f k (IntKind.u64.wrap ((l0.length:Int)))).bind fun t151=>(ref26_bytes.l0 k l0 t151 0)
set_option maxHeartbeats 8000000 in
set_option maxRecDepth 100000 in
theorem ref26_bytes.calls (k:Nat) (A0:Option Addr) (c0:Nat) (l0:List (S39)) (r:List Int) (w:World) (hr0:Kd.C k39 w A0 l0.length l0) (hc0:l0.length ≤ c0) (h:ref26_bytes.f k l0 = some r) :
  Calls Try.prog 52 #[.slice A0 l0.length c0] w fun e w'=>∃ v0_:Value,e = .returned (v0_) ∧ Kd.R (Kd.int .u8) 5 w' w.heap.size (fun _=>True) v0_ r ∧ Below w.heap.size w w':=by
 have hu39:=Try.underlying39
 have HR0:=Aside0.mk hr0
 have HC0:=Aside0.mk hc0
 clear hr0 hc0
 have HB:=Aside0.mk (Below.refl w.heap.size w)
 have H:((stockyardref01_Uint.f k (IntKind.u64.wrap ((l0.length:Int)))).bind fun t151=>(ref26_bytes.l0 k l0 t151 0)) = some r:=h
 clear h
 replace H:=Option.bind_eq_some_iff.mp H
 obtain ⟨t151,A20,H⟩:=H
 replace H:(ref26_bytes.l0 k l0 t151 0) = some r:=H
 have A2:=Aside0.mk A20
 clear A20
 have H':=Aside0.mk H
 clear H
 go_enter Try.func52,Try.ntmps52
 go_wp2_with (first|((with_reducible refine gate_callee (f:=59) rfl ?_);refine goesL_ (some 9) rfl rfl Try.func59 (by kernel_rfl) rfl #[.int .u64 (IntKind.u64.wrap ((l0.length:Int)))] rfl (by (try simp only [List.map_toArray,List.map_cons,List.map_nil]);first|done|rfl|(simp only [List.length_drop,List.length_take];rfl)) ?_;(with_reducible refine (stockyardref01_Uint.calls k (IntKind.u64.wrap ((l0.length:Int))) t151 _ A2.out).mono ?_);rintro e w3 ⟨v152,rfl,ho0,hb⟩;refine ⟨_,rfl,?_⟩;have n0_:=Aside0.mk (Kd.R_lower ho0 (below_size (by repeat (first|(with_reducible first|exact HB.out|apply below_alloc|apply pw_below_drewN|apply below_drew1)|exact HB.out))));have n1_:=Aside0.mk (below_step (by repeat (first|(with_reducible first|exact HB.out|apply below_alloc|apply pw_below_drewN|apply below_drew1)|exact HB.out)) hb);clear HB;have HO153:=n0_;have HB:=n1_;clear n0_ n1_;(try clear hb);(try clear hb2);(try clear hk);(try clear hi);(try clear ho0)))
 go_loopg [3,4] k (fun kq v3 v4 w'=>∃ (x3_1:List Int) (x4_1:Int),v4 = .int .i64 x4_1 ∧ Aside0 (ref26_bytes.l0 kq l0 x3_1 x4_1 = some r) ∧ Aside0 (kq ≤ k) ∧ Aside0 (Kd.R (Kd.int .u8) 5 w' w.heap.size (fun _=>True) v3 x3_1) ∧ Aside0 (Below w.heap.size w w'))
 case atStart=>exact ⟨(t151),(0),(by first|rfl|(simp;done)|(simp [*];done)),H',⟨Nat.le_refl _⟩,⟨by (with_reducible repeat (first|apply Kd.R_alloc|apply Kd.R_drewN|apply Kd.R_drew));exact HO153.out⟩,⟨by repeat (first|(with_reducible first|exact HB.out|apply below_alloc|apply pw_below_drewN|apply below_drew1)|exact HB.out)⟩⟩
 case round =>
  clear H'
  try clear p2
  obtain ⟨x3_1,x4_1,rfl,HA,HK1,HO_3,HB⟩:=hrel
  cases gk with
  | zero=>exact absurd HA.out (by simp [ref26_bytes.l0])
  | succ k1 =>
   have H:=HA.out
   clear HA
   simp only [ref26_bytes.l0] at H
   by_cases c4:x4_1 < (l0.length:Int)
   ·rw [if_pos c4] at H
    have c4b0:decide (x4_1 < (l0.length:Int)) = true:=decide_eq_true c4
    clear c4
    by_cases c5:0 ≤ x4_1
    ·rw [if_pos c5] at H
     have c5b0:decide (0 ≤ x4_1) = true:=decide_eq_true c5
     clear c5
     replace H:=Option.bind_eq_some_iff.mp H
     obtain ⟨t156,A60,H⟩:=H
     replace H:(if t156 = true then ((stockyardref01_Uint.f k1 (IntKind.u64.wrap ((IntKind.u64.wrap (2 * (IntKind.u64.wrap ((rd_T39 l0 x4_1).f1)))) + 1))).bind fun t157=>(if x3_1.length + t157.length < 140737488355328 then ((some (x3_1 ++ t157:List Int)).bind fun y160=>((stockyardref01_Uint.f k1 (IntKind.u64.wrap ((rd_T39 l0 x4_1).f0))).bind fun t163=>(if y160.length + t163.length < 140737488355328 then (ref26_bytes.l0 k1 l0 (y160 ++ t163) (wrap64 (x4_1 + 1))) else (none)))) else (none))) else ((stockyardref01_Uint.f k1 (IntKind.u64.wrap (2 * (IntKind.u64.wrap ((((rd_T39 l0 x4_1).f2).length:Int)))))).bind fun t169=>(if x3_1.length + t169.length < 140737488355328 then ((some (x3_1 ++ t169:List Int)).bind fun y172=>(if y172.length + ((rd_T39 l0 x4_1).f2).length < 140737488355328 then (ref26_bytes.l0 k1 l0 (y172 ++ ((rd_T39 l0 x4_1).f2)) (wrap64 (x4_1 + 1))) else (none))) else (none)))) = some r:=H
     have A6:=Aside0.mk A60
     clear A60
     by_cases c7:t156 = true
     ·subst c7
      have H1:((stockyardref01_Uint.f k1 (IntKind.u64.wrap ((IntKind.u64.wrap (2 * (IntKind.u64.wrap ((rd_T39 l0 x4_1).f1)))) + 1))).bind fun t157=>(if x3_1.length + t157.length < 140737488355328 then ((some (x3_1 ++ t157:List Int)).bind fun y160=>((stockyardref01_Uint.f k1 (IntKind.u64.wrap ((rd_T39 l0 x4_1).f0))).bind fun t163=>(if y160.length + t163.length < 140737488355328 then (ref26_bytes.l0 k1 l0 (y160 ++ t163) (wrap64 (x4_1 + 1))) else (none)))) else (none))) = some r:=by rw [if_pos rfl] at H;exact H
      clear H
      have H:=H1
      clear H1
      replace H:=Option.bind_eq_some_iff.mp H
      obtain ⟨t157,A80,H⟩:=H
      replace H:(if x3_1.length + t157.length < 140737488355328 then ((some (x3_1 ++ t157:List Int)).bind fun y160=>((stockyardref01_Uint.f k1 (IntKind.u64.wrap ((rd_T39 l0 x4_1).f0))).bind fun t163=>(if y160.length + t163.length < 140737488355328 then (ref26_bytes.l0 k1 l0 (y160 ++ t163) (wrap64 (x4_1 + 1))) else (none)))) else (none)) = some r:=H
      have A8:=Aside0.mk A80
      clear A80
      by_cases c9:x3_1.length + t157.length < 140737488355328
      ·rw [if_pos c9] at H
       have LMc9:=Aside0.mk c9
       clear c9
       obtain ⟨y160,hy160⟩:∃ y_:List Int,y_ = (x3_1 ++ t157):=⟨_,rfl⟩
       replace H:((stockyardref01_Uint.f k1 (IntKind.u64.wrap ((rd_T39 l0 x4_1).f0))).bind fun t163=>(if y160.length + t163.length < 140737488355328 then (ref26_bytes.l0 k1 l0 (y160 ++ t163) (wrap64 (x4_1 + 1))) else (none))) = some r:=by first|(rw [hy160];with_reducible exact H)|(have H2_:=(Option.bind_some _ _).symm.trans H;rw [hy160];with_reducible exact H2_)|(have H2_:=(Option.bind_some _ _).symm.trans H;with_reducible exact H2_)|with_reducible exact H|(rw [hy160];exact H)|exact H
       have Ny160:=Aside0.mk hy160
       clear hy160
       replace H:=Option.bind_eq_some_iff.mp H
       obtain ⟨t163,A100,H⟩:=H
       replace H:(if y160.length + t163.length < 140737488355328 then (ref26_bytes.l0 k1 l0 (y160 ++ t163) (wrap64 (x4_1 + 1))) else (none)) = some r:=H
       have A10:=Aside0.mk A100
       clear A100
       by_cases c11:y160.length + t163.length < 140737488355328
       ·rw [if_pos c11] at H
        have LMc11:=Aside0.mk c11
        clear c11
        obtain ⟨y166,hy166⟩:∃ y_:List Int,y_ = (y160 ++ t163):=⟨_,rfl⟩
        replace H:(ref26_bytes.l0 k1 l0 y166 (wrap64 (x4_1 + 1))) = some r:=by first|(rw [hy166];with_reducible exact H)|(have H2_:=(Option.bind_some _ _).symm.trans H;rw [hy166];with_reducible exact H2_)|(have H2_:=(Option.bind_some _ _).symm.trans H;with_reducible exact H2_)|with_reducible exact H|(rw [hy166];exact H)|exact H
        have Ny166:=Aside0.mk hy166
        clear hy166
        have H':=Aside0.mk H
        clear H
        have p154:0 ≤ (x4_1:Int):=of_decide_eq_true (by first|(with_reducible assumption)|assumption)
        have q154:x4_1 < (l0.length:Int):=of_decide_eq_true (by first|(with_reducible assumption)|assumption)
        obtain ⟨ad154,A154_2,c154_2,e154,hx154_0,hx154_1,hx154_2,hl154_2,hi154_2⟩:=at_T39 HR0.out x4_1 p154 q154
        cases e154
        have hu154_2:=Aside0.mk hx154_2
        replace hx154_0:=(HB.out.cell (World.block_lt_of_cell? w _ hx154_0)).trans hx154_0
        replace hx154_1:=(HB.out.cell (World.block_lt_of_cell? w _ hx154_1)).trans hx154_1
        replace hx154_2:=(HB.out.cell (World.block_lt_of_cell? w _ hx154_2)).trans hx154_2
        have HR154_2:=Aside0.mk hi154_2
        have HC154_2:=Aside0.mk hl154_2
        clear hi154_2 hl154_2
        replace p154:=eq_true p154
        replace q154:=eq_true q154
        go_wp2_with (first|((with_reducible refine gate_dst (N:=5) rfl ?_);refine box_event ?hg (N:=5) ?hd (cs:=#[.int .i64 0,.int .i64 0,.slice none 0 0]) (t:=39) ?hr ?_;(case hd=>rfl);(case hg=>rfl);(case hr=>first|(go_simp;done)|(go_simp;rfl));intro gb155 hg w12 hbox hb;have n0_:=Aside0.mk (Kd.R_below (by (with_reducible repeat (first|apply Kd.R_alloc|apply Kd.R_drewN|apply Kd.R_drew));exact HO_3.out) hb);have n1_:=Aside0.mk (below_step (by repeat (first|(with_reducible first|exact HB.out|apply below_alloc|apply pw_below_drewN|apply below_drew1)|exact HB.out)) hb);have n2_:=Aside0.mk (hbox);have n3_:=Aside0.mk ((by rw [hg];exact (below_size (by repeat (first|(with_reducible first|exact HB.out|apply below_alloc|apply pw_below_drewN|apply below_drew1)|exact HB.out))):w.heap.size ≤ gb155));have n4_:=Aside0.mk ((by rw [hg];exact (below_size (by repeat (first|(with_reducible first|exact HB.out|apply below_alloc|apply pw_below_drewN|apply below_drew1)|exact HB.out))):w.heap.size ≤ gb155));clear HO_3;clear HB;have HO_3:=n0_;have HB:=n1_;have BK155:=n2_;have GW155:=n3_;have GE155:=n4_;clear n0_ n1_ n2_ n3_ n4_;clear hb hbox hg;have hcz13_0:w12.cell? ⟨gb155,0,none⟩ = some (.int .i64 0):=(blk_cell BK155.out 0).trans rfl;have hcz13_1:w12.cell? ⟨gb155,1,none⟩ = some (.int .i64 0):=(blk_cell BK155.out 1).trans rfl;have hcz13_2:w12.cell? ⟨gb155,2,none⟩ = some (.slice none 0 0):=(blk_cell BK155.out 2).trans rfl;have hfz13_0:=blk_frozen BK155.out 0;have hfz13_1:=blk_frozen BK155.out 1;have hfz13_2:=blk_frozen BK155.out 2)|((with_reducible refine gate_callee (f:=48) rfl ?_);refine goesL_ (some 21) rfl rfl Try.func48 (by kernel_rfl) rfl #[.agg #[.int .i64 ((rd_T39 l0 x4_1).f0),.int .i64 ((rd_T39 l0 x4_1).f1),.slice A154_2 ((rd_T39 l0 x4_1).f2).length c154_2]] rfl (by (try simp only [List.map_toArray,List.map_cons,List.map_nil]);first|done|rfl|(simp only [List.length_drop,List.length_take];rfl)) ?_;(with_reducible refine (ref26_Copies.calls ((rd_T39 l0 x4_1).f0) ((rd_T39 l0 x4_1).f1) _ _ ((rd_T39 l0 x4_1).f2) true _ ?side1 ?side2 A6.out).mono ?_);(case side1=>exact Kd.C_below HR154_2.out (by repeat (first|(with_reducible first|exact HB.out|apply below_alloc|apply pw_below_drewN|apply below_drew1|refine below_set ?_ GE155.out)|exact HB.out)));(case side2=>exact HC154_2.out);rintro e w14 ⟨rfl,hb⟩;refine ⟨_,rfl,?_⟩;have n0_:=Aside0.mk (Kd.R_below (by (with_reducible repeat (first|apply Kd.R_alloc|apply Kd.R_drewN|apply Kd.R_drew));exact (Kd.R_mono (Kd.R_far (p:=⟨gb155,2,none⟩) (Kd.R_far (p:=⟨gb155,1,none⟩) (Kd.R_far (p:=⟨gb155,0,none⟩) (Kd.R_types HO_3.out BK155.out (by decide)) (fun _ hk=>hk.2) (.int .i64 ((rd_T39 l0 x4_1).f0))) (fun _ hk=>hk.2) (.int .i64 ((rd_T39 l0 x4_1).f1))) (fun _ hk=>hk.2) (.slice A154_2 ((rd_T39 l0 x4_1).f2).length c154_2)) (fun _ h_=>h_.1))) hb);have n1_:=Aside0.mk (blk_below (g:=gb155) (o:=.cells #[.int .i64 ((rd_T39 l0 x4_1).f0),.int .i64 ((rd_T39 l0 x4_1).f1),.slice A154_2 ((rd_T39 l0 x4_1).f2).length c154_2] 39 (0,0)) (by (with_reducible repeat (first|refine blk_drewN ?_ _|refine blk_drew ?_|refine blk_alloc ?_ _));refine blk_put (cs:=#[.int .i64 ((rd_T39 l0 x4_1).f0),.int .i64 ((rd_T39 l0 x4_1).f1),.slice none 0 0]) ?_ 2 _ rfl;(with_reducible repeat (first|refine blk_drewN ?_ _|refine blk_drew ?_|refine blk_alloc ?_ _));refine blk_put (cs:=#[.int .i64 ((rd_T39 l0 x4_1).f0),.int .i64 0,.slice none 0 0]) ?_ 1 _ rfl;(with_reducible repeat (first|refine blk_drewN ?_ _|refine blk_drew ?_|refine blk_alloc ?_ _));refine blk_put (cs:=#[.int .i64 0,.int .i64 0,.slice none 0 0]) ?_ 0 _ rfl;(with_reducible repeat (first|refine blk_drewN ?_ _|refine blk_drew ?_|refine blk_alloc ?_ _));exact BK155.out) hb);have n2_:=Aside0.mk (below_step (by repeat (first|(with_reducible first|exact HB.out|apply below_alloc|apply pw_below_drewN|apply below_drew1|refine below_set ?_ GE155.out)|exact HB.out)) hb);clear HO_3;clear BK155;clear HB;have HO_3:=n0_;have BK155:=n1_;have HB:=n2_;clear n0_ n1_ n2_;(try clear hb);(try clear hb2);(try clear hk);(try clear hi);have hcz15_0:w14.cell? ⟨gb155,0,none⟩ = some (.int .i64 ((rd_T39 l0 x4_1).f0)):=(blk_cell BK155.out 0).trans rfl;have hcz15_1:w14.cell? ⟨gb155,1,none⟩ = some (.int .i64 ((rd_T39 l0 x4_1).f1)):=(blk_cell BK155.out 1).trans rfl;have hcz15_2:w14.cell? ⟨gb155,2,none⟩ = some (.slice A154_2 ((rd_T39 l0 x4_1).f2).length c154_2):=(blk_cell BK155.out 2).trans rfl;have hfz15_0:=blk_frozen BK155.out 0;have hfz15_1:=blk_frozen BK155.out 1;have hfz15_2:=blk_frozen BK155.out 2)|((with_reducible refine gate_callee (f:=59) rfl ?_);refine goesL_ (some 28) rfl rfl Try.func59 (by kernel_rfl) rfl #[.int .u64 (IntKind.u64.wrap ((IntKind.u64.wrap (2 * (IntKind.u64.wrap ((rd_T39 l0 x4_1).f1)))) + 1))] rfl (by (try simp only [List.map_toArray,List.map_cons,List.map_nil]);first|done|rfl|(simp only [List.length_drop,List.length_take];rfl)) ?_;(with_reducible refine (stockyardref01_Uint.calls k1 (IntKind.u64.wrap ((IntKind.u64.wrap (2 * (IntKind.u64.wrap ((rd_T39 l0 x4_1).f1)))) + 1)) t157 _ A8.out).mono ?_);rintro e w16 ⟨v158,rfl,ho0,hb⟩;refine ⟨_,rfl,?_⟩;have n0_:=Aside0.mk (Kd.R_elder' (by (with_reducible repeat (first|apply Kd.R_alloc|apply Kd.R_drewN|apply Kd.R_drew));exact HO_3.out) (Kd.R_base ho0) hb);have n1_:=Aside0.mk (Kd.R_lower (Kd.R_new' ho0 (Kd.R_lt (by (with_reducible repeat (first|apply Kd.R_alloc|apply Kd.R_drewN|apply Kd.R_drew));exact HO_3.out))) (below_size (by repeat (first|(with_reducible first|exact HB.out|apply below_alloc|apply pw_below_drewN|apply below_drew1|refine below_set ?_ GE155.out)|exact HB.out))));have n2_:=Aside0.mk (blk_below (g:=gb155) (o:=.cells #[.int .i64 ((rd_T39 l0 x4_1).f0),.int .i64 ((rd_T39 l0 x4_1).f1),.slice A154_2 ((rd_T39 l0 x4_1).f2).length c154_2] 39 (0,0)) (by (with_reducible repeat (first|refine blk_drewN ?_ _|refine blk_drew ?_|refine blk_alloc ?_ _));exact BK155.out) hb);have n3_:=Aside0.mk (below_step (by repeat (first|(with_reducible first|exact HB.out|apply below_alloc|apply pw_below_drewN|apply below_drew1|refine below_set ?_ GE155.out)|exact HB.out)) hb);clear HO_3;clear BK155;clear HB;have HO_3:=n0_;have HO159:=n1_;have BK155:=n2_;have HB:=n3_;clear n0_ n1_ n2_ n3_;(try clear hb);(try clear hb2);(try clear hk);(try clear hi);(try clear ho0);obtain ⟨Ao18,co18,eo18⟩:=Kd.R_slice HO159.out;subst eo18)|((with_reducible refine gate_builtin (b:=.append) (xs:=#[.tmp 22,.tmp 28]) rfl ?_);at_builtin;refine Kd.R_append_rows (Kd.int .u8) (w0:=w) w.heap.size rfl (.tmp 22) (.tmp 28) 26 5 (.int .u8 0) 1 rfl Try.underlying26 info5 rfl (by decide) (by omega) u3 x3_1 t157 _ _ _ (fun k_=>some k_ ≠ (.slice Ao18 t157.length co18:Value).ownBlock) (fun _=>False) rfl rfl ?aO ?aR (fun _ _ h=>h) (fun _ h=>h.elim) ?aF ?aB ?aS ?aL ?_;(case aR=>repeat (first|exact (Kd.R_reads' HO159.out).2.2|(with_reducible refine Kd.C_alloc ?_ _)|(with_reducible refine Kd.C_drewN ?_ _)|(with_reducible refine Kd.C_drew ?_)));(case aB=>exact (by repeat (first|(with_reducible first|exact HB.out|apply below_alloc|apply pw_below_drewN|apply below_drew1|refine below_set ?_ GE155.out)|exact HB.out)));(case aF=>exact (fun k_ hk=>Kd.fresh' (Kd.R_lt (by (with_reducible repeat (first|apply Kd.R_alloc|apply Kd.R_drewN|apply Kd.R_drew));exact HO159.out)) k_ hk));(case aO=>exact (by (with_reducible repeat (first|apply Kd.R_alloc|apply Kd.R_drewN|apply Kd.R_drew));exact Kd.R_mono HO_3.out (fun _ hk=>hk.2)));(case aS=>exact (below_size (by repeat (first|(with_reducible first|exact HB.out|apply below_alloc|apply pw_below_drewN|apply below_drew1|refine below_set ?_ GE155.out)|exact HB.out))));(case aL=>have:=LMc9.out;omega);intro v161 w17 ho hb hg hat;rw [← Ny160.out] at ho;have n0_:=Aside0.mk (blk_grown (g:=gb155) (o:=.cells #[.int .i64 ((rd_T39 l0 x4_1).f0),.int .i64 ((rd_T39 l0 x4_1).f1),.slice A154_2 ((rd_T39 l0 x4_1).f2).length c154_2] 39 (0,0)) (by (with_reducible repeat (first|refine blk_drewN ?_ _|refine blk_drew ?_|refine blk_alloc ?_ _));exact BK155.out) hg (Kd.R_ne HO_3.out BK155.out (by decide)));have n1_:=Aside0.mk (Kd.R_after (ok:=(fun _=>True)) (by (with_reducible repeat (first|apply Kd.R_alloc|apply Kd.R_drewN|apply Kd.R_drew));exact HO159.out) hg hat);have n2_:=Aside0.mk (hb);have n3_:=Aside0.mk (ho);clear BK155;clear HO159;clear HB;clear HO_3;have BK155:=n0_;have HO159:=n1_;have HB:=n2_;have HO162:=n3_;clear n0_ n1_ n2_ n3_;clear ho hb hg hat;have hcz19_0:w17.cell? ⟨gb155,0,none⟩ = some (.int .i64 ((rd_T39 l0 x4_1).f0)):=(blk_cell BK155.out 0).trans rfl;have hcz19_1:w17.cell? ⟨gb155,1,none⟩ = some (.int .i64 ((rd_T39 l0 x4_1).f1)):=(blk_cell BK155.out 1).trans rfl;have hcz19_2:w17.cell? ⟨gb155,2,none⟩ = some (.slice A154_2 ((rd_T39 l0 x4_1).f2).length c154_2):=(blk_cell BK155.out 2).trans rfl;have hfz19_0:=blk_frozen BK155.out 0;have hfz19_1:=blk_frozen BK155.out 1;have hfz19_2:=blk_frozen BK155.out 2)|((with_reducible refine gate_callee (f:=59) rfl ?_);refine goesL_ (some 34) rfl rfl Try.func59 (by kernel_rfl) rfl #[.int .u64 (IntKind.u64.wrap ((rd_T39 l0 x4_1).f0))] rfl (by (try simp only [List.map_toArray,List.map_cons,List.map_nil]);first|done|rfl|(simp only [List.length_drop,List.length_take];rfl)) ?_;(with_reducible refine (stockyardref01_Uint.calls k1 (IntKind.u64.wrap ((rd_T39 l0 x4_1).f0)) t163 _ A10.out).mono ?_);rintro e w20 ⟨v164,rfl,ho0,hb⟩;refine ⟨_,rfl,?_⟩;have n0_:=Aside0.mk (Kd.R_elder' (by (with_reducible repeat (first|apply Kd.R_alloc|apply Kd.R_drewN|apply Kd.R_drew));exact HO159.out) (Kd.R_base ho0) hb);have n1_:=Aside0.mk (Kd.R_elder' (by (with_reducible repeat (first|apply Kd.R_alloc|apply Kd.R_drewN|apply Kd.R_drew));exact HO162.out) (Kd.R_base ho0) hb);have n2_:=Aside0.mk (Kd.R_lower (Kd.R_new' (Kd.R_new' ho0 (Kd.R_lt (by (with_reducible repeat (first|apply Kd.R_alloc|apply Kd.R_drewN|apply Kd.R_drew));exact HO159.out))) (Kd.R_lt (by (with_reducible repeat (first|apply Kd.R_alloc|apply Kd.R_drewN|apply Kd.R_drew));exact HO162.out))) (below_size (by repeat (first|(with_reducible first|exact HB.out|apply below_alloc|apply pw_below_drewN|apply below_drew1|refine below_set ?_ GE155.out)|exact HB.out))));have n3_:=Aside0.mk (blk_below (g:=gb155) (o:=.cells #[.int .i64 ((rd_T39 l0 x4_1).f0),.int .i64 ((rd_T39 l0 x4_1).f1),.slice A154_2 ((rd_T39 l0 x4_1).f2).length c154_2] 39 (0,0)) (by (with_reducible repeat (first|refine blk_drewN ?_ _|refine blk_drew ?_|refine blk_alloc ?_ _));exact BK155.out) hb);have n4_:=Aside0.mk (below_step (by repeat (first|(with_reducible first|exact HB.out|apply below_alloc|apply pw_below_drewN|apply below_drew1|refine below_set ?_ GE155.out)|exact HB.out)) hb);clear HO159;clear HO162;clear BK155;clear HB;have HO159:=n0_;have HO162:=n1_;have HO165:=n2_;have BK155:=n3_;have HB:=n4_;clear n0_ n1_ n2_ n3_ n4_;(try clear hb);(try clear hb2);(try clear hk);(try clear hi);(try clear ho0);obtain ⟨Ao22,co22,eo22⟩:=Kd.R_slice HO165.out;subst eo22)|((with_reducible refine gate_builtin (b:=.append) (xs:=#[.tmp 30,.tmp 34]) rfl ?_);at_builtin;refine Kd.R_append_rows (Kd.int .u8) (w0:=w) w.heap.size rfl (.tmp 30) (.tmp 34) 26 5 (.int .u8 0) 1 rfl Try.underlying26 info5 rfl (by decide) (by omega) v161 y160 t163 _ _ _ (fun k_=>some k_ ≠ (.slice Ao18 t157.length co18:Value).ownBlock ∧ some k_ ≠ (.slice Ao22 t163.length co22:Value).ownBlock) (fun _=>False) rfl rfl ?aO ?aR (fun _ _ h=>h) (fun _ h=>h.elim) ?aF ?aB ?aS ?aL ?_;(case aR=>repeat (first|exact (Kd.R_reads' HO165.out).2.2|(with_reducible refine Kd.C_alloc ?_ _)|(with_reducible refine Kd.C_drewN ?_ _)|(with_reducible refine Kd.C_drew ?_)));(case aB=>exact (by repeat (first|(with_reducible first|exact HB.out|apply below_alloc|apply pw_below_drewN|apply below_drew1|refine below_set ?_ GE155.out)|exact HB.out)));(case aF=>exact (fun k_ hk=>⟨Kd.fresh' (Kd.R_lt (by (with_reducible repeat (first|apply Kd.R_alloc|apply Kd.R_drewN|apply Kd.R_drew));exact HO159.out)) k_ hk,Kd.fresh' (Kd.R_lt (by (with_reducible repeat (first|apply Kd.R_alloc|apply Kd.R_drewN|apply Kd.R_drew));exact HO165.out)) k_ hk⟩));(case aO=>exact (by (with_reducible repeat (first|apply Kd.R_alloc|apply Kd.R_drewN|apply Kd.R_drew));exact HO162.out));(case aS=>exact (below_size (by repeat (first|(with_reducible first|exact HB.out|apply below_alloc|apply pw_below_drewN|apply below_drew1|refine below_set ?_ GE155.out)|exact HB.out))));(case aL=>have:=LMc11.out;omega);intro v167 w21 ho hb hg hat;rw [← Ny166.out] at ho;have n0_:=Aside0.mk (blk_grown (g:=gb155) (o:=.cells #[.int .i64 ((rd_T39 l0 x4_1).f0),.int .i64 ((rd_T39 l0 x4_1).f1),.slice A154_2 ((rd_T39 l0 x4_1).f2).length c154_2] 39 (0,0)) (by (with_reducible repeat (first|refine blk_drewN ?_ _|refine blk_drew ?_|refine blk_alloc ?_ _));exact BK155.out) hg (Kd.R_ne HO162.out BK155.out (by decide)));have n1_:=Aside0.mk (Kd.R_after (ok:=(fun k_=>some k_ ≠ (.slice Ao22 t163.length co22:Value).ownBlock)) (by (with_reducible repeat (first|apply Kd.R_alloc|apply Kd.R_drewN|apply Kd.R_drew));exact Kd.R_mono HO159.out (fun _ hk=>⟨hk.2,hk.1.2⟩)) hg hat);have n2_:=Aside0.mk (Kd.R_after (ok:=(fun k_=>some k_ ≠ (.slice Ao18 t157.length co18:Value).ownBlock)) (by (with_reducible repeat (first|apply Kd.R_alloc|apply Kd.R_drewN|apply Kd.R_drew));exact Kd.R_mono HO165.out (fun _ hk=>⟨hk.1.2,hk.2⟩)) hg hat);have n3_:=Aside0.mk (hb);have n4_:=Aside0.mk (ho);clear BK155;clear HO159;clear HO165;clear HB;clear HO162;have BK155:=n0_;have HO159:=n1_;have HO165:=n2_;have HB:=n3_;have HO168:=n4_;clear n0_ n1_ n2_ n3_ n4_;clear ho hb hg hat))
        go_roundg k1
        case measure=>have:=HK1.out;omega
        case rel=>exact ⟨(y166),(wrap64 (x4_1 + 1)),(by first|rfl|(simp;done)|(simp [*];done)),H',⟨by have:=HK1.out;omega⟩,⟨by (with_reducible repeat (first|apply Kd.R_alloc|apply Kd.R_drewN|apply Kd.R_drew));exact Kd.R_mono HO168.out (fun _ hk=>trivial)⟩,⟨by repeat (first|(with_reducible first|exact HB.out|apply below_alloc|apply pw_below_drewN|apply below_drew1|refine below_set ?_ GE155.out)|exact HB.out)⟩⟩
       ·rw [if_neg c11] at H
        exact absurd H (by simp)
      ·rw [if_neg c9] at H
       exact absurd H (by simp)
     ·replace c7:=Bool.eq_false_iff.mpr c7
      subst c7
      have H1:((stockyardref01_Uint.f k1 (IntKind.u64.wrap (2 * (IntKind.u64.wrap ((((rd_T39 l0 x4_1).f2).length:Int)))))).bind fun t169=>(if x3_1.length + t169.length < 140737488355328 then ((some (x3_1 ++ t169:List Int)).bind fun y172=>(if y172.length + ((rd_T39 l0 x4_1).f2).length < 140737488355328 then (ref26_bytes.l0 k1 l0 (y172 ++ ((rd_T39 l0 x4_1).f2)) (wrap64 (x4_1 + 1))) else (none))) else (none))) = some r:=by rw [if_neg (show ¬ (false = true) by decide)] at H;exact H
      clear H
      have H:=H1
      clear H1
      replace H:=Option.bind_eq_some_iff.mp H
      obtain ⟨t169,A230,H⟩:=H
      replace H:(if x3_1.length + t169.length < 140737488355328 then ((some (x3_1 ++ t169:List Int)).bind fun y172=>(if y172.length + ((rd_T39 l0 x4_1).f2).length < 140737488355328 then (ref26_bytes.l0 k1 l0 (y172 ++ ((rd_T39 l0 x4_1).f2)) (wrap64 (x4_1 + 1))) else (none))) else (none)) = some r:=H
      have A23:=Aside0.mk A230
      clear A230
      by_cases c24:x3_1.length + t169.length < 140737488355328
      ·rw [if_pos c24] at H
       have LMc24:=Aside0.mk c24
       clear c24
       obtain ⟨y172,hy172⟩:∃ y_:List Int,y_ = (x3_1 ++ t169):=⟨_,rfl⟩
       replace H:(if y172.length + ((rd_T39 l0 x4_1).f2).length < 140737488355328 then (ref26_bytes.l0 k1 l0 (y172 ++ ((rd_T39 l0 x4_1).f2)) (wrap64 (x4_1 + 1))) else (none)) = some r:=by first|(rw [hy172];with_reducible exact H)|(have H2_:=(Option.bind_some _ _).symm.trans H;rw [hy172];with_reducible exact H2_)|(have H2_:=(Option.bind_some _ _).symm.trans H;with_reducible exact H2_)|with_reducible exact H|(rw [hy172];exact H)|exact H
       have Ny172:=Aside0.mk hy172
       clear hy172
       by_cases c25:y172.length + ((rd_T39 l0 x4_1).f2).length < 140737488355328
       ·rw [if_pos c25] at H
        have LMc25:=Aside0.mk c25
        clear c25
        obtain ⟨y175,hy175⟩:∃ y_:List Int,y_ = (y172 ++ ((rd_T39 l0 x4_1).f2)):=⟨_,rfl⟩
        replace H:(ref26_bytes.l0 k1 l0 y175 (wrap64 (x4_1 + 1))) = some r:=by first|(rw [hy175];with_reducible exact H)|(have H2_:=(Option.bind_some _ _).symm.trans H;rw [hy175];with_reducible exact H2_)|(have H2_:=(Option.bind_some _ _).symm.trans H;with_reducible exact H2_)|with_reducible exact H|(rw [hy175];exact H)|exact H
        have Ny175:=Aside0.mk hy175
        clear hy175
        have H':=Aside0.mk H
        clear H
        have p154:0 ≤ (x4_1:Int):=of_decide_eq_true (by first|(with_reducible assumption)|assumption)
        have q154:x4_1 < (l0.length:Int):=of_decide_eq_true (by first|(with_reducible assumption)|assumption)
        obtain ⟨ad154,A154_2,c154_2,e154,hx154_0,hx154_1,hx154_2,hl154_2,hi154_2⟩:=at_T39 HR0.out x4_1 p154 q154
        cases e154
        have hu154_2:=Aside0.mk hx154_2
        replace hx154_0:=(HB.out.cell (World.block_lt_of_cell? w _ hx154_0)).trans hx154_0
        replace hx154_1:=(HB.out.cell (World.block_lt_of_cell? w _ hx154_1)).trans hx154_1
        replace hx154_2:=(HB.out.cell (World.block_lt_of_cell? w _ hx154_2)).trans hx154_2
        have HR154_2:=Aside0.mk hi154_2
        have HC154_2:=Aside0.mk hl154_2
        clear hi154_2 hl154_2
        replace p154:=eq_true p154
        replace q154:=eq_true q154
        go_wp2_with (first|((with_reducible refine gate_dst (N:=5) rfl ?_);refine box_event ?hg (N:=5) ?hd (cs:=#[.int .i64 0,.int .i64 0,.slice none 0 0]) (t:=39) ?hr ?_;(case hd=>rfl);(case hg=>rfl);(case hr=>first|(go_simp;done)|(go_simp;rfl));intro gb155 hg w26 hbox hb;have n0_:=Aside0.mk (Kd.R_below (by (with_reducible repeat (first|apply Kd.R_alloc|apply Kd.R_drewN|apply Kd.R_drew));exact HO_3.out) hb);have n1_:=Aside0.mk (below_step (by repeat (first|(with_reducible first|exact HB.out|apply below_alloc|apply pw_below_drewN|apply below_drew1)|exact HB.out)) hb);have n2_:=Aside0.mk (hbox);have n3_:=Aside0.mk ((by rw [hg];exact (below_size (by repeat (first|(with_reducible first|exact HB.out|apply below_alloc|apply pw_below_drewN|apply below_drew1)|exact HB.out))):w.heap.size ≤ gb155));have n4_:=Aside0.mk ((by rw [hg];exact (below_size (by repeat (first|(with_reducible first|exact HB.out|apply below_alloc|apply pw_below_drewN|apply below_drew1)|exact HB.out))):w.heap.size ≤ gb155));clear HO_3;clear HB;have HO_3:=n0_;have HB:=n1_;have BK155:=n2_;have GW155:=n3_;have GE155:=n4_;clear n0_ n1_ n2_ n3_ n4_;clear hb hbox hg;have hcz27_0:w26.cell? ⟨gb155,0,none⟩ = some (.int .i64 0):=(blk_cell BK155.out 0).trans rfl;have hcz27_1:w26.cell? ⟨gb155,1,none⟩ = some (.int .i64 0):=(blk_cell BK155.out 1).trans rfl;have hcz27_2:w26.cell? ⟨gb155,2,none⟩ = some (.slice none 0 0):=(blk_cell BK155.out 2).trans rfl;have hfz27_0:=blk_frozen BK155.out 0;have hfz27_1:=blk_frozen BK155.out 1;have hfz27_2:=blk_frozen BK155.out 2)|((with_reducible refine gate_callee (f:=48) rfl ?_);refine goesL_ (some 21) rfl rfl Try.func48 (by kernel_rfl) rfl #[.agg #[.int .i64 ((rd_T39 l0 x4_1).f0),.int .i64 ((rd_T39 l0 x4_1).f1),.slice A154_2 ((rd_T39 l0 x4_1).f2).length c154_2]] rfl (by (try simp only [List.map_toArray,List.map_cons,List.map_nil]);first|done|rfl|(simp only [List.length_drop,List.length_take];rfl)) ?_;(with_reducible refine (ref26_Copies.calls ((rd_T39 l0 x4_1).f0) ((rd_T39 l0 x4_1).f1) _ _ ((rd_T39 l0 x4_1).f2) false _ ?side1 ?side2 A6.out).mono ?_);(case side1=>exact Kd.C_below HR154_2.out (by repeat (first|(with_reducible first|exact HB.out|apply below_alloc|apply pw_below_drewN|apply below_drew1|refine below_set ?_ GE155.out)|exact HB.out)));(case side2=>exact HC154_2.out);rintro e w28 ⟨rfl,hb⟩;refine ⟨_,rfl,?_⟩;have n0_:=Aside0.mk (Kd.R_below (by (with_reducible repeat (first|apply Kd.R_alloc|apply Kd.R_drewN|apply Kd.R_drew));exact (Kd.R_mono (Kd.R_far (p:=⟨gb155,2,none⟩) (Kd.R_far (p:=⟨gb155,1,none⟩) (Kd.R_far (p:=⟨gb155,0,none⟩) (Kd.R_types HO_3.out BK155.out (by decide)) (fun _ hk=>hk.2) (.int .i64 ((rd_T39 l0 x4_1).f0))) (fun _ hk=>hk.2) (.int .i64 ((rd_T39 l0 x4_1).f1))) (fun _ hk=>hk.2) (.slice A154_2 ((rd_T39 l0 x4_1).f2).length c154_2)) (fun _ h_=>h_.1))) hb);have n1_:=Aside0.mk (blk_below (g:=gb155) (o:=.cells #[.int .i64 ((rd_T39 l0 x4_1).f0),.int .i64 ((rd_T39 l0 x4_1).f1),.slice A154_2 ((rd_T39 l0 x4_1).f2).length c154_2] 39 (0,0)) (by (with_reducible repeat (first|refine blk_drewN ?_ _|refine blk_drew ?_|refine blk_alloc ?_ _));refine blk_put (cs:=#[.int .i64 ((rd_T39 l0 x4_1).f0),.int .i64 ((rd_T39 l0 x4_1).f1),.slice none 0 0]) ?_ 2 _ rfl;(with_reducible repeat (first|refine blk_drewN ?_ _|refine blk_drew ?_|refine blk_alloc ?_ _));refine blk_put (cs:=#[.int .i64 ((rd_T39 l0 x4_1).f0),.int .i64 0,.slice none 0 0]) ?_ 1 _ rfl;(with_reducible repeat (first|refine blk_drewN ?_ _|refine blk_drew ?_|refine blk_alloc ?_ _));refine blk_put (cs:=#[.int .i64 0,.int .i64 0,.slice none 0 0]) ?_ 0 _ rfl;(with_reducible repeat (first|refine blk_drewN ?_ _|refine blk_drew ?_|refine blk_alloc ?_ _));exact BK155.out) hb);have n2_:=Aside0.mk (below_step (by repeat (first|(with_reducible first|exact HB.out|apply below_alloc|apply pw_below_drewN|apply below_drew1|refine below_set ?_ GE155.out)|exact HB.out)) hb);clear HO_3;clear BK155;clear HB;have HO_3:=n0_;have BK155:=n1_;have HB:=n2_;clear n0_ n1_ n2_;(try clear hb);(try clear hb2);(try clear hk);(try clear hi);have hcz29_0:w28.cell? ⟨gb155,0,none⟩ = some (.int .i64 ((rd_T39 l0 x4_1).f0)):=(blk_cell BK155.out 0).trans rfl;have hcz29_1:w28.cell? ⟨gb155,1,none⟩ = some (.int .i64 ((rd_T39 l0 x4_1).f1)):=(blk_cell BK155.out 1).trans rfl;have hcz29_2:w28.cell? ⟨gb155,2,none⟩ = some (.slice A154_2 ((rd_T39 l0 x4_1).f2).length c154_2):=(blk_cell BK155.out 2).trans rfl;have hfz29_0:=blk_frozen BK155.out 0;have hfz29_1:=blk_frozen BK155.out 1;have hfz29_2:=blk_frozen BK155.out 2)|((with_reducible refine gate_callee (f:=59) rfl ?_);refine goesL_ (some 42) rfl rfl Try.func59 (by kernel_rfl) rfl #[.int .u64 (IntKind.u64.wrap (2 * (IntKind.u64.wrap ((((rd_T39 l0 x4_1).f2).length:Int)))))] rfl (by (try simp only [List.map_toArray,List.map_cons,List.map_nil]);first|done|rfl|(simp only [List.length_drop,List.length_take];rfl)) ?_;(with_reducible refine (stockyardref01_Uint.calls k1 (IntKind.u64.wrap (2 * (IntKind.u64.wrap ((((rd_T39 l0 x4_1).f2).length:Int))))) t169 _ A23.out).mono ?_);rintro e w30 ⟨v170,rfl,ho0,hb⟩;refine ⟨_,rfl,?_⟩;have n0_:=Aside0.mk (Kd.R_elder' (by (with_reducible repeat (first|apply Kd.R_alloc|apply Kd.R_drewN|apply Kd.R_drew));exact HO_3.out) (Kd.R_base ho0) hb);have n1_:=Aside0.mk (Kd.R_lower (Kd.R_new' ho0 (Kd.R_lt (by (with_reducible repeat (first|apply Kd.R_alloc|apply Kd.R_drewN|apply Kd.R_drew));exact HO_3.out))) (below_size (by repeat (first|(with_reducible first|exact HB.out|apply below_alloc|apply pw_below_drewN|apply below_drew1|refine below_set ?_ GE155.out)|exact HB.out))));have n2_:=Aside0.mk (blk_below (g:=gb155) (o:=.cells #[.int .i64 ((rd_T39 l0 x4_1).f0),.int .i64 ((rd_T39 l0 x4_1).f1),.slice A154_2 ((rd_T39 l0 x4_1).f2).length c154_2] 39 (0,0)) (by (with_reducible repeat (first|refine blk_drewN ?_ _|refine blk_drew ?_|refine blk_alloc ?_ _));exact BK155.out) hb);have n3_:=Aside0.mk (below_step (by repeat (first|(with_reducible first|exact HB.out|apply below_alloc|apply pw_below_drewN|apply below_drew1|refine below_set ?_ GE155.out)|exact HB.out)) hb);clear HO_3;clear BK155;clear HB;have HO_3:=n0_;have HO171:=n1_;have BK155:=n2_;have HB:=n3_;clear n0_ n1_ n2_ n3_;(try clear hb);(try clear hb2);(try clear hk);(try clear hi);(try clear ho0);obtain ⟨Ao32,co32,eo32⟩:=Kd.R_slice HO171.out;subst eo32)|((with_reducible refine gate_builtin (b:=.append) (xs:=#[.tmp 36,.tmp 42]) rfl ?_);at_builtin;refine Kd.R_append_rows (Kd.int .u8) (w0:=w) w.heap.size rfl (.tmp 36) (.tmp 42) 26 5 (.int .u8 0) 1 rfl Try.underlying26 info5 rfl (by decide) (by omega) u3 x3_1 t169 _ _ _ (fun k_=>some k_ ≠ (.slice Ao32 t169.length co32:Value).ownBlock) (fun _=>False) rfl rfl ?aO ?aR (fun _ _ h=>h) (fun _ h=>h.elim) ?aF ?aB ?aS ?aL ?_;(case aR=>repeat (first|exact (Kd.R_reads' HO171.out).2.2|(with_reducible refine Kd.C_alloc ?_ _)|(with_reducible refine Kd.C_drewN ?_ _)|(with_reducible refine Kd.C_drew ?_)));(case aB=>exact (by repeat (first|(with_reducible first|exact HB.out|apply below_alloc|apply pw_below_drewN|apply below_drew1|refine below_set ?_ GE155.out)|exact HB.out)));(case aF=>exact (fun k_ hk=>Kd.fresh' (Kd.R_lt (by (with_reducible repeat (first|apply Kd.R_alloc|apply Kd.R_drewN|apply Kd.R_drew));exact HO171.out)) k_ hk));(case aO=>exact (by (with_reducible repeat (first|apply Kd.R_alloc|apply Kd.R_drewN|apply Kd.R_drew));exact Kd.R_mono HO_3.out (fun _ hk=>hk.2)));(case aS=>exact (below_size (by repeat (first|(with_reducible first|exact HB.out|apply below_alloc|apply pw_below_drewN|apply below_drew1|refine below_set ?_ GE155.out)|exact HB.out))));(case aL=>have:=LMc24.out;omega);intro v173 w31 ho hb hg hat;rw [← Ny172.out] at ho;have n0_:=Aside0.mk (blk_grown (g:=gb155) (o:=.cells #[.int .i64 ((rd_T39 l0 x4_1).f0),.int .i64 ((rd_T39 l0 x4_1).f1),.slice A154_2 ((rd_T39 l0 x4_1).f2).length c154_2] 39 (0,0)) (by (with_reducible repeat (first|refine blk_drewN ?_ _|refine blk_drew ?_|refine blk_alloc ?_ _));exact BK155.out) hg (Kd.R_ne HO_3.out BK155.out (by decide)));have n1_:=Aside0.mk (Kd.R_after (ok:=(fun _=>True)) (by (with_reducible repeat (first|apply Kd.R_alloc|apply Kd.R_drewN|apply Kd.R_drew));exact HO171.out) hg hat);have n2_:=Aside0.mk (hb);have n3_:=Aside0.mk (ho);clear BK155;clear HO171;clear HB;clear HO_3;have BK155:=n0_;have HO171:=n1_;have HB:=n2_;have HO174:=n3_;clear n0_ n1_ n2_ n3_;clear ho hb hg hat;have hcz33_0:w31.cell? ⟨gb155,0,none⟩ = some (.int .i64 ((rd_T39 l0 x4_1).f0)):=(blk_cell BK155.out 0).trans rfl;have hcz33_1:w31.cell? ⟨gb155,1,none⟩ = some (.int .i64 ((rd_T39 l0 x4_1).f1)):=(blk_cell BK155.out 1).trans rfl;have hcz33_2:w31.cell? ⟨gb155,2,none⟩ = some (.slice A154_2 ((rd_T39 l0 x4_1).f2).length c154_2):=(blk_cell BK155.out 2).trans rfl;have hfz33_0:=blk_frozen BK155.out 0;have hfz33_1:=blk_frozen BK155.out 1;have hfz33_2:=blk_frozen BK155.out 2)|((with_reducible refine gate_builtin (b:=.append) (xs:=#[.tmp 44,.tmp 46]) rfl ?_);at_builtin;refine Kd.R_append_rows (Kd.int .u8) (w0:=w) w.heap.size rfl (.tmp 44) (.tmp 46) 26 5 (.int .u8 0) 1 rfl Try.underlying26 info5 rfl (by decide) (by omega) v173 y172 ((rd_T39 l0 x4_1).f2) _ _ _ (fun k_=>some k_ ≠ (.slice Ao32 t169.length co32:Value).ownBlock) (fun _=>False) rfl rfl ?aO ?aR (fun _ _ h=>h) (fun _ h=>h.elim) ?aF ?aB ?aS ?aL ?_;(case aR=>repeat (first|exact (Kd.C_below HR154_2.out HB.out)|(with_reducible refine Kd.C_alloc ?_ _)|(with_reducible refine Kd.C_drewN ?_ _)|(with_reducible refine Kd.C_drew ?_)));(case aB=>exact (by repeat (first|(with_reducible first|exact HB.out|apply below_alloc|apply pw_below_drewN|apply below_drew1|refine below_set ?_ GE155.out)|exact HB.out)));(case aF=>exact (fun k_ hk=>Kd.fresh' (Kd.R_lt (by (with_reducible repeat (first|apply Kd.R_alloc|apply Kd.R_drewN|apply Kd.R_drew));exact HO171.out)) k_ hk));(case aO=>exact (by (with_reducible repeat (first|apply Kd.R_alloc|apply Kd.R_drewN|apply Kd.R_drew));exact HO174.out));(case aS=>exact (below_size (by repeat (first|(with_reducible first|exact HB.out|apply below_alloc|apply pw_below_drewN|apply below_drew1|refine below_set ?_ GE155.out)|exact HB.out))));(case aL=>have:=LMc25.out;omega);intro v176 w34 ho hb hg hat;rw [← Ny175.out] at ho;have n0_:=Aside0.mk (blk_grown (g:=gb155) (o:=.cells #[.int .i64 ((rd_T39 l0 x4_1).f0),.int .i64 ((rd_T39 l0 x4_1).f1),.slice A154_2 ((rd_T39 l0 x4_1).f2).length c154_2] 39 (0,0)) (by (with_reducible repeat (first|refine blk_drewN ?_ _|refine blk_drew ?_|refine blk_alloc ?_ _));exact BK155.out) hg (Kd.R_ne HO174.out BK155.out (by decide)));have n1_:=Aside0.mk (Kd.R_after (ok:=(fun _=>True)) (by (with_reducible repeat (first|apply Kd.R_alloc|apply Kd.R_drewN|apply Kd.R_drew));exact HO171.out) hg hat);have n2_:=Aside0.mk (hb);have n3_:=Aside0.mk (ho);clear BK155;clear HO171;clear HB;clear HO174;have BK155:=n0_;have HO171:=n1_;have HB:=n2_;have HO177:=n3_;clear n0_ n1_ n2_ n3_;clear ho hb hg hat))
        go_roundg k1
        case measure=>have:=HK1.out;omega
        case rel=>exact ⟨(y175),(wrap64 (x4_1 + 1)),(by first|rfl|(simp;done)|(simp [*];done)),H',⟨by have:=HK1.out;omega⟩,⟨by (with_reducible repeat (first|apply Kd.R_alloc|apply Kd.R_drewN|apply Kd.R_drew));exact Kd.R_mono HO177.out (fun _ hk=>trivial)⟩,⟨by repeat (first|(with_reducible first|exact HB.out|apply below_alloc|apply pw_below_drewN|apply below_drew1|refine below_set ?_ GE155.out)|exact HB.out)⟩⟩
       ·rw [if_neg c25] at H
        exact absurd H (by simp)
      ·rw [if_neg c24] at H
       exact absurd H (by simp)
    ·rw [if_neg c5] at H
     exact absurd H (by simp)
   ·rw [if_neg c4] at H
    have c4b0:decide (x4_1 < (l0.length:Int)) = false:=decide_eq_false c4
    clear c4
    obtain rfl:=Option.some.inj H
    go_wp2
    go_ret
    exact ⟨_,by first|rfl|(simp [errW_none,errW_some] <;> rfl)|(simp [*,errW_none,errW_some] <;> rfl),by (with_reducible repeat (first|apply Kd.R_alloc|apply Kd.R_drewN|apply Kd.R_drew));exact HO_3.out,by repeat (first|(with_reducible first|exact HB.out|apply below_alloc|apply pw_below_drewN|apply below_drew1)|exact HB.out)⟩

/-! ### ref26_Cost: function 29 -/
def ref26_Cost.l0:Nat → List (S39) → Int → Option (Int)
 | 0,_,_=>none
 | k + 1,x0,x3=>if x3 < (x0.length:Int) then (if 0 ≤ x3 then ((ref26_Literal.f ((rd_T39 x0 x3).f0) ((rd_T39 x0 x3).f1) ((rd_T39 x0 x3).f2)).bind fun t183=>(if t183 = true then (ref26_Cost.l0 k x0 (wrap64 (x3 + 1))) else ((ref26_Copies.f ((rd_T39 x0 x3).f0) ((rd_T39 x0 x3).f1) ((rd_T39 x0 x3).f2)).bind fun t184=>(if t184 = true then (if ((rd_T39 x0 x3).f0) < 0 then (some 0) else (ref26_Cost.l0 k x0 (wrap64 (x3 + 1)))) else (some 0))))) else (none)) else ((ref26_bytes.f k x0).bind fun t178=>(some (t178.length:Int)))
def ref26_Cost.f (k:Nat) (l0:List (S39)):Option (Int):=ref26_Cost.l0 k l0 0
set_option maxHeartbeats 8000000 in
set_option maxRecDepth 100000 in
theorem ref26_Cost.calls (k:Nat) (A0:Option Addr) (c0:Nat) (l0:List (S39)) (r:Int) (w:World) (hr0:Kd.C k39 w A0 l0.length l0) (hc0:l0.length ≤ c0) (h:ref26_Cost.f k l0 = some r) :
  Calls Try.prog 29 #[.slice A0 l0.length c0] w fun e w'=>e = .returned (.int .i64 r) ∧ Below w.heap.size w w':=by
 have hu39:=Try.underlying39
 have HR0:=Aside0.mk hr0
 have HC0:=Aside0.mk hc0
 clear hr0 hc0
 have HB:=Aside0.mk (Below.refl w.heap.size w)
 have H:(ref26_Cost.l0 k l0 0) = some r:=h
 clear h
 have H':=Aside0.mk H
 clear H
 go_enter Try.func29,Try.ntmps29
 go_wp2
 go_loopg [3] k (fun kq v3 w'=>∃ (x3_1:Int),v3 = .int .i64 x3_1 ∧ Aside0 (ref26_Cost.l0 kq l0 x3_1 = some r) ∧ Aside0 (kq ≤ k) ∧ Aside0 (Below w.heap.size w w'))
 case atStart=>exact ⟨(0),(by first|rfl|(simp;done)|(simp [*];done)),H',⟨Nat.le_refl _⟩,⟨by repeat (first|(with_reducible first|exact HB.out|apply below_alloc|apply pw_below_drewN|apply below_drew1)|exact HB.out)⟩⟩
 case round =>
  clear H'
  obtain ⟨x3_1,rfl,HA,HK1,HB⟩:=hrel
  cases gk with
  | zero=>exact absurd HA.out (by simp [ref26_Cost.l0])
  | succ k1 =>
   have H:=HA.out
   clear HA
   simp only [ref26_Cost.l0] at H
   by_cases c2:x3_1 < (l0.length:Int)
   ·rw [if_pos c2] at H
    have c2b0:decide (x3_1 < (l0.length:Int)) = true:=decide_eq_true c2
    clear c2
    by_cases c3:0 ≤ x3_1
    ·rw [if_pos c3] at H
     have c3b0:decide (0 ≤ x3_1) = true:=decide_eq_true c3
     clear c3
     replace H:=Option.bind_eq_some_iff.mp H
     obtain ⟨t183,A40,H⟩:=H
     replace H:(if t183 = true then (ref26_Cost.l0 k1 l0 (wrap64 (x3_1 + 1))) else ((ref26_Copies.f ((rd_T39 l0 x3_1).f0) ((rd_T39 l0 x3_1).f1) ((rd_T39 l0 x3_1).f2)).bind fun t184=>(if t184 = true then (if ((rd_T39 l0 x3_1).f0) < 0 then (some 0) else (ref26_Cost.l0 k1 l0 (wrap64 (x3_1 + 1)))) else (some 0)))) = some r:=H
     have A4:=Aside0.mk A40
     clear A40
     by_cases c5:t183 = true
     ·subst c5
      have H1:(ref26_Cost.l0 k1 l0 (wrap64 (x3_1 + 1))) = some r:=by rw [if_pos rfl] at H;exact H
      clear H
      have H:=H1
      clear H1
      have H':=Aside0.mk H
      clear H
      have p181:0 ≤ (x3_1:Int):=of_decide_eq_true (by first|(with_reducible assumption)|assumption)
      have q181:x3_1 < (l0.length:Int):=of_decide_eq_true (by first|(with_reducible assumption)|assumption)
      obtain ⟨ad181,A181_2,c181_2,e181,hx181_0,hx181_1,hx181_2,hl181_2,hi181_2⟩:=at_T39 HR0.out x3_1 p181 q181
      cases e181
      have hu181_2:=Aside0.mk hx181_2
      replace hx181_0:=(HB.out.cell (World.block_lt_of_cell? w _ hx181_0)).trans hx181_0
      replace hx181_1:=(HB.out.cell (World.block_lt_of_cell? w _ hx181_1)).trans hx181_1
      replace hx181_2:=(HB.out.cell (World.block_lt_of_cell? w _ hx181_2)).trans hx181_2
      have HR181_2:=Aside0.mk hi181_2
      have HC181_2:=Aside0.mk hl181_2
      clear hi181_2 hl181_2
      replace p181:=eq_true p181
      replace q181:=eq_true q181
      go_wp2_with (first|((with_reducible refine gate_dst (N:=4) rfl ?_);refine box_event ?hg (N:=4) ?hd (cs:=#[.int .i64 0,.int .i64 0,.slice none 0 0]) (t:=39) ?hr ?_;(case hd=>rfl);(case hg=>rfl);(case hr=>first|(go_simp;done)|(go_simp;rfl));intro gb182 hg w6 hbox hb;have n0_:=Aside0.mk (below_step (by repeat (first|(with_reducible first|exact HB.out|apply below_alloc|apply pw_below_drewN|apply below_drew1)|exact HB.out)) hb);have n1_:=Aside0.mk (hbox);have n2_:=Aside0.mk ((by rw [hg];exact (below_size (by repeat (first|(with_reducible first|exact HB.out|apply below_alloc|apply pw_below_drewN|apply below_drew1)|exact HB.out))):w.heap.size ≤ gb182));have n3_:=Aside0.mk ((by rw [hg];exact (below_size (by repeat (first|(with_reducible first|exact HB.out|apply below_alloc|apply pw_below_drewN|apply below_drew1)|exact HB.out))):w.heap.size ≤ gb182));clear HB;have HB:=n0_;have BK182:=n1_;have GW182:=n2_;have GE182:=n3_;clear n0_ n1_ n2_ n3_;clear hb hbox hg;have hcz7_0:w6.cell? ⟨gb182,0,none⟩ = some (.int .i64 0):=(blk_cell BK182.out 0).trans rfl;have hcz7_1:w6.cell? ⟨gb182,1,none⟩ = some (.int .i64 0):=(blk_cell BK182.out 1).trans rfl;have hcz7_2:w6.cell? ⟨gb182,2,none⟩ = some (.slice none 0 0):=(blk_cell BK182.out 2).trans rfl;have hfz7_0:=blk_frozen BK182.out 0;have hfz7_1:=blk_frozen BK182.out 1;have hfz7_2:=blk_frozen BK182.out 2)|((with_reducible refine gate_callee (f:=49) rfl ?_);refine goesL_ (some 16) rfl rfl Try.func49 (by kernel_rfl) rfl #[.agg #[.int .i64 ((rd_T39 l0 x3_1).f0),.int .i64 ((rd_T39 l0 x3_1).f1),.slice A181_2 ((rd_T39 l0 x3_1).f2).length c181_2]] rfl (by (try simp only [List.map_toArray,List.map_cons,List.map_nil]);first|done|rfl|(simp only [List.length_drop,List.length_take];rfl)) ?_;(with_reducible refine (ref26_Literal.calls ((rd_T39 l0 x3_1).f0) ((rd_T39 l0 x3_1).f1) _ _ ((rd_T39 l0 x3_1).f2) true _ ?side1 ?side2 A4.out).mono ?_);(case side1=>exact Kd.C_below HR181_2.out (by repeat (first|(with_reducible first|exact HB.out|apply below_alloc|apply pw_below_drewN|apply below_drew1|refine below_set ?_ GE182.out)|exact HB.out)));(case side2=>exact HC181_2.out);rintro e w8 ⟨rfl,hb⟩;refine ⟨_,rfl,?_⟩;have n0_:=Aside0.mk (blk_below (g:=gb182) (o:=.cells #[.int .i64 ((rd_T39 l0 x3_1).f0),.int .i64 ((rd_T39 l0 x3_1).f1),.slice A181_2 ((rd_T39 l0 x3_1).f2).length c181_2] 39 (0,0)) (by (with_reducible repeat (first|refine blk_drewN ?_ _|refine blk_drew ?_|refine blk_alloc ?_ _));refine blk_put (cs:=#[.int .i64 ((rd_T39 l0 x3_1).f0),.int .i64 ((rd_T39 l0 x3_1).f1),.slice none 0 0]) ?_ 2 _ rfl;(with_reducible repeat (first|refine blk_drewN ?_ _|refine blk_drew ?_|refine blk_alloc ?_ _));refine blk_put (cs:=#[.int .i64 ((rd_T39 l0 x3_1).f0),.int .i64 0,.slice none 0 0]) ?_ 1 _ rfl;(with_reducible repeat (first|refine blk_drewN ?_ _|refine blk_drew ?_|refine blk_alloc ?_ _));refine blk_put (cs:=#[.int .i64 0,.int .i64 0,.slice none 0 0]) ?_ 0 _ rfl;(with_reducible repeat (first|refine blk_drewN ?_ _|refine blk_drew ?_|refine blk_alloc ?_ _));exact BK182.out) hb);have n1_:=Aside0.mk (below_step (by repeat (first|(with_reducible first|exact HB.out|apply below_alloc|apply pw_below_drewN|apply below_drew1|refine below_set ?_ GE182.out)|exact HB.out)) hb);clear BK182;clear HB;have BK182:=n0_;have HB:=n1_;clear n0_ n1_;(try clear hb);(try clear hb2);(try clear hk);(try clear hi)))
      go_roundg k1
      case measure=>have:=HK1.out;omega
      case rel=>exact ⟨(wrap64 (x3_1 + 1)),(by first|rfl|(simp;done)|(simp [*];done)),H',⟨by have:=HK1.out;omega⟩,⟨by repeat (first|(with_reducible first|exact HB.out|apply below_alloc|apply pw_below_drewN|apply below_drew1|refine below_set ?_ GE182.out)|exact HB.out)⟩⟩
     ·replace c5:=Bool.eq_false_iff.mpr c5
      subst c5
      have H1:((ref26_Copies.f ((rd_T39 l0 x3_1).f0) ((rd_T39 l0 x3_1).f1) ((rd_T39 l0 x3_1).f2)).bind fun t184=>(if t184 = true then (if ((rd_T39 l0 x3_1).f0) < 0 then (some 0) else (ref26_Cost.l0 k1 l0 (wrap64 (x3_1 + 1)))) else (some 0))) = some r:=by rw [if_neg (show ¬ (false = true) by decide)] at H;exact H
      clear H
      have H:=H1
      clear H1
      replace H:=Option.bind_eq_some_iff.mp H
      obtain ⟨t184,A90,H⟩:=H
      replace H:(if t184 = true then (if ((rd_T39 l0 x3_1).f0) < 0 then (some 0) else (ref26_Cost.l0 k1 l0 (wrap64 (x3_1 + 1)))) else (some 0)) = some r:=H
      have A9:=Aside0.mk A90
      clear A90
      by_cases c10:t184 = true
      ·subst c10
       have H1:(if ((rd_T39 l0 x3_1).f0) < 0 then (some 0) else (ref26_Cost.l0 k1 l0 (wrap64 (x3_1 + 1)))) = some r:=by rw [if_pos rfl] at H;exact H
       clear H
       have H:=H1
       clear H1
       by_cases c11:((rd_T39 l0 x3_1).f0) < 0
       ·rw [if_pos c11] at H
        have c11b0:decide (((rd_T39 l0 x3_1).f0) < 0) = true:=decide_eq_true c11
        clear c11
        obtain rfl:=Option.some.inj H
        have p181:0 ≤ (x3_1:Int):=of_decide_eq_true (by first|(with_reducible assumption)|assumption)
        have q181:x3_1 < (l0.length:Int):=of_decide_eq_true (by first|(with_reducible assumption)|assumption)
        obtain ⟨ad181,A181_2,c181_2,e181,hx181_0,hx181_1,hx181_2,hl181_2,hi181_2⟩:=at_T39 HR0.out x3_1 p181 q181
        cases e181
        have hu181_2:=Aside0.mk hx181_2
        replace hx181_0:=(HB.out.cell (World.block_lt_of_cell? w _ hx181_0)).trans hx181_0
        replace hx181_1:=(HB.out.cell (World.block_lt_of_cell? w _ hx181_1)).trans hx181_1
        replace hx181_2:=(HB.out.cell (World.block_lt_of_cell? w _ hx181_2)).trans hx181_2
        have HR181_2:=Aside0.mk hi181_2
        have HC181_2:=Aside0.mk hl181_2
        clear hi181_2 hl181_2
        replace p181:=eq_true p181
        replace q181:=eq_true q181
        go_wp2_with (first|((with_reducible refine gate_dst (N:=4) rfl ?_);refine box_event ?hg (N:=4) ?hd (cs:=#[.int .i64 0,.int .i64 0,.slice none 0 0]) (t:=39) ?hr ?_;(case hd=>rfl);(case hg=>rfl);(case hr=>first|(go_simp;done)|(go_simp;rfl));intro gb182 hg w12 hbox hb;have n0_:=Aside0.mk (below_step (by repeat (first|(with_reducible first|exact HB.out|apply below_alloc|apply pw_below_drewN|apply below_drew1)|exact HB.out)) hb);have n1_:=Aside0.mk (hbox);have n2_:=Aside0.mk ((by rw [hg];exact (below_size (by repeat (first|(with_reducible first|exact HB.out|apply below_alloc|apply pw_below_drewN|apply below_drew1)|exact HB.out))):w.heap.size ≤ gb182));have n3_:=Aside0.mk ((by rw [hg];exact (below_size (by repeat (first|(with_reducible first|exact HB.out|apply below_alloc|apply pw_below_drewN|apply below_drew1)|exact HB.out))):w.heap.size ≤ gb182));clear HB;have HB:=n0_;have BK182:=n1_;have GW182:=n2_;have GE182:=n3_;clear n0_ n1_ n2_ n3_;clear hb hbox hg;have hcz13_0:w12.cell? ⟨gb182,0,none⟩ = some (.int .i64 0):=(blk_cell BK182.out 0).trans rfl;have hcz13_1:w12.cell? ⟨gb182,1,none⟩ = some (.int .i64 0):=(blk_cell BK182.out 1).trans rfl;have hcz13_2:w12.cell? ⟨gb182,2,none⟩ = some (.slice none 0 0):=(blk_cell BK182.out 2).trans rfl;have hfz13_0:=blk_frozen BK182.out 0;have hfz13_1:=blk_frozen BK182.out 1;have hfz13_2:=blk_frozen BK182.out 2)|((with_reducible refine gate_callee (f:=49) rfl ?_);refine goesL_ (some 16) rfl rfl Try.func49 (by kernel_rfl) rfl #[.agg #[.int .i64 ((rd_T39 l0 x3_1).f0),.int .i64 ((rd_T39 l0 x3_1).f1),.slice A181_2 ((rd_T39 l0 x3_1).f2).length c181_2]] rfl (by (try simp only [List.map_toArray,List.map_cons,List.map_nil]);first|done|rfl|(simp only [List.length_drop,List.length_take];rfl)) ?_;(with_reducible refine (ref26_Literal.calls ((rd_T39 l0 x3_1).f0) ((rd_T39 l0 x3_1).f1) _ _ ((rd_T39 l0 x3_1).f2) false _ ?side1 ?side2 A4.out).mono ?_);(case side1=>exact Kd.C_below HR181_2.out (by repeat (first|(with_reducible first|exact HB.out|apply below_alloc|apply pw_below_drewN|apply below_drew1|refine below_set ?_ GE182.out)|exact HB.out)));(case side2=>exact HC181_2.out);rintro e w14 ⟨rfl,hb⟩;refine ⟨_,rfl,?_⟩;have n0_:=Aside0.mk (blk_below (g:=gb182) (o:=.cells #[.int .i64 ((rd_T39 l0 x3_1).f0),.int .i64 ((rd_T39 l0 x3_1).f1),.slice A181_2 ((rd_T39 l0 x3_1).f2).length c181_2] 39 (0,0)) (by (with_reducible repeat (first|refine blk_drewN ?_ _|refine blk_drew ?_|refine blk_alloc ?_ _));refine blk_put (cs:=#[.int .i64 ((rd_T39 l0 x3_1).f0),.int .i64 ((rd_T39 l0 x3_1).f1),.slice none 0 0]) ?_ 2 _ rfl;(with_reducible repeat (first|refine blk_drewN ?_ _|refine blk_drew ?_|refine blk_alloc ?_ _));refine blk_put (cs:=#[.int .i64 ((rd_T39 l0 x3_1).f0),.int .i64 0,.slice none 0 0]) ?_ 1 _ rfl;(with_reducible repeat (first|refine blk_drewN ?_ _|refine blk_drew ?_|refine blk_alloc ?_ _));refine blk_put (cs:=#[.int .i64 0,.int .i64 0,.slice none 0 0]) ?_ 0 _ rfl;(with_reducible repeat (first|refine blk_drewN ?_ _|refine blk_drew ?_|refine blk_alloc ?_ _));exact BK182.out) hb);have n1_:=Aside0.mk (below_step (by repeat (first|(with_reducible first|exact HB.out|apply below_alloc|apply pw_below_drewN|apply below_drew1|refine below_set ?_ GE182.out)|exact HB.out)) hb);clear BK182;clear HB;have BK182:=n0_;have HB:=n1_;clear n0_ n1_;(try clear hb);(try clear hb2);(try clear hk);(try clear hi);have hcz15_0:w14.cell? ⟨gb182,0,none⟩ = some (.int .i64 ((rd_T39 l0 x3_1).f0)):=(blk_cell BK182.out 0).trans rfl;have hcz15_1:w14.cell? ⟨gb182,1,none⟩ = some (.int .i64 ((rd_T39 l0 x3_1).f1)):=(blk_cell BK182.out 1).trans rfl;have hcz15_2:w14.cell? ⟨gb182,2,none⟩ = some (.slice A181_2 ((rd_T39 l0 x3_1).f2).length c181_2):=(blk_cell BK182.out 2).trans rfl;have hfz15_0:=blk_frozen BK182.out 0;have hfz15_1:=blk_frozen BK182.out 1;have hfz15_2:=blk_frozen BK182.out 2)|(go_at_call 48;(with_reducible refine (ref26_Copies.calls ((rd_T39 l0 x3_1).f0) ((rd_T39 l0 x3_1).f1) _ _ ((rd_T39 l0 x3_1).f2) true _ ?side1 ?side2 A9.out).mono ?_);(case side1=>repeat (first|exact (Kd.C_below HR181_2.out HB.out)|(with_reducible refine Kd.C_alloc ?_ _)|(with_reducible refine Kd.C_drewN ?_ _)|(with_reducible refine Kd.C_drew ?_)));(case side2=>exact HC181_2.out);rintro e w16 ⟨rfl,hb⟩;have n0_:=Aside0.mk (blk_below (g:=gb182) (o:=.cells #[.int .i64 ((rd_T39 l0 x3_1).f0),.int .i64 ((rd_T39 l0 x3_1).f1),.slice A181_2 ((rd_T39 l0 x3_1).f2).length c181_2] 39 (0,0)) (by (with_reducible repeat (first|refine blk_drewN ?_ _|refine blk_drew ?_|refine blk_alloc ?_ _));exact BK182.out) hb);have n1_:=Aside0.mk (below_step (by repeat (first|(with_reducible first|exact HB.out|apply below_alloc|apply pw_below_drewN|apply below_drew1|refine below_set ?_ GE182.out)|exact HB.out)) hb);clear BK182;clear HB;have BK182:=n0_;have HB:=n1_;clear n0_ n1_;(try clear hb);(try clear hb2);(try clear hk);(try clear hi);have hcz17_0:w16.cell? ⟨gb182,0,none⟩ = some (.int .i64 ((rd_T39 l0 x3_1).f0)):=(blk_cell BK182.out 0).trans rfl;have hcz17_1:w16.cell? ⟨gb182,1,none⟩ = some (.int .i64 ((rd_T39 l0 x3_1).f1)):=(blk_cell BK182.out 1).trans rfl;have hcz17_2:w16.cell? ⟨gb182,2,none⟩ = some (.slice A181_2 ((rd_T39 l0 x3_1).f2).length c181_2):=(blk_cell BK182.out 2).trans rfl;have hfz17_0:=blk_frozen BK182.out 0;have hfz17_1:=blk_frozen BK182.out 1;have hfz17_2:=blk_frozen BK182.out 2))
        go_ret
        exact ⟨by first|rfl|(simp [errW_none,errW_some] <;> rfl)|(simp [*,errW_none,errW_some] <;> rfl),by repeat (first|(with_reducible first|exact HB.out|apply below_alloc|apply pw_below_drewN|apply below_drew1|refine below_set ?_ GE182.out)|exact HB.out)⟩
       ·rw [if_neg c11] at H
        have c11b0:decide (((rd_T39 l0 x3_1).f0) < 0) = false:=decide_eq_false c11
        clear c11
        have H':=Aside0.mk H
        clear H
        have p181:0 ≤ (x3_1:Int):=of_decide_eq_true (by first|(with_reducible assumption)|assumption)
        have q181:x3_1 < (l0.length:Int):=of_decide_eq_true (by first|(with_reducible assumption)|assumption)
        obtain ⟨ad181,A181_2,c181_2,e181,hx181_0,hx181_1,hx181_2,hl181_2,hi181_2⟩:=at_T39 HR0.out x3_1 p181 q181
        cases e181
        have hu181_2:=Aside0.mk hx181_2
        replace hx181_0:=(HB.out.cell (World.block_lt_of_cell? w _ hx181_0)).trans hx181_0
        replace hx181_1:=(HB.out.cell (World.block_lt_of_cell? w _ hx181_1)).trans hx181_1
        replace hx181_2:=(HB.out.cell (World.block_lt_of_cell? w _ hx181_2)).trans hx181_2
        have HR181_2:=Aside0.mk hi181_2
        have HC181_2:=Aside0.mk hl181_2
        clear hi181_2 hl181_2
        replace p181:=eq_true p181
        replace q181:=eq_true q181
        go_wp2_with (first|((with_reducible refine gate_dst (N:=4) rfl ?_);refine box_event ?hg (N:=4) ?hd (cs:=#[.int .i64 0,.int .i64 0,.slice none 0 0]) (t:=39) ?hr ?_;(case hd=>rfl);(case hg=>rfl);(case hr=>first|(go_simp;done)|(go_simp;rfl));intro gb182 hg w18 hbox hb;have n0_:=Aside0.mk (below_step (by repeat (first|(with_reducible first|exact HB.out|apply below_alloc|apply pw_below_drewN|apply below_drew1)|exact HB.out)) hb);have n1_:=Aside0.mk (hbox);have n2_:=Aside0.mk ((by rw [hg];exact (below_size (by repeat (first|(with_reducible first|exact HB.out|apply below_alloc|apply pw_below_drewN|apply below_drew1)|exact HB.out))):w.heap.size ≤ gb182));have n3_:=Aside0.mk ((by rw [hg];exact (below_size (by repeat (first|(with_reducible first|exact HB.out|apply below_alloc|apply pw_below_drewN|apply below_drew1)|exact HB.out))):w.heap.size ≤ gb182));clear HB;have HB:=n0_;have BK182:=n1_;have GW182:=n2_;have GE182:=n3_;clear n0_ n1_ n2_ n3_;clear hb hbox hg;have hcz19_0:w18.cell? ⟨gb182,0,none⟩ = some (.int .i64 0):=(blk_cell BK182.out 0).trans rfl;have hcz19_1:w18.cell? ⟨gb182,1,none⟩ = some (.int .i64 0):=(blk_cell BK182.out 1).trans rfl;have hcz19_2:w18.cell? ⟨gb182,2,none⟩ = some (.slice none 0 0):=(blk_cell BK182.out 2).trans rfl;have hfz19_0:=blk_frozen BK182.out 0;have hfz19_1:=blk_frozen BK182.out 1;have hfz19_2:=blk_frozen BK182.out 2)|((with_reducible refine gate_callee (f:=49) rfl ?_);refine goesL_ (some 16) rfl rfl Try.func49 (by kernel_rfl) rfl #[.agg #[.int .i64 ((rd_T39 l0 x3_1).f0),.int .i64 ((rd_T39 l0 x3_1).f1),.slice A181_2 ((rd_T39 l0 x3_1).f2).length c181_2]] rfl (by (try simp only [List.map_toArray,List.map_cons,List.map_nil]);first|done|rfl|(simp only [List.length_drop,List.length_take];rfl)) ?_;(with_reducible refine (ref26_Literal.calls ((rd_T39 l0 x3_1).f0) ((rd_T39 l0 x3_1).f1) _ _ ((rd_T39 l0 x3_1).f2) false _ ?side1 ?side2 A4.out).mono ?_);(case side1=>exact Kd.C_below HR181_2.out (by repeat (first|(with_reducible first|exact HB.out|apply below_alloc|apply pw_below_drewN|apply below_drew1|refine below_set ?_ GE182.out)|exact HB.out)));(case side2=>exact HC181_2.out);rintro e w20 ⟨rfl,hb⟩;refine ⟨_,rfl,?_⟩;have n0_:=Aside0.mk (blk_below (g:=gb182) (o:=.cells #[.int .i64 ((rd_T39 l0 x3_1).f0),.int .i64 ((rd_T39 l0 x3_1).f1),.slice A181_2 ((rd_T39 l0 x3_1).f2).length c181_2] 39 (0,0)) (by (with_reducible repeat (first|refine blk_drewN ?_ _|refine blk_drew ?_|refine blk_alloc ?_ _));refine blk_put (cs:=#[.int .i64 ((rd_T39 l0 x3_1).f0),.int .i64 ((rd_T39 l0 x3_1).f1),.slice none 0 0]) ?_ 2 _ rfl;(with_reducible repeat (first|refine blk_drewN ?_ _|refine blk_drew ?_|refine blk_alloc ?_ _));refine blk_put (cs:=#[.int .i64 ((rd_T39 l0 x3_1).f0),.int .i64 0,.slice none 0 0]) ?_ 1 _ rfl;(with_reducible repeat (first|refine blk_drewN ?_ _|refine blk_drew ?_|refine blk_alloc ?_ _));refine blk_put (cs:=#[.int .i64 0,.int .i64 0,.slice none 0 0]) ?_ 0 _ rfl;(with_reducible repeat (first|refine blk_drewN ?_ _|refine blk_drew ?_|refine blk_alloc ?_ _));exact BK182.out) hb);have n1_:=Aside0.mk (below_step (by repeat (first|(with_reducible first|exact HB.out|apply below_alloc|apply pw_below_drewN|apply below_drew1|refine below_set ?_ GE182.out)|exact HB.out)) hb);clear BK182;clear HB;have BK182:=n0_;have HB:=n1_;clear n0_ n1_;(try clear hb);(try clear hb2);(try clear hk);(try clear hi);have hcz21_0:w20.cell? ⟨gb182,0,none⟩ = some (.int .i64 ((rd_T39 l0 x3_1).f0)):=(blk_cell BK182.out 0).trans rfl;have hcz21_1:w20.cell? ⟨gb182,1,none⟩ = some (.int .i64 ((rd_T39 l0 x3_1).f1)):=(blk_cell BK182.out 1).trans rfl;have hcz21_2:w20.cell? ⟨gb182,2,none⟩ = some (.slice A181_2 ((rd_T39 l0 x3_1).f2).length c181_2):=(blk_cell BK182.out 2).trans rfl;have hfz21_0:=blk_frozen BK182.out 0;have hfz21_1:=blk_frozen BK182.out 1;have hfz21_2:=blk_frozen BK182.out 2)|(go_at_call 48;(with_reducible refine (ref26_Copies.calls ((rd_T39 l0 x3_1).f0) ((rd_T39 l0 x3_1).f1) _ _ ((rd_T39 l0 x3_1).f2) true _ ?side1 ?side2 A9.out).mono ?_);(case side1=>repeat (first|exact (Kd.C_below HR181_2.out HB.out)|(with_reducible refine Kd.C_alloc ?_ _)|(with_reducible refine Kd.C_drewN ?_ _)|(with_reducible refine Kd.C_drew ?_)));(case side2=>exact HC181_2.out);rintro e w22 ⟨rfl,hb⟩;have n0_:=Aside0.mk (blk_below (g:=gb182) (o:=.cells #[.int .i64 ((rd_T39 l0 x3_1).f0),.int .i64 ((rd_T39 l0 x3_1).f1),.slice A181_2 ((rd_T39 l0 x3_1).f2).length c181_2] 39 (0,0)) (by (with_reducible repeat (first|refine blk_drewN ?_ _|refine blk_drew ?_|refine blk_alloc ?_ _));exact BK182.out) hb);have n1_:=Aside0.mk (below_step (by repeat (first|(with_reducible first|exact HB.out|apply below_alloc|apply pw_below_drewN|apply below_drew1|refine below_set ?_ GE182.out)|exact HB.out)) hb);clear BK182;clear HB;have BK182:=n0_;have HB:=n1_;clear n0_ n1_;(try clear hb);(try clear hb2);(try clear hk);(try clear hi);have hcz23_0:w22.cell? ⟨gb182,0,none⟩ = some (.int .i64 ((rd_T39 l0 x3_1).f0)):=(blk_cell BK182.out 0).trans rfl;have hcz23_1:w22.cell? ⟨gb182,1,none⟩ = some (.int .i64 ((rd_T39 l0 x3_1).f1)):=(blk_cell BK182.out 1).trans rfl;have hcz23_2:w22.cell? ⟨gb182,2,none⟩ = some (.slice A181_2 ((rd_T39 l0 x3_1).f2).length c181_2):=(blk_cell BK182.out 2).trans rfl;have hfz23_0:=blk_frozen BK182.out 0;have hfz23_1:=blk_frozen BK182.out 1;have hfz23_2:=blk_frozen BK182.out 2))
        go_roundg k1
        case measure=>have:=HK1.out;omega
        case rel=>exact ⟨(wrap64 (x3_1 + 1)),(by first|rfl|(simp;done)|(simp [*];done)),H',⟨by have:=HK1.out;omega⟩,⟨by repeat (first|(with_reducible first|exact HB.out|apply below_alloc|apply pw_below_drewN|apply below_drew1|refine below_set ?_ GE182.out)|exact HB.out)⟩⟩
      ·replace c10:=Bool.eq_false_iff.mpr c10
       subst c10
       have H1:(some 0) = some r:=by rw [if_neg (show ¬ (false = true) by decide)] at H;exact H
       clear H
       have H:=H1
       clear H1
       obtain rfl:=Option.some.inj H
       have p181:0 ≤ (x3_1:Int):=of_decide_eq_true (by first|(with_reducible assumption)|assumption)
       have q181:x3_1 < (l0.length:Int):=of_decide_eq_true (by first|(with_reducible assumption)|assumption)
       obtain ⟨ad181,A181_2,c181_2,e181,hx181_0,hx181_1,hx181_2,hl181_2,hi181_2⟩:=at_T39 HR0.out x3_1 p181 q181
       cases e181
       have hu181_2:=Aside0.mk hx181_2
       replace hx181_0:=(HB.out.cell (World.block_lt_of_cell? w _ hx181_0)).trans hx181_0
       replace hx181_1:=(HB.out.cell (World.block_lt_of_cell? w _ hx181_1)).trans hx181_1
       replace hx181_2:=(HB.out.cell (World.block_lt_of_cell? w _ hx181_2)).trans hx181_2
       have HR181_2:=Aside0.mk hi181_2
       have HC181_2:=Aside0.mk hl181_2
       clear hi181_2 hl181_2
       replace p181:=eq_true p181
       replace q181:=eq_true q181
       go_wp2_with (first|((with_reducible refine gate_dst (N:=4) rfl ?_);refine box_event ?hg (N:=4) ?hd (cs:=#[.int .i64 0,.int .i64 0,.slice none 0 0]) (t:=39) ?hr ?_;(case hd=>rfl);(case hg=>rfl);(case hr=>first|(go_simp;done)|(go_simp;rfl));intro gb182 hg w24 hbox hb;have n0_:=Aside0.mk (below_step (by repeat (first|(with_reducible first|exact HB.out|apply below_alloc|apply pw_below_drewN|apply below_drew1)|exact HB.out)) hb);have n1_:=Aside0.mk (hbox);have n2_:=Aside0.mk ((by rw [hg];exact (below_size (by repeat (first|(with_reducible first|exact HB.out|apply below_alloc|apply pw_below_drewN|apply below_drew1)|exact HB.out))):w.heap.size ≤ gb182));have n3_:=Aside0.mk ((by rw [hg];exact (below_size (by repeat (first|(with_reducible first|exact HB.out|apply below_alloc|apply pw_below_drewN|apply below_drew1)|exact HB.out))):w.heap.size ≤ gb182));clear HB;have HB:=n0_;have BK182:=n1_;have GW182:=n2_;have GE182:=n3_;clear n0_ n1_ n2_ n3_;clear hb hbox hg;have hcz25_0:w24.cell? ⟨gb182,0,none⟩ = some (.int .i64 0):=(blk_cell BK182.out 0).trans rfl;have hcz25_1:w24.cell? ⟨gb182,1,none⟩ = some (.int .i64 0):=(blk_cell BK182.out 1).trans rfl;have hcz25_2:w24.cell? ⟨gb182,2,none⟩ = some (.slice none 0 0):=(blk_cell BK182.out 2).trans rfl;have hfz25_0:=blk_frozen BK182.out 0;have hfz25_1:=blk_frozen BK182.out 1;have hfz25_2:=blk_frozen BK182.out 2)|((with_reducible refine gate_callee (f:=49) rfl ?_);refine goesL_ (some 16) rfl rfl Try.func49 (by kernel_rfl) rfl #[.agg #[.int .i64 ((rd_T39 l0 x3_1).f0),.int .i64 ((rd_T39 l0 x3_1).f1),.slice A181_2 ((rd_T39 l0 x3_1).f2).length c181_2]] rfl (by (try simp only [List.map_toArray,List.map_cons,List.map_nil]);first|done|rfl|(simp only [List.length_drop,List.length_take];rfl)) ?_;(with_reducible refine (ref26_Literal.calls ((rd_T39 l0 x3_1).f0) ((rd_T39 l0 x3_1).f1) _ _ ((rd_T39 l0 x3_1).f2) false _ ?side1 ?side2 A4.out).mono ?_);(case side1=>exact Kd.C_below HR181_2.out (by repeat (first|(with_reducible first|exact HB.out|apply below_alloc|apply pw_below_drewN|apply below_drew1|refine below_set ?_ GE182.out)|exact HB.out)));(case side2=>exact HC181_2.out);rintro e w26 ⟨rfl,hb⟩;refine ⟨_,rfl,?_⟩;have n0_:=Aside0.mk (blk_below (g:=gb182) (o:=.cells #[.int .i64 ((rd_T39 l0 x3_1).f0),.int .i64 ((rd_T39 l0 x3_1).f1),.slice A181_2 ((rd_T39 l0 x3_1).f2).length c181_2] 39 (0,0)) (by (with_reducible repeat (first|refine blk_drewN ?_ _|refine blk_drew ?_|refine blk_alloc ?_ _));refine blk_put (cs:=#[.int .i64 ((rd_T39 l0 x3_1).f0),.int .i64 ((rd_T39 l0 x3_1).f1),.slice none 0 0]) ?_ 2 _ rfl;(with_reducible repeat (first|refine blk_drewN ?_ _|refine blk_drew ?_|refine blk_alloc ?_ _));refine blk_put (cs:=#[.int .i64 ((rd_T39 l0 x3_1).f0),.int .i64 0,.slice none 0 0]) ?_ 1 _ rfl;(with_reducible repeat (first|refine blk_drewN ?_ _|refine blk_drew ?_|refine blk_alloc ?_ _));refine blk_put (cs:=#[.int .i64 0,.int .i64 0,.slice none 0 0]) ?_ 0 _ rfl;(with_reducible repeat (first|refine blk_drewN ?_ _|refine blk_drew ?_|refine blk_alloc ?_ _));exact BK182.out) hb);have n1_:=Aside0.mk (below_step (by repeat (first|(with_reducible first|exact HB.out|apply below_alloc|apply pw_below_drewN|apply below_drew1|refine below_set ?_ GE182.out)|exact HB.out)) hb);clear BK182;clear HB;have BK182:=n0_;have HB:=n1_;clear n0_ n1_;(try clear hb);(try clear hb2);(try clear hk);(try clear hi);have hcz27_0:w26.cell? ⟨gb182,0,none⟩ = some (.int .i64 ((rd_T39 l0 x3_1).f0)):=(blk_cell BK182.out 0).trans rfl;have hcz27_1:w26.cell? ⟨gb182,1,none⟩ = some (.int .i64 ((rd_T39 l0 x3_1).f1)):=(blk_cell BK182.out 1).trans rfl;have hcz27_2:w26.cell? ⟨gb182,2,none⟩ = some (.slice A181_2 ((rd_T39 l0 x3_1).f2).length c181_2):=(blk_cell BK182.out 2).trans rfl;have hfz27_0:=blk_frozen BK182.out 0;have hfz27_1:=blk_frozen BK182.out 1;have hfz27_2:=blk_frozen BK182.out 2)|(go_at_call 48;(with_reducible refine (ref26_Copies.calls ((rd_T39 l0 x3_1).f0) ((rd_T39 l0 x3_1).f1) _ _ ((rd_T39 l0 x3_1).f2) false _ ?side1 ?side2 A9.out).mono ?_);(case side1=>repeat (first|exact (Kd.C_below HR181_2.out HB.out)|(with_reducible refine Kd.C_alloc ?_ _)|(with_reducible refine Kd.C_drewN ?_ _)|(with_reducible refine Kd.C_drew ?_)));(case side2=>exact HC181_2.out);rintro e w28 ⟨rfl,hb⟩;have n0_:=Aside0.mk (blk_below (g:=gb182) (o:=.cells #[.int .i64 ((rd_T39 l0 x3_1).f0),.int .i64 ((rd_T39 l0 x3_1).f1),.slice A181_2 ((rd_T39 l0 x3_1).f2).length c181_2] 39 (0,0)) (by (with_reducible repeat (first|refine blk_drewN ?_ _|refine blk_drew ?_|refine blk_alloc ?_ _));exact BK182.out) hb);have n1_:=Aside0.mk (below_step (by repeat (first|(with_reducible first|exact HB.out|apply below_alloc|apply pw_below_drewN|apply below_drew1|refine below_set ?_ GE182.out)|exact HB.out)) hb);clear BK182;clear HB;have BK182:=n0_;have HB:=n1_;clear n0_ n1_;(try clear hb);(try clear hb2);(try clear hk);(try clear hi)))
       go_ret
       exact ⟨by first|rfl|(simp [errW_none,errW_some] <;> rfl)|(simp [*,errW_none,errW_some] <;> rfl),by repeat (first|(with_reducible first|exact HB.out|apply below_alloc|apply pw_below_drewN|apply below_drew1|refine below_set ?_ GE182.out)|exact HB.out)⟩
    ·rw [if_neg c3] at H
     exact absurd H (by simp)
   ·rw [if_neg c2] at H
    have c2b0:decide (x3_1 < (l0.length:Int)) = false:=decide_eq_false c2
    clear c2
    replace H:=Option.bind_eq_some_iff.mp H
    obtain ⟨t178,A290,H⟩:=H
    replace H:(some (t178.length:Int)) = some r:=H
    have A29:=Aside0.mk A290
    clear A290
    obtain rfl:=Option.some.inj H
    go_wp2_with (first|((with_reducible refine gate_callee (f:=52) rfl ?_);refine goesL_ (some 29) rfl rfl Try.func52 (by kernel_rfl) rfl #[.slice A0 l0.length c0] rfl (by (try simp only [List.map_toArray,List.map_cons,List.map_nil]);first|done|rfl|(simp only [List.length_drop,List.length_take];rfl)) ?_;(with_reducible refine (ref26_bytes.calls k1 _ _ l0 t178 _ ?side1 ?side2 A29.out).mono ?_);(case side1=>repeat (first|exact (Kd.C_below HR0.out HB.out)|(with_reducible refine Kd.C_alloc ?_ _)|(with_reducible refine Kd.C_drewN ?_ _)|(with_reducible refine Kd.C_drew ?_)));(case side2=>exact HC0.out);rintro e w30 ⟨v179,rfl,ho0,hb⟩;refine ⟨_,rfl,?_⟩;have n0_:=Aside0.mk (Kd.R_lower ho0 (below_size (by repeat (first|(with_reducible first|exact HB.out|apply below_alloc|apply pw_below_drewN|apply below_drew1)|exact HB.out))));have n1_:=Aside0.mk (below_step (by repeat (first|(with_reducible first|exact HB.out|apply below_alloc|apply pw_below_drewN|apply below_drew1)|exact HB.out)) hb);clear HB;have HO180:=n0_;have HB:=n1_;clear n0_ n1_;(try clear hb);(try clear hb2);(try clear hk);(try clear hi);(try clear ho0);obtain ⟨Ao31,co31,eo31⟩:=Kd.R_slice HO180.out;subst eo31))
    go_ret
    exact ⟨by first|rfl|(simp [errW_none,errW_some] <;> rfl)|(simp [*,errW_none,errW_some] <;> rfl),by repeat (first|(with_reducible first|exact HB.out|apply below_alloc|apply pw_below_drewN|apply below_drew1)|exact HB.out)⟩

end Go.Proofs.Ytjckjcekapkkjaa.P
