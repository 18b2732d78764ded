-- WRITTEN BY myprint.py (wip/tools) for this seat
import Derived.Test.YtjckjcekapkkjaaPx0
import Derived.Test.YtjckjcekapkkjaaHCheck
import Derived.Test.YtjckjcekapkkjaaHPutUint
namespace Go.Proofs.Ytjckjcekapkkjaa.P
open Go.RowKit Go.Proofs.YtjckjcekapkkjaaW.PrintWords Go.Proofs.YtjckjcekapkkjaaW.PrintLast Go.Proofs.YtjckjcekapkkjaaW.PrintMore
attribute [local go_sem] max2_int min2_int max_two min_two max_three min_three max_four min_four   -- for this text's walks alone
set_option linter.unusedVariables false
set_option linter.unusedSimpArgs false

/-! ### delta_Encode: function 36 -/
def delta_Encode.l0:Nat → List Int → List (S39) → Int → Int → Option (List Int × Int)
 | 0,_,_,_,_=>none
 | k + 1,x8,x24,x25,x26=>if x26 < x25 then (if 0 ≤ x26 then (if x26 < (x24.length:Int) then (if (((rd_T39 x24 x26).f2).length:Int) > 0 then ((codec_PutUint.f ([]:List Int) (IntKind.u64.wrap (wrap64 (2 * (((rd_T39 x24 x26).f2).length:Int))))).bind fun t135=>(if x8.length + t135.length < 140737488355328 then ((some (x8 ++ t135:List Int)).bind fun y138=>(if y138.length + ((rd_T39 x24 x26).f2).length < 140737488355328 then (delta_Encode.l0 k (y138 ++ ((rd_T39 x24 x26).f2)) x24 x25 (wrap64 (x26 + 1))) else (none))) else (none))) else ((codec_PutUint.f ([]:List Int) (IntKind.u64.wrap (wrap64 ((wrap64 (2 * ((rd_T39 x24 x26).f1))) + 1)))).bind fun t144=>(if x8.length + t144.length < 140737488355328 then ((some (x8 ++ t144:List Int)).bind fun y147=>((codec_PutUint.f ([]:List Int) (IntKind.u64.wrap ((rd_T39 x24 x26).f0))).bind fun t150=>(if y147.length + t150.length < 140737488355328 then (delta_Encode.l0 k (y147 ++ t150) x24 x25 (wrap64 (x26 + 1))) else (none)))) else (none)))) else (none)) else (none)) else (some (x8,0))
def delta_Encode.f (k:Nat) (a0:Int) (l1:List (S39)):Option (List Int × Int):=(delta_Check.f a0 l1).bind fun bt128=>(if bt128.2 = 0 then ((codec_PutUint.f ([]:List Int) (IntKind.u64.wrap ((l1.length:Int)))).bind fun t130=>(delta_Encode.l0 k t130 l1 (l1.length:Int) 0)) else (some (([]:List Int),bt128.2)))
set_option maxHeartbeats 8000000 in
set_option maxRecDepth 100000 in
theorem delta_Encode.calls (k:Nat) (a0:Int) (A1:Option Addr) (c1:Nat) (l1:List (S39)) (r1:List Int) (r2:Int) (w:World) (hr1:Kd.C k39 w A1 l1.length l1) (hc1:l1.length ≤ c1) (h:delta_Encode.f k a0 l1 = some (r1,r2)) :
  Calls Try.prog 36 #[.int .i64 a0,.slice A1 l1.length c1] w fun e w'=>∃ v0_:Value,e = .returned (.tuple #[v0_,.int .i64 r2]) ∧ Kd.R (Kd.int .u8) 5 w' w.heap.size (fun _=>True) v0_ r1 ∧ Below w.heap.size w w':=by
 have hu39:=Try.underlying39
 have HR1:=Aside0.mk hr1
 have HC1:=Aside0.mk hc1
 clear hr1 hc1
 have HB:=Aside0.mk (Below.refl w.heap.size w)
 have H:((delta_Check.f a0 l1).bind fun bt128=>(if bt128.2 = 0 then ((codec_PutUint.f ([]:List Int) (IntKind.u64.wrap ((l1.length:Int)))).bind fun t130=>(delta_Encode.l0 k t130 l1 (l1.length:Int) 0)) else (some (([]:List Int),bt128.2)))) = some (r1,r2):=h
 clear h
 replace H:=Option.bind_eq_some_iff.mp H
 obtain ⟨⟨t128,t129⟩,A30,H⟩:=H
 replace H:(if t129 = 0 then ((codec_PutUint.f ([]:List Int) (IntKind.u64.wrap ((l1.length:Int)))).bind fun t130=>(delta_Encode.l0 k t130 l1 (l1.length:Int) 0)) else (some (([]:List Int),t129))) = some (r1,r2):=H
 have A3:=Aside0.mk A30
 clear A30
 by_cases c4:t129 = 0
 ·rw [if_pos c4] at H
  have c4b0:(t129 == 0) = true:=beq_iff_eq.mpr c4
  have c4b1:(t129 != 0) = false:=bne_eq_false_iff_eq.mpr c4
  clear c4
  replace H:=Option.bind_eq_some_iff.mp H
  obtain ⟨t130,A50,H⟩:=H
  replace H:(delta_Encode.l0 k t130 l1 (l1.length:Int) 0) = some (r1,r2):=H
  have A5:=Aside0.mk A50
  clear A50
  have H':=Aside0.mk H
  clear H
  go_enter Try.func36,Try.ntmps36
  go_wp2_with (first|((with_reducible refine gate_callee (f:=23) rfl ?_);refine goesL_ (some 14) rfl rfl Try.func23 (by kernel_rfl) rfl #[.int .i64 a0,.slice A1 l1.length c1] rfl (by (try simp only [List.map_toArray,List.map_cons,List.map_nil]);first|done|rfl|(simp only [List.length_drop,List.length_take];rfl)) ?_;(with_reducible refine (delta_Check.calls a0 _ _ l1 t128 t129 _ ?side1 ?side2 A3.out).mono ?_);(case side1=>repeat (first|exact HR1.out|(with_reducible refine Kd.C_alloc ?_ _)|(with_reducible refine Kd.C_drewN ?_ _)|(with_reducible refine Kd.C_drew ?_)));(case side2=>exact HC1.out);rintro e w6 ⟨rfl,hb⟩;refine ⟨_,rfl,?_⟩;have n0_:=Aside0.mk (below_step (by repeat (first|(with_reducible first|exact HB.out|apply below_alloc|apply pw_below_drewN|apply below_drew1)|exact HB.out)) hb);clear HB;have HB:=n0_;clear n0_;(try clear hb);(try clear hb2);(try clear hk);(try clear hi))|((with_reducible refine gate_callee (f:=51) rfl ?_);refine goesL_ (some 23) rfl rfl Try.func51 (by kernel_rfl) rfl #[.slice none 0 0,.int .u64 (IntKind.u64.wrap ((l1.length:Int)))] rfl (by (try simp only [List.map_toArray,List.map_cons,List.map_nil]);first|done|rfl|(simp only [List.length_drop,List.length_take];rfl)) ?_;(refine (codec_PutUint.calls _ _ ([]:List Int) (IntKind.u64.wrap ((l1.length:Int))) t130 _ ?side1 ?side2 A5.out).mono ?_);(case side1=>exact Kd.C_nil _ _);(case side2=>exact Nat.le_refl _);rintro e w7 ⟨v131,rfl,ho0,hb⟩;refine ⟨_,rfl,?_⟩;have n0_:=Aside0.mk (Kd.R_lower ho0 (below_size (by repeat (first|(with_reducible first|exact HB.out|apply below_alloc|apply pw_below_drewN|apply below_drew1)|exact HB.out))));have n1_:=Aside0.mk (below_step (by repeat (first|(with_reducible first|exact HB.out|apply below_alloc|apply pw_below_drewN|apply below_drew1)|exact HB.out)) hb);clear HB;have HO132:=n0_;have HB:=n1_;clear n0_ n1_;(try clear hb);(try clear hb2);(try clear hk);(try clear hi);(try clear ho0)))
  go_loopg [8,26] k (fun kq v8 v26 w'=>∃ (x8_1:List Int) (x26_1:Int),v26 = .int .i64 x26_1 ∧ Aside0 (delta_Encode.l0 kq x8_1 l1 (l1.length:Int) x26_1 = some (r1,r2)) ∧ Aside0 (kq ≤ k) ∧ Aside0 (Kd.R (Kd.int .u8) 5 w' w.heap.size (fun _=>True) v8 x8_1) ∧ Aside0 (Below w.heap.size w w'))
  case atStart=>exact ⟨(t130),(0),(by first|rfl|(simp;done)|(simp [*];done)),H',⟨Nat.le_refl _⟩,⟨by (with_reducible repeat (first|apply Kd.R_alloc|apply Kd.R_drewN|apply Kd.R_drew));exact HO132.out⟩,⟨by repeat (first|(with_reducible first|exact HB.out|apply below_alloc|apply pw_below_drewN|apply below_drew1)|exact HB.out)⟩⟩
  case round =>
   clear H'
   try clear c1
   try clear c2
   try clear p2
   try clear c3
   try clear c4
   try clear c4b0
   try clear c4b1
   try clear c5
   obtain ⟨x8_1,x26_1,rfl,HA,HK1,HO_8,HB⟩:=hrel
   cases gk with
   | zero=>exact absurd HA.out (by simp [delta_Encode.l0])
   | succ k1 =>
    have H:=HA.out
    clear HA
    simp only [delta_Encode.l0] at H
    by_cases c8:x26_1 < (l1.length:Int)
    ·rw [if_pos c8] at H
     have c8b0:decide (x26_1 < (l1.length:Int)) = true:=decide_eq_true c8
     clear c8
     by_cases c9:0 ≤ x26_1
     ·rw [if_pos c9] at H
      have c9b0:decide (0 ≤ x26_1) = true:=decide_eq_true c9
      clear c9
      by_cases c10:x26_1 < (l1.length:Int)
      ·rw [if_pos c10] at H
       have c10b0:decide (x26_1 < (l1.length:Int)) = true:=decide_eq_true c10
       clear c10
       by_cases c11:(((rd_T39 l1 x26_1).f2).length:Int) > 0
       ·rw [if_pos c11] at H
        have c11b0:decide (0 < (((rd_T39 l1 x26_1).f2).length:Int)) = true:=decide_eq_true c11
        have c11b1:decide (0 < ((rd_T39 l1 x26_1).f2).length) = true:=decide_eq_true (by omega)
        clear c11
        replace H:=Option.bind_eq_some_iff.mp H
        obtain ⟨t135,A120,H⟩:=H
        replace H:(if x8_1.length + t135.length < 140737488355328 then ((some (x8_1 ++ t135:List Int)).bind fun y138=>(if y138.length + ((rd_T39 l1 x26_1).f2).length < 140737488355328 then (delta_Encode.l0 k1 (y138 ++ ((rd_T39 l1 x26_1).f2)) l1 (l1.length:Int) (wrap64 (x26_1 + 1))) else (none))) else (none)) = some (r1,r2):=H
        have A12:=Aside0.mk A120
        clear A120
        by_cases c13:x8_1.length + t135.length < 140737488355328
        ·rw [if_pos c13] at H
         have LMc13:=Aside0.mk c13
         clear c13
         obtain ⟨y138,hy138⟩:∃ y_:List Int,y_ = (x8_1 ++ t135):=⟨_,rfl⟩
         replace H:(if y138.length + ((rd_T39 l1 x26_1).f2).length < 140737488355328 then (delta_Encode.l0 k1 (y138 ++ ((rd_T39 l1 x26_1).f2)) l1 (l1.length:Int) (wrap64 (x26_1 + 1))) else (none)) = some (r1,r2):=by first|(rw [hy138];with_reducible exact H)|(have H2_:=(Option.bind_some _ _).symm.trans H;rw [hy138];with_reducible exact H2_)|(have H2_:=(Option.bind_some _ _).symm.trans H;with_reducible exact H2_)|with_reducible exact H|(rw [hy138];exact H)|exact H
         have Ny138:=Aside0.mk hy138
         clear hy138
         by_cases c14:y138.length + ((rd_T39 l1 x26_1).f2).length < 140737488355328
         ·rw [if_pos c14] at H
          have LMc14:=Aside0.mk c14
          clear c14
          obtain ⟨y141,hy141⟩:∃ y_:List Int,y_ = (y138 ++ ((rd_T39 l1 x26_1).f2)):=⟨_,rfl⟩
          replace H:(delta_Encode.l0 k1 y141 l1 (l1.length:Int) (wrap64 (x26_1 + 1))) = some (r1,r2):=by first|(rw [hy141];with_reducible exact H)|(have H2_:=(Option.bind_some _ _).symm.trans H;rw [hy141];with_reducible exact H2_)|(have H2_:=(Option.bind_some _ _).symm.trans H;with_reducible exact H2_)|with_reducible exact H|(rw [hy141];exact H)|exact H
          have Ny141:=Aside0.mk hy141
          clear hy141
          have H':=Aside0.mk H
          clear H
          have p133:0 ≤ (x26_1:Int):=of_decide_eq_true (by first|(with_reducible assumption)|assumption)
          have q133:x26_1 < (l1.length:Int):=of_decide_eq_true (by first|(with_reducible assumption)|assumption)
          obtain ⟨ad133,A133_2,c133_2,e133,hx133_0,hx133_1,hx133_2,hl133_2,hi133_2⟩:=at_T39 HR1.out x26_1 p133 q133
          cases e133
          have hu133_2:=Aside0.mk hx133_2
          replace hx133_0:=(HB.out.cell (World.block_lt_of_cell? w _ hx133_0)).trans hx133_0
          replace hx133_1:=(HB.out.cell (World.block_lt_of_cell? w _ hx133_1)).trans hx133_1
          replace hx133_2:=(HB.out.cell (World.block_lt_of_cell? w _ hx133_2)).trans hx133_2
          have HR133_2:=Aside0.mk hi133_2
          have HC133_2:=Aside0.mk hl133_2
          clear hi133_2 hl133_2
          replace p133:=eq_true p133
          replace q133:=eq_true q133
          go_wp2_with (first|((with_reducible refine gate_dst (N:=10) rfl ?_);refine box_event ?hg (N:=10) ?hd (cs:=#[.int .i64 0,.int .i64 0,.slice none 0 0]) (t:=39) ?hr ?_;(case hd=>rfl);(case hg=>rfl);(case hr=>first|(go_simp;done)|(go_simp;rfl));intro gb134 hg w15 hbox hb;have n0_:=Aside0.mk (Kd.R_below (by (with_reducible repeat (first|apply Kd.R_alloc|apply Kd.R_drewN|apply Kd.R_drew));exact HO_8.out) hb);have n1_:=Aside0.mk (below_step (by repeat (first|(with_reducible first|exact HB.out|apply below_alloc|apply pw_below_drewN|apply below_drew1)|exact HB.out)) hb);have n2_:=Aside0.mk (hbox);have n3_:=Aside0.mk ((by rw [hg];exact (below_size (by repeat (first|(with_reducible first|exact HB.out|apply below_alloc|apply pw_below_drewN|apply below_drew1)|exact HB.out))):w.heap.size ≤ gb134));have n4_:=Aside0.mk ((by rw [hg];exact (below_size (by repeat (first|(with_reducible first|exact HB.out|apply below_alloc|apply pw_below_drewN|apply below_drew1)|exact HB.out))):w.heap.size ≤ gb134));clear HO_8;clear HB;have HO_8:=n0_;have HB:=n1_;have BK134:=n2_;have GW134:=n3_;have GE134:=n4_;clear n0_ n1_ n2_ n3_ n4_;clear hb hbox hg;have hcz16_0:w15.cell? ⟨gb134,0,none⟩ = some (.int .i64 0):=(blk_cell BK134.out 0).trans rfl;have hcz16_1:w15.cell? ⟨gb134,1,none⟩ = some (.int .i64 0):=(blk_cell BK134.out 1).trans rfl;have hcz16_2:w15.cell? ⟨gb134,2,none⟩ = some (.slice none 0 0):=(blk_cell BK134.out 2).trans rfl;have hfz16_0:=blk_frozen BK134.out 0;have hfz16_1:=blk_frozen BK134.out 1;have hfz16_2:=blk_frozen BK134.out 2)|((with_reducible refine gate_callee (f:=51) rfl ?_);refine goesL_ (some 40) rfl rfl Try.func51 (by kernel_rfl) rfl #[.slice none 0 0,.int .u64 (IntKind.u64.wrap (wrap64 (2 * (((rd_T39 l1 x26_1).f2).length:Int))))] rfl (by (try simp only [List.map_toArray,List.map_cons,List.map_nil]);first|done|rfl|(simp only [List.length_drop,List.length_take];rfl)) ?_;(refine (codec_PutUint.calls _ _ ([]:List Int) (IntKind.u64.wrap (wrap64 (2 * (((rd_T39 l1 x26_1).f2).length:Int)))) t135 _ ?side1 ?side2 A12.out).mono ?_);(case side1=>exact Kd.C_nil _ _);(case side2=>exact Nat.le_refl _);rintro e w17 ⟨v136,rfl,ho0,hb⟩;refine ⟨_,rfl,?_⟩;have n0_:=Aside0.mk (Kd.R_elder' (by (with_reducible repeat (first|apply Kd.R_alloc|apply Kd.R_drewN|apply Kd.R_drew));exact (Kd.R_mono (Kd.R_far (p:=⟨gb134,2,none⟩) (Kd.R_far (p:=⟨gb134,1,none⟩) (Kd.R_far (p:=⟨gb134,0,none⟩) (Kd.R_types HO_8.out BK134.out (by decide)) (fun _ hk=>hk.2) (.int .i64 ((rd_T39 l1 x26_1).f0))) (fun _ hk=>hk.2) (.int .i64 ((rd_T39 l1 x26_1).f1))) (fun _ hk=>hk.2) (.slice A133_2 ((rd_T39 l1 x26_1).f2).length c133_2)) (fun _ h_=>h_.1))) (Kd.R_base ho0) hb);have n1_:=Aside0.mk (Kd.R_lower (Kd.R_new' ho0 (Kd.R_lt (by (with_reducible repeat (first|apply Kd.R_alloc|apply Kd.R_drewN|apply Kd.R_drew));exact (Kd.R_mono (Kd.R_far (p:=⟨gb134,2,none⟩) (Kd.R_far (p:=⟨gb134,1,none⟩) (Kd.R_far (p:=⟨gb134,0,none⟩) (Kd.R_types HO_8.out BK134.out (by decide)) (fun _ hk=>hk.2) (.int .i64 ((rd_T39 l1 x26_1).f0))) (fun _ hk=>hk.2) (.int .i64 ((rd_T39 l1 x26_1).f1))) (fun _ hk=>hk.2) (.slice A133_2 ((rd_T39 l1 x26_1).f2).length c133_2)) (fun _ h_=>h_.1))))) (below_size (by repeat (first|(with_reducible first|exact HB.out|apply below_alloc|apply pw_below_drewN|apply below_drew1|refine below_set ?_ GE134.out)|exact HB.out))));have n2_:=Aside0.mk (blk_below (g:=gb134) (o:=.cells #[.int .i64 ((rd_T39 l1 x26_1).f0),.int .i64 ((rd_T39 l1 x26_1).f1),.slice A133_2 ((rd_T39 l1 x26_1).f2).length c133_2] 39 (0,0)) (by (with_reducible repeat (first|refine blk_drewN ?_ _|refine blk_drew ?_|refine blk_alloc ?_ _));refine blk_put (cs:=#[.int .i64 ((rd_T39 l1 x26_1).f0),.int .i64 ((rd_T39 l1 x26_1).f1),.slice none 0 0]) ?_ 2 _ rfl;(with_reducible repeat (first|refine blk_drewN ?_ _|refine blk_drew ?_|refine blk_alloc ?_ _));refine blk_put (cs:=#[.int .i64 ((rd_T39 l1 x26_1).f0),.int .i64 0,.slice none 0 0]) ?_ 1 _ rfl;(with_reducible repeat (first|refine blk_drewN ?_ _|refine blk_drew ?_|refine blk_alloc ?_ _));refine blk_put (cs:=#[.int .i64 0,.int .i64 0,.slice none 0 0]) ?_ 0 _ rfl;(with_reducible repeat (first|refine blk_drewN ?_ _|refine blk_drew ?_|refine blk_alloc ?_ _));exact BK134.out) hb);have n3_:=Aside0.mk (below_step (by repeat (first|(with_reducible first|exact HB.out|apply below_alloc|apply pw_below_drewN|apply below_drew1|refine below_set ?_ GE134.out)|exact HB.out)) hb);clear HO_8;clear BK134;clear HB;have HO_8:=n0_;have HO137:=n1_;have BK134:=n2_;have HB:=n3_;clear n0_ n1_ n2_ n3_;(try clear hb);(try clear hb2);(try clear hk);(try clear hi);(try clear ho0);obtain ⟨Ao19,co19,eo19⟩:=Kd.R_slice HO137.out;subst eo19)|((with_reducible refine gate_builtin (b:=.append) (xs:=#[.tmp 34,.tmp 40]) rfl ?_);at_builtin;refine Kd.R_append_rows (Kd.int .u8) (w0:=w) w.heap.size rfl (.tmp 34) (.tmp 40) 26 5 (.int .u8 0) 1 rfl Try.underlying26 info5 rfl (by decide) (by omega) u8 x8_1 t135 _ _ _ (fun k_=>some k_ ≠ (.slice Ao19 t135.length co19:Value).ownBlock) (fun _=>False) rfl rfl ?aO ?aR (fun _ _ h=>h) (fun _ h=>h.elim) ?aF ?aB ?aS ?aL ?_;(case aR=>repeat (first|exact (Kd.R_reads' HO137.out).2.2|(with_reducible refine Kd.C_alloc ?_ _)|(with_reducible refine Kd.C_drewN ?_ _)|(with_reducible refine Kd.C_drew ?_)));(case aB=>exact (by repeat (first|(with_reducible first|exact HB.out|apply below_alloc|apply pw_below_drewN|apply below_drew1|refine below_set ?_ GE134.out)|exact HB.out)));(case aF=>exact (fun k_ hk=>Kd.fresh' (Kd.R_lt (by (with_reducible repeat (first|apply Kd.R_alloc|apply Kd.R_drewN|apply Kd.R_drew));exact HO137.out)) k_ hk));(case aO=>exact (by (with_reducible repeat (first|apply Kd.R_alloc|apply Kd.R_drewN|apply Kd.R_drew));exact Kd.R_mono HO_8.out (fun _ hk=>hk.2)));(case aS=>exact (below_size (by repeat (first|(with_reducible first|exact HB.out|apply below_alloc|apply pw_below_drewN|apply below_drew1|refine below_set ?_ GE134.out)|exact HB.out))));(case aL=>have:=LMc13.out;omega);intro v139 w18 ho hb hg hat;rw [← Ny138.out] at ho;have n0_:=Aside0.mk (blk_grown (g:=gb134) (o:=.cells #[.int .i64 ((rd_T39 l1 x26_1).f0),.int .i64 ((rd_T39 l1 x26_1).f1),.slice A133_2 ((rd_T39 l1 x26_1).f2).length c133_2] 39 (0,0)) (by (with_reducible repeat (first|refine blk_drewN ?_ _|refine blk_drew ?_|refine blk_alloc ?_ _));exact BK134.out) hg (Kd.R_ne HO_8.out BK134.out (by decide)));have n1_:=Aside0.mk (Kd.R_after (ok:=(fun _=>True)) (by (with_reducible repeat (first|apply Kd.R_alloc|apply Kd.R_drewN|apply Kd.R_drew));exact HO137.out) hg hat);have n2_:=Aside0.mk (hb);have n3_:=Aside0.mk (ho);clear BK134;clear HO137;clear HB;clear HO_8;have BK134:=n0_;have HO137:=n1_;have HB:=n2_;have HO140:=n3_;clear n0_ n1_ n2_ n3_;clear ho hb hg hat;have hcz20_0:w18.cell? ⟨gb134,0,none⟩ = some (.int .i64 ((rd_T39 l1 x26_1).f0)):=(blk_cell BK134.out 0).trans rfl;have hcz20_1:w18.cell? ⟨gb134,1,none⟩ = some (.int .i64 ((rd_T39 l1 x26_1).f1)):=(blk_cell BK134.out 1).trans rfl;have hcz20_2:w18.cell? ⟨gb134,2,none⟩ = some (.slice A133_2 ((rd_T39 l1 x26_1).f2).length c133_2):=(blk_cell BK134.out 2).trans rfl;have hfz20_0:=blk_frozen BK134.out 0;have hfz20_1:=blk_frozen BK134.out 1;have hfz20_2:=blk_frozen BK134.out 2)|((with_reducible refine gate_builtin (b:=.append) (xs:=#[.tmp 42,.tmp 44]) rfl ?_);at_builtin;refine Kd.R_append_rows (Kd.int .u8) (w0:=w) w.heap.size rfl (.tmp 42) (.tmp 44) 26 5 (.int .u8 0) 1 rfl Try.underlying26 info5 rfl (by decide) (by omega) v139 y138 ((rd_T39 l1 x26_1).f2) _ _ _ (fun k_=>some k_ ≠ (.slice Ao19 t135.length co19:Value).ownBlock) (fun _=>False) rfl rfl ?aO ?aR (fun _ _ h=>h) (fun _ h=>h.elim) ?aF ?aB ?aS ?aL ?_;(case aR=>repeat (first|exact (Kd.C_below HR133_2.out HB.out)|(with_reducible refine Kd.C_alloc ?_ _)|(with_reducible refine Kd.C_drewN ?_ _)|(with_reducible refine Kd.C_drew ?_)));(case aB=>exact (by repeat (first|(with_reducible first|exact HB.out|apply below_alloc|apply pw_below_drewN|apply below_drew1|refine below_set ?_ GE134.out)|exact HB.out)));(case aF=>exact (fun k_ hk=>Kd.fresh' (Kd.R_lt (by (with_reducible repeat (first|apply Kd.R_alloc|apply Kd.R_drewN|apply Kd.R_drew));exact HO137.out)) k_ hk));(case aO=>exact (by (with_reducible repeat (first|apply Kd.R_alloc|apply Kd.R_drewN|apply Kd.R_drew));exact HO140.out));(case aS=>exact (below_size (by repeat (first|(with_reducible first|exact HB.out|apply below_alloc|apply pw_below_drewN|apply below_drew1|refine below_set ?_ GE134.out)|exact HB.out))));(case aL=>have:=LMc14.out;omega);intro v142 w21 ho hb hg hat;rw [← Ny141.out] at ho;have n0_:=Aside0.mk (blk_grown (g:=gb134) (o:=.cells #[.int .i64 ((rd_T39 l1 x26_1).f0),.int .i64 ((rd_T39 l1 x26_1).f1),.slice A133_2 ((rd_T39 l1 x26_1).f2).length c133_2] 39 (0,0)) (by (with_reducible repeat (first|refine blk_drewN ?_ _|refine blk_drew ?_|refine blk_alloc ?_ _));exact BK134.out) hg (Kd.R_ne HO140.out BK134.out (by decide)));have n1_:=Aside0.mk (Kd.R_after (ok:=(fun _=>True)) (by (with_reducible repeat (first|apply Kd.R_alloc|apply Kd.R_drewN|apply Kd.R_drew));exact HO137.out) hg hat);have n2_:=Aside0.mk (hb);have n3_:=Aside0.mk (ho);clear BK134;clear HO137;clear HB;clear HO140;have BK134:=n0_;have HO137:=n1_;have HB:=n2_;have HO143:=n3_;clear n0_ n1_ n2_ n3_;clear ho hb hg hat))
          go_roundg k1
          case measure=>have:=HK1.out;omega
          case rel=>exact ⟨(y141),(wrap64 (x26_1 + 1)),(by first|rfl|(simp;done)|(simp [*];done)),H',⟨by have:=HK1.out;omega⟩,⟨by (with_reducible repeat (first|apply Kd.R_alloc|apply Kd.R_drewN|apply Kd.R_drew));exact Kd.R_mono HO143.out (fun _ hk=>trivial)⟩,⟨by repeat (first|(with_reducible first|exact HB.out|apply below_alloc|apply pw_below_drewN|apply below_drew1|refine below_set ?_ GE134.out)|exact HB.out)⟩⟩
         ·rw [if_neg c14] at H
          exact absurd H (by simp)
        ·rw [if_neg c13] at H
         exact absurd H (by simp)
       ·rw [if_neg c11] at H
        have c11b0:decide (0 < (((rd_T39 l1 x26_1).f2).length:Int)) = false:=decide_eq_false c11
        have c11b1:decide (0 < ((rd_T39 l1 x26_1).f2).length) = false:=decide_eq_false (by omega)
        clear c11
        replace H:=Option.bind_eq_some_iff.mp H
        obtain ⟨t144,A220,H⟩:=H
        replace H:(if x8_1.length + t144.length < 140737488355328 then ((some (x8_1 ++ t144:List Int)).bind fun y147=>((codec_PutUint.f ([]:List Int) (IntKind.u64.wrap ((rd_T39 l1 x26_1).f0))).bind fun t150=>(if y147.length + t150.length < 140737488355328 then (delta_Encode.l0 k1 (y147 ++ t150) l1 (l1.length:Int) (wrap64 (x26_1 + 1))) else (none)))) else (none)) = some (r1,r2):=H
        have A22:=Aside0.mk A220
        clear A220
        by_cases c23:x8_1.length + t144.length < 140737488355328
        ·rw [if_pos c23] at H
         have LMc23:=Aside0.mk c23
         clear c23
         obtain ⟨y147,hy147⟩:∃ y_:List Int,y_ = (x8_1 ++ t144):=⟨_,rfl⟩
         replace H:((codec_PutUint.f ([]:List Int) (IntKind.u64.wrap ((rd_T39 l1 x26_1).f0))).bind fun t150=>(if y147.length + t150.length < 140737488355328 then (delta_Encode.l0 k1 (y147 ++ t150) l1 (l1.length:Int) (wrap64 (x26_1 + 1))) else (none))) = some (r1,r2):=by first|(rw [hy147];with_reducible exact H)|(have H2_:=(Option.bind_some _ _).symm.trans H;rw [hy147];with_reducible exact H2_)|(have H2_:=(Option.bind_some _ _).symm.trans H;with_reducible exact H2_)|with_reducible exact H|(rw [hy147];exact H)|exact H
         have Ny147:=Aside0.mk hy147
         clear hy147
         replace H:=Option.bind_eq_some_iff.mp H
         obtain ⟨t150,A240,H⟩:=H
         replace H:(if y147.length + t150.length < 140737488355328 then (delta_Encode.l0 k1 (y147 ++ t150) l1 (l1.length:Int) (wrap64 (x26_1 + 1))) else (none)) = some (r1,r2):=H
         have A24:=Aside0.mk A240
         clear A240
         by_cases c25:y147.length + t150.length < 140737488355328
         ·rw [if_pos c25] at H
          have LMc25:=Aside0.mk c25
          clear c25
          obtain ⟨y153,hy153⟩:∃ y_:List Int,y_ = (y147 ++ t150):=⟨_,rfl⟩
          replace H:(delta_Encode.l0 k1 y153 l1 (l1.length:Int) (wrap64 (x26_1 + 1))) = some (r1,r2):=by first|(rw [hy153];with_reducible exact H)|(have H2_:=(Option.bind_some _ _).symm.trans H;rw [hy153];with_reducible exact H2_)|(have H2_:=(Option.bind_some _ _).symm.trans H;with_reducible exact H2_)|with_reducible exact H|(rw [hy153];exact H)|exact H
          have Ny153:=Aside0.mk hy153
          clear hy153
          have H':=Aside0.mk H
          clear H
          have p133:0 ≤ (x26_1:Int):=of_decide_eq_true (by first|(with_reducible assumption)|assumption)
          have q133:x26_1 < (l1.length:Int):=of_decide_eq_true (by first|(with_reducible assumption)|assumption)
          obtain ⟨ad133,A133_2,c133_2,e133,hx133_0,hx133_1,hx133_2,hl133_2,hi133_2⟩:=at_T39 HR1.out x26_1 p133 q133
          cases e133
          have hu133_2:=Aside0.mk hx133_2
          replace hx133_0:=(HB.out.cell (World.block_lt_of_cell? w _ hx133_0)).trans hx133_0
          replace hx133_1:=(HB.out.cell (World.block_lt_of_cell? w _ hx133_1)).trans hx133_1
          replace hx133_2:=(HB.out.cell (World.block_lt_of_cell? w _ hx133_2)).trans hx133_2
          have HR133_2:=Aside0.mk hi133_2
          have HC133_2:=Aside0.mk hl133_2
          clear hi133_2 hl133_2
          replace p133:=eq_true p133
          replace q133:=eq_true q133
          go_wp2_with (first|((with_reducible refine gate_dst (N:=10) rfl ?_);refine box_event ?hg (N:=10) ?hd (cs:=#[.int .i64 0,.int .i64 0,.slice none 0 0]) (t:=39) ?hr ?_;(case hd=>rfl);(case hg=>rfl);(case hr=>first|(go_simp;done)|(go_simp;rfl));intro gb134 hg w26 hbox hb;have n0_:=Aside0.mk (Kd.R_below (by (with_reducible repeat (first|apply Kd.R_alloc|apply Kd.R_drewN|apply Kd.R_drew));exact HO_8.out) hb);have n1_:=Aside0.mk (below_step (by repeat (first|(with_reducible first|exact HB.out|apply below_alloc|apply pw_below_drewN|apply below_drew1)|exact HB.out)) hb);have n2_:=Aside0.mk (hbox);have n3_:=Aside0.mk ((by rw [hg];exact (below_size (by repeat (first|(with_reducible first|exact HB.out|apply below_alloc|apply pw_below_drewN|apply below_drew1)|exact HB.out))):w.heap.size ≤ gb134));have n4_:=Aside0.mk ((by rw [hg];exact (below_size (by repeat (first|(with_reducible first|exact HB.out|apply below_alloc|apply pw_below_drewN|apply below_drew1)|exact HB.out))):w.heap.size ≤ gb134));clear HO_8;clear HB;have HO_8:=n0_;have HB:=n1_;have BK134:=n2_;have GW134:=n3_;have GE134:=n4_;clear n0_ n1_ n2_ n3_ n4_;clear hb hbox hg;have hcz27_0:w26.cell? ⟨gb134,0,none⟩ = some (.int .i64 0):=(blk_cell BK134.out 0).trans rfl;have hcz27_1:w26.cell? ⟨gb134,1,none⟩ = some (.int .i64 0):=(blk_cell BK134.out 1).trans rfl;have hcz27_2:w26.cell? ⟨gb134,2,none⟩ = some (.slice none 0 0):=(blk_cell BK134.out 2).trans rfl;have hfz27_0:=blk_frozen BK134.out 0;have hfz27_1:=blk_frozen BK134.out 1;have hfz27_2:=blk_frozen BK134.out 2)|((with_reducible refine gate_callee (f:=51) rfl ?_);refine goesL_ (some 52) rfl rfl Try.func51 (by kernel_rfl) rfl #[.slice none 0 0,.int .u64 (IntKind.u64.wrap (wrap64 ((wrap64 (2 * ((rd_T39 l1 x26_1).f1))) + 1)))] rfl (by (try simp only [List.map_toArray,List.map_cons,List.map_nil]);first|done|rfl|(simp only [List.length_drop,List.length_take];rfl)) ?_;(refine (codec_PutUint.calls _ _ ([]:List Int) (IntKind.u64.wrap (wrap64 ((wrap64 (2 * ((rd_T39 l1 x26_1).f1))) + 1))) t144 _ ?side1 ?side2 A22.out).mono ?_);(case side1=>exact Kd.C_nil _ _);(case side2=>exact Nat.le_refl _);rintro e w28 ⟨v145,rfl,ho0,hb⟩;refine ⟨_,rfl,?_⟩;have n0_:=Aside0.mk (Kd.R_elder' (by (with_reducible repeat (first|apply Kd.R_alloc|apply Kd.R_drewN|apply Kd.R_drew));exact (Kd.R_mono (Kd.R_far (p:=⟨gb134,2,none⟩) (Kd.R_far (p:=⟨gb134,1,none⟩) (Kd.R_far (p:=⟨gb134,0,none⟩) (Kd.R_types HO_8.out BK134.out (by decide)) (fun _ hk=>hk.2) (.int .i64 ((rd_T39 l1 x26_1).f0))) (fun _ hk=>hk.2) (.int .i64 ((rd_T39 l1 x26_1).f1))) (fun _ hk=>hk.2) (.slice A133_2 ((rd_T39 l1 x26_1).f2).length c133_2)) (fun _ h_=>h_.1))) (Kd.R_base ho0) hb);have n1_:=Aside0.mk (Kd.R_lower (Kd.R_new' ho0 (Kd.R_lt (by (with_reducible repeat (first|apply Kd.R_alloc|apply Kd.R_drewN|apply Kd.R_drew));exact (Kd.R_mono (Kd.R_far (p:=⟨gb134,2,none⟩) (Kd.R_far (p:=⟨gb134,1,none⟩) (Kd.R_far (p:=⟨gb134,0,none⟩) (Kd.R_types HO_8.out BK134.out (by decide)) (fun _ hk=>hk.2) (.int .i64 ((rd_T39 l1 x26_1).f0))) (fun _ hk=>hk.2) (.int .i64 ((rd_T39 l1 x26_1).f1))) (fun _ hk=>hk.2) (.slice A133_2 ((rd_T39 l1 x26_1).f2).length c133_2)) (fun _ h_=>h_.1))))) (below_size (by repeat (first|(with_reducible first|exact HB.out|apply below_alloc|apply pw_below_drewN|apply below_drew1|refine below_set ?_ GE134.out)|exact HB.out))));have n2_:=Aside0.mk (blk_below (g:=gb134) (o:=.cells #[.int .i64 ((rd_T39 l1 x26_1).f0),.int .i64 ((rd_T39 l1 x26_1).f1),.slice A133_2 ((rd_T39 l1 x26_1).f2).length c133_2] 39 (0,0)) (by (with_reducible repeat (first|refine blk_drewN ?_ _|refine blk_drew ?_|refine blk_alloc ?_ _));refine blk_put (cs:=#[.int .i64 ((rd_T39 l1 x26_1).f0),.int .i64 ((rd_T39 l1 x26_1).f1),.slice none 0 0]) ?_ 2 _ rfl;(with_reducible repeat (first|refine blk_drewN ?_ _|refine blk_drew ?_|refine blk_alloc ?_ _));refine blk_put (cs:=#[.int .i64 ((rd_T39 l1 x26_1).f0),.int .i64 0,.slice none 0 0]) ?_ 1 _ rfl;(with_reducible repeat (first|refine blk_drewN ?_ _|refine blk_drew ?_|refine blk_alloc ?_ _));refine blk_put (cs:=#[.int .i64 0,.int .i64 0,.slice none 0 0]) ?_ 0 _ rfl;(with_reducible repeat (first|refine blk_drewN ?_ _|refine blk_drew ?_|refine blk_alloc ?_ _));exact BK134.out) hb);have n3_:=Aside0.mk (below_step (by repeat (first|(with_reducible first|exact HB.out|apply below_alloc|apply pw_below_drewN|apply below_drew1|refine below_set ?_ GE134.out)|exact HB.out)) hb);clear HO_8;clear BK134;clear HB;have HO_8:=n0_;have HO146:=n1_;have BK134:=n2_;have HB:=n3_;clear n0_ n1_ n2_ n3_;(try clear hb);(try clear hb2);(try clear hk);(try clear hi);(try clear ho0);obtain ⟨Ao30,co30,eo30⟩:=Kd.R_slice HO146.out;subst eo30)|((with_reducible refine gate_builtin (b:=.append) (xs:=#[.tmp 46,.tmp 52]) rfl ?_);at_builtin;refine Kd.R_append_rows (Kd.int .u8) (w0:=w) w.heap.size rfl (.tmp 46) (.tmp 52) 26 5 (.int .u8 0) 1 rfl Try.underlying26 info5 rfl (by decide) (by omega) u8 x8_1 t144 _ _ _ (fun k_=>some k_ ≠ (.slice Ao30 t144.length co30:Value).ownBlock) (fun _=>False) rfl rfl ?aO ?aR (fun _ _ h=>h) (fun _ h=>h.elim) ?aF ?aB ?aS ?aL ?_;(case aR=>repeat (first|exact (Kd.R_reads' HO146.out).2.2|(with_reducible refine Kd.C_alloc ?_ _)|(with_reducible refine Kd.C_drewN ?_ _)|(with_reducible refine Kd.C_drew ?_)));(case aB=>exact (by repeat (first|(with_reducible first|exact HB.out|apply below_alloc|apply pw_below_drewN|apply below_drew1|refine below_set ?_ GE134.out)|exact HB.out)));(case aF=>exact (fun k_ hk=>Kd.fresh' (Kd.R_lt (by (with_reducible repeat (first|apply Kd.R_alloc|apply Kd.R_drewN|apply Kd.R_drew));exact HO146.out)) k_ hk));(case aO=>exact (by (with_reducible repeat (first|apply Kd.R_alloc|apply Kd.R_drewN|apply Kd.R_drew));exact Kd.R_mono HO_8.out (fun _ hk=>hk.2)));(case aS=>exact (below_size (by repeat (first|(with_reducible first|exact HB.out|apply below_alloc|apply pw_below_drewN|apply below_drew1|refine below_set ?_ GE134.out)|exact HB.out))));(case aL=>have:=LMc23.out;omega);intro v148 w29 ho hb hg hat;rw [← Ny147.out] at ho;have n0_:=Aside0.mk (blk_grown (g:=gb134) (o:=.cells #[.int .i64 ((rd_T39 l1 x26_1).f0),.int .i64 ((rd_T39 l1 x26_1).f1),.slice A133_2 ((rd_T39 l1 x26_1).f2).length c133_2] 39 (0,0)) (by (with_reducible repeat (first|refine blk_drewN ?_ _|refine blk_drew ?_|refine blk_alloc ?_ _));exact BK134.out) hg (Kd.R_ne HO_8.out BK134.out (by decide)));have n1_:=Aside0.mk (Kd.R_after (ok:=(fun _=>True)) (by (with_reducible repeat (first|apply Kd.R_alloc|apply Kd.R_drewN|apply Kd.R_drew));exact HO146.out) hg hat);have n2_:=Aside0.mk (hb);have n3_:=Aside0.mk (ho);clear BK134;clear HO146;clear HB;clear HO_8;have BK134:=n0_;have HO146:=n1_;have HB:=n2_;have HO149:=n3_;clear n0_ n1_ n2_ n3_;clear ho hb hg hat;have hcz31_0:w29.cell? ⟨gb134,0,none⟩ = some (.int .i64 ((rd_T39 l1 x26_1).f0)):=(blk_cell BK134.out 0).trans rfl;have hcz31_1:w29.cell? ⟨gb134,1,none⟩ = some (.int .i64 ((rd_T39 l1 x26_1).f1)):=(blk_cell BK134.out 1).trans rfl;have hcz31_2:w29.cell? ⟨gb134,2,none⟩ = some (.slice A133_2 ((rd_T39 l1 x26_1).f2).length c133_2):=(blk_cell BK134.out 2).trans rfl;have hfz31_0:=blk_frozen BK134.out 0;have hfz31_1:=blk_frozen BK134.out 1;have hfz31_2:=blk_frozen BK134.out 2)|((with_reducible refine gate_callee (f:=51) rfl ?_);refine goesL_ (some 58) rfl rfl Try.func51 (by kernel_rfl) rfl #[.slice none 0 0,.int .u64 (IntKind.u64.wrap ((rd_T39 l1 x26_1).f0))] rfl (by (try simp only [List.map_toArray,List.map_cons,List.map_nil]);first|done|rfl|(simp only [List.length_drop,List.length_take];rfl)) ?_;(refine (codec_PutUint.calls _ _ ([]:List Int) (IntKind.u64.wrap ((rd_T39 l1 x26_1).f0)) t150 _ ?side1 ?side2 A24.out).mono ?_);(case side1=>exact Kd.C_nil _ _);(case side2=>exact Nat.le_refl _);rintro e w32 ⟨v151,rfl,ho0,hb⟩;refine ⟨_,rfl,?_⟩;have n0_:=Aside0.mk (Kd.R_elder' (by (with_reducible repeat (first|apply Kd.R_alloc|apply Kd.R_drewN|apply Kd.R_drew));exact HO146.out) (Kd.R_base ho0) hb);have n1_:=Aside0.mk (Kd.R_elder' (by (with_reducible repeat (first|apply Kd.R_alloc|apply Kd.R_drewN|apply Kd.R_drew));exact HO149.out) (Kd.R_base ho0) hb);have n2_:=Aside0.mk (Kd.R_lower (Kd.R_new' (Kd.R_new' ho0 (Kd.R_lt (by (with_reducible repeat (first|apply Kd.R_alloc|apply Kd.R_drewN|apply Kd.R_drew));exact HO146.out))) (Kd.R_lt (by (with_reducible repeat (first|apply Kd.R_alloc|apply Kd.R_drewN|apply Kd.R_drew));exact HO149.out))) (below_size (by repeat (first|(with_reducible first|exact HB.out|apply below_alloc|apply pw_below_drewN|apply below_drew1|refine below_set ?_ GE134.out)|exact HB.out))));have n3_:=Aside0.mk (blk_below (g:=gb134) (o:=.cells #[.int .i64 ((rd_T39 l1 x26_1).f0),.int .i64 ((rd_T39 l1 x26_1).f1),.slice A133_2 ((rd_T39 l1 x26_1).f2).length c133_2] 39 (0,0)) (by (with_reducible repeat (first|refine blk_drewN ?_ _|refine blk_drew ?_|refine blk_alloc ?_ _));exact BK134.out) hb);have n4_:=Aside0.mk (below_step (by repeat (first|(with_reducible first|exact HB.out|apply below_alloc|apply pw_below_drewN|apply below_drew1|refine below_set ?_ GE134.out)|exact HB.out)) hb);clear HO146;clear HO149;clear BK134;clear HB;have HO146:=n0_;have HO149:=n1_;have HO152:=n2_;have BK134:=n3_;have HB:=n4_;clear n0_ n1_ n2_ n3_ n4_;(try clear hb);(try clear hb2);(try clear hk);(try clear hi);(try clear ho0);obtain ⟨Ao34,co34,eo34⟩:=Kd.R_slice HO152.out;subst eo34)|((with_reducible refine gate_builtin (b:=.append) (xs:=#[.tmp 54,.tmp 58]) rfl ?_);at_builtin;refine Kd.R_append_rows (Kd.int .u8) (w0:=w) w.heap.size rfl (.tmp 54) (.tmp 58) 26 5 (.int .u8 0) 1 rfl Try.underlying26 info5 rfl (by decide) (by omega) v148 y147 t150 _ _ _ (fun k_=>some k_ ≠ (.slice Ao30 t144.length co30:Value).ownBlock ∧ some k_ ≠ (.slice Ao34 t150.length co34:Value).ownBlock) (fun _=>False) rfl rfl ?aO ?aR (fun _ _ h=>h) (fun _ h=>h.elim) ?aF ?aB ?aS ?aL ?_;(case aR=>repeat (first|exact (Kd.R_reads' HO152.out).2.2|(with_reducible refine Kd.C_alloc ?_ _)|(with_reducible refine Kd.C_drewN ?_ _)|(with_reducible refine Kd.C_drew ?_)));(case aB=>exact (by repeat (first|(with_reducible first|exact HB.out|apply below_alloc|apply pw_below_drewN|apply below_drew1|refine below_set ?_ GE134.out)|exact HB.out)));(case aF=>exact (fun k_ hk=>⟨Kd.fresh' (Kd.R_lt (by (with_reducible repeat (first|apply Kd.R_alloc|apply Kd.R_drewN|apply Kd.R_drew));exact HO146.out)) k_ hk,Kd.fresh' (Kd.R_lt (by (with_reducible repeat (first|apply Kd.R_alloc|apply Kd.R_drewN|apply Kd.R_drew));exact HO152.out)) k_ hk⟩));(case aO=>exact (by (with_reducible repeat (first|apply Kd.R_alloc|apply Kd.R_drewN|apply Kd.R_drew));exact HO149.out));(case aS=>exact (below_size (by repeat (first|(with_reducible first|exact HB.out|apply below_alloc|apply pw_below_drewN|apply below_drew1|refine below_set ?_ GE134.out)|exact HB.out))));(case aL=>have:=LMc25.out;omega);intro v154 w33 ho hb hg hat;rw [← Ny153.out] at ho;have n0_:=Aside0.mk (blk_grown (g:=gb134) (o:=.cells #[.int .i64 ((rd_T39 l1 x26_1).f0),.int .i64 ((rd_T39 l1 x26_1).f1),.slice A133_2 ((rd_T39 l1 x26_1).f2).length c133_2] 39 (0,0)) (by (with_reducible repeat (first|refine blk_drewN ?_ _|refine blk_drew ?_|refine blk_alloc ?_ _));exact BK134.out) hg (Kd.R_ne HO149.out BK134.out (by decide)));have n1_:=Aside0.mk (Kd.R_after (ok:=(fun k_=>some k_ ≠ (.slice Ao34 t150.length co34:Value).ownBlock)) (by (with_reducible repeat (first|apply Kd.R_alloc|apply Kd.R_drewN|apply Kd.R_drew));exact Kd.R_mono HO146.out (fun _ hk=>⟨hk.2,hk.1.2⟩)) hg hat);have n2_:=Aside0.mk (Kd.R_after (ok:=(fun k_=>some k_ ≠ (.slice Ao30 t144.length co30:Value).ownBlock)) (by (with_reducible repeat (first|apply Kd.R_alloc|apply Kd.R_drewN|apply Kd.R_drew));exact Kd.R_mono HO152.out (fun _ hk=>⟨hk.1.2,hk.2⟩)) hg hat);have n3_:=Aside0.mk (hb);have n4_:=Aside0.mk (ho);clear BK134;clear HO146;clear HO152;clear HB;clear HO149;have BK134:=n0_;have HO146:=n1_;have HO152:=n2_;have HB:=n3_;have HO155:=n4_;clear n0_ n1_ n2_ n3_ n4_;clear ho hb hg hat))
          go_roundg k1
          case measure=>have:=HK1.out;omega
          case rel=>exact ⟨(y153),(wrap64 (x26_1 + 1)),(by first|rfl|(simp;done)|(simp [*];done)),H',⟨by have:=HK1.out;omega⟩,⟨by (with_reducible repeat (first|apply Kd.R_alloc|apply Kd.R_drewN|apply Kd.R_drew));exact Kd.R_mono HO155.out (fun _ hk=>trivial)⟩,⟨by repeat (first|(with_reducible first|exact HB.out|apply below_alloc|apply pw_below_drewN|apply below_drew1|refine below_set ?_ GE134.out)|exact HB.out)⟩⟩
         ·rw [if_neg c25] at H
          exact absurd H (by simp)
        ·rw [if_neg c23] at H
         exact absurd H (by simp)
      ·rw [if_neg c10] at H
       exact absurd H (by simp)
     ·rw [if_neg c9] at H
      exact absurd H (by simp)
    ·rw [if_neg c8] at H
     have c8b0:decide (x26_1 < (l1.length:Int)) = false:=decide_eq_false c8
     clear c8
     simp only [Option.some.injEq,Prod.mk.injEq] at H
     obtain ⟨rfl,rfl⟩:=H
     go_wp2
     go_ret2
     exact ⟨_,by first|rfl|(simp [errW_none,errW_some] <;> rfl)|(simp [*,errW_none,errW_some] <;> rfl),by (with_reducible repeat (first|apply Kd.R_alloc|apply Kd.R_drewN|apply Kd.R_drew));exact HO_8.out,by repeat (first|(with_reducible first|exact HB.out|apply below_alloc|apply pw_below_drewN|apply below_drew1)|exact HB.out)⟩
 ·rw [if_neg c4] at H
  have c4b0:(t129 == 0) = false:=beq_eq_false_iff_ne.mpr c4
  have c4b1:(t129 != 0) = true:=bne_iff_ne.mpr c4
  simp only [Option.some.injEq,Prod.mk.injEq] at H
  obtain ⟨rfl,rfl⟩:=H
  go_enter Try.func36,Try.ntmps36
  go_wp2_with (first|((with_reducible refine gate_callee (f:=23) rfl ?_);refine goesL_ (some 14) rfl rfl Try.func23 (by kernel_rfl) rfl #[.int .i64 a0,.slice A1 l1.length c1] rfl (by (try simp only [List.map_toArray,List.map_cons,List.map_nil]);first|done|rfl|(simp only [List.length_drop,List.length_take];rfl)) ?_;(with_reducible refine (delta_Check.calls a0 _ _ l1 t128 t129 _ ?side1 ?side2 A3.out).mono ?_);(case side1=>repeat (first|exact HR1.out|(with_reducible refine Kd.C_alloc ?_ _)|(with_reducible refine Kd.C_drewN ?_ _)|(with_reducible refine Kd.C_drew ?_)));(case side2=>exact HC1.out);rintro e w35 ⟨rfl,hb⟩;refine ⟨_,rfl,?_⟩;have n0_:=Aside0.mk (below_step (by repeat (first|(with_reducible first|exact HB.out|apply below_alloc|apply pw_below_drewN|apply below_drew1)|exact HB.out)) hb);clear HB;have HB:=n0_;clear n0_;(try clear hb);(try clear hb2);(try clear hk);(try clear hi)))
  go_ret2
  exact ⟨_,by first|rfl|(simp [errW_none,errW_some] <;> rfl)|(simp [*,errW_none,errW_some] <;> rfl),by first|exact Kd.R_nil _ _ _ _ _|exact Kd.N_nil _ _ _ _ _|exact Kd.V_nil _ _ _ _ _|exact Kd.Q_nil _ _ _ _ _|exact Kd.S_nil _ _ _ _ _,by repeat (first|(with_reducible first|exact HB.out|apply below_alloc|apply pw_below_drewN|apply below_drew1)|exact HB.out)⟩

/-! ### law26_size: function 33 -/
def law26_size.l0:Nat → List (S39) → Int → Int → Option (Int)
 | 0,_,_,_=>none
 | k + 1,x0,x3,x4=>if x4 < (x0.length:Int) then (if 0 ≤ x4 then (law26_size.l0 k x0 (wrap64 (x3 + (wrap64 (((rd_T39 x0 x4).f1) + (((rd_T39 x0 x4).f2).length:Int))))) (wrap64 (x4 + 1))) else (none)) else (some x3)
def law26_size.f (k:Nat) (l0:List (S39)):Option (Int):=law26_size.l0 k l0 0 0
set_option maxHeartbeats 8000000 in
set_option maxRecDepth 100000 in
theorem law26_size.calls (k:Nat) (A0:Option Addr) (c0:Nat) (l0:List (S39)) (r:Int) (w:World) (hr0:Kd.C k39 w A0 l0.length l0) (hc0:l0.length ≤ c0) (h:law26_size.f k l0 = some r) :
  Calls Try.prog 33 #[.slice A0 l0.length c0] w fun e w'=>e = .returned (.int .i64 r) ∧ Drawn0 w w':=by
 have HR0:=Aside0.mk hr0
 have HC0:=Aside0.mk hc0
 clear hr0 hc0
 have H:(law26_size.l0 k l0 0 0) = some r:=h
 clear h
 have H':=Aside0.mk H
 clear H
 go_enter Try.func33,Try.ntmps33
 go_wp2
 repeat (go_quiet (fail);try go_wp2)
 go_loopg [3,4] k (fun kq v3 v4 w'=>∃ (x3_1:Int) (x4_1:Int),v3 = .int .i64 x3_1 ∧ v4 = .int .i64 x4_1 ∧ Aside0 (law26_size.l0 kq l0 x3_1 x4_1 = some r) ∧ Aside0 (kq ≤ k) ∧ Drawn0 w w')
 case atStart=>exact ⟨(0),(0),(by first|rfl|(simp;done)|(simp [*];done)),(by first|rfl|(simp;done)|(simp [*];done)),H',⟨Nat.le_refl _⟩,by repeat (first|exact Drawn0.refl _|apply Drawn0.step)⟩
 case round =>
  clear H'
  obtain ⟨x3_1,x4_1,rfl,rfl,HA,HK1,⟨m1,rfl⟩⟩:=hrel
  cases gk with
  | zero=>exact absurd HA.out (by simp [law26_size.l0])
  | succ k1 =>
   have H:=HA.out
   clear HA
   simp only [law26_size.l0] at H
   by_cases c2:x4_1 < (l0.length:Int)
   ·rw [if_pos c2] at H
    have c2b0:decide (x4_1 < (l0.length:Int)) = true:=decide_eq_true c2
    clear c2
    by_cases c3:0 ≤ x4_1
    ·rw [if_pos c3] at H
     have c3b0:decide (0 ≤ x4_1) = true:=decide_eq_true c3
     clear c3
     have H':=Aside0.mk H
     clear H
     have p156:0 ≤ (x4_1:Int):=of_decide_eq_true (by first|(with_reducible assumption)|assumption)
     have q156:x4_1 < (l0.length:Int):=of_decide_eq_true (by first|(with_reducible assumption)|assumption)
     obtain ⟨ad156,A156_2,c156_2,e156,hx156_0,hx156_1,hx156_2,hl156_2,hi156_2⟩:=at_T39 HR0.out x4_1 p156 q156
     cases e156
     have hu156_2:=Aside0.mk hx156_2
     have HR156_2:=Aside0.mk hi156_2
     have HC156_2:=Aside0.mk hl156_2
     clear hi156_2 hl156_2
     replace p156:=eq_true p156
     replace q156:=eq_true q156
     have p157:0 ≤ (x4_1:Int):=of_decide_eq_true (by first|(with_reducible assumption)|assumption)
     have q157:x4_1 < (l0.length:Int):=of_decide_eq_true (by first|(with_reducible assumption)|assumption)
     obtain ⟨ad157,A157_2,c157_2,e157,hx157_0,hx157_1,hx157_2,hl157_2,hi157_2⟩:=at_T39 HR0.out x4_1 p157 q157
     obtain rfl:ad156 = ad157:=(by injection e157)
     have HR157_2:=Aside0.mk hi157_2
     have HC157_2:=Aside0.mk hl157_2
     clear hi157_2 hl157_2
     replace p157:=eq_true p157
     replace q157:=eq_true q157
     have ea_:=Option.some.inj (hx156_2.symm.trans hx157_2)
     injection ea_ with ea_ en_ ec_
     subst ea_
     subst ec_
     clear en_
     go_wp2
     repeat (go_quiet (fail);try go_wp2)
     go_roundg k1
     case measure=>have:=HK1.out;omega
     case rel=>exact ⟨(wrap64 (x3_1 + (wrap64 (((rd_T39 l0 x4_1).f1) + (((rd_T39 l0 x4_1).f2).length:Int))))),(wrap64 (x4_1 + 1)),(by first|rfl|(simp;done)|(simp [*];done)),(by first|rfl|(simp;done)|(simp [*];done)),H',⟨by have:=HK1.out;omega⟩,by repeat (first|exact Drawn0.refl _|apply Drawn0.step)⟩
    ·rw [if_neg c3] at H
     exact absurd H (by simp)
   ·rw [if_neg c2] at H
    have c2b0:decide (x4_1 < (l0.length:Int)) = false:=decide_eq_false c2
    clear c2
    obtain rfl:=Option.some.inj H
    go_wp2
    repeat (go_quiet (fail);try go_wp2)
    go_ret
    exact ⟨by first|rfl|(simp;done)|(simp [*];done),by repeat (first|exact Drawn0.refl _|apply Drawn0.step)⟩

-- NOT PRINTED: function 69 (bytealg_IndexByteString)

-- NOT PRINTED: function 65 (stringslite_IndexByte)

-- NOT PRINTED: function 66 (bytealg_IndexString)

/-! ### bytealg_Cutover: function 67 -/
def bytealg_Cutover.f (a0:Int):Option (Int):=some (wrap64 (Int.tdiv (wrap64 (a0 + 16)) 8))
set_option maxHeartbeats 8000000 in
set_option maxRecDepth 100000 in
theorem bytealg_Cutover.calls (a0:Int) (r:Int) (w:World) (h:bytealg_Cutover.f a0 = some r) :
  Calls Try.prog 67 #[.int .i64 a0] w fun e w'=>e = .returned (.int .i64 r) ∧ Drawn0 w w':=by
 have H:(some (wrap64 (Int.tdiv (wrap64 (a0 + 16)) 8))) = some r:=h
 clear h
 obtain rfl:=Option.some.inj H
 go_enter Try.func67,Try.ntmps67
 go_wp2
 go_ret
 exact ⟨by first|rfl|(simp;done)|(simp [*];done),by repeat (first|exact Drawn0.refl _|apply Drawn0.step)⟩

/-! ### bytealg_hashStr_string: function 70 -/
mutual
def bytealg_hashStr_string.l0:Nat → ByteArray → Int → Int → Option (Int × Int)
 | 0,_,_,_=>none
 | k + 1,x0,x4,x5=>if x5 < (x0.size:Int) then (if 0 ≤ x5 then (bytealg_hashStr_string.l0 k x0 ((((x4 * 16777619) % 4294967296) + ((bt x0 x5) % 4294967296)) % 4294967296) (wrap64 (x5 + 1))) else (none)) else (bytealg_hashStr_string.l1 k x4 1 16777619 (x0.size:Int))
def bytealg_hashStr_string.l1:Nat → Int → Int → Int → Int → Option (Int × Int)
 | 0,_,_,_,_=>none
 | k + 1,x4,x6,x7,x8=>if x8 > 0 then (if (Go.bits .and .i64 x8 1) = 0 then (bytealg_hashStr_string.l1 k x4 x6 ((x7 * x7) % 4294967296) (x8 / 2)) else (bytealg_hashStr_string.l1 k x4 ((x6 * x7) % 4294967296) ((x7 * x7) % 4294967296) (x8 / 2))) else (some (x4,x6))
end
def bytealg_hashStr_string.f (k:Nat) (a0:ByteArray):Option (Int × Int):=bytealg_hashStr_string.l0 k a0 0 0
set_option maxHeartbeats 8000000 in
set_option maxRecDepth 100000 in
theorem bytealg_hashStr_string.calls (k:Nat) (a0:ByteArray) (r1:Int) (r2:Int) (w:World) (h:bytealg_hashStr_string.f k a0 = some (r1,r2)) :
  Calls Try.prog 70 #[.string a0] w fun e w'=>e = .returned (.tuple #[.int .u32 r1,.int .u32 r2]) ∧ Drawn0 w w':=by
 have H:(bytealg_hashStr_string.l0 k a0 0 0) = some (r1,r2):=h
 clear h
 have H':=Aside0.mk H
 clear H
 go_enter Try.func70,Try.ntmps70
 go_wp2
 go_loopg [4,5] k (fun kq v4 v5 w'=>∃ (x4_1:Int) (x5_1:Int),v4 = .int .u32 x4_1 ∧ v5 = .int .i64 x5_1 ∧ Aside0 (bytealg_hashStr_string.l0 kq a0 x4_1 x5_1 = some (r1,r2)) ∧ Aside0 (kq ≤ k) ∧ Drawn0 w w')
 case atStart=>exact ⟨(0),(0),(by first|rfl|(simp;done)|(simp [*];done)),(by first|rfl|(simp;done)|(simp [*];done)),H',⟨Nat.le_refl _⟩,by repeat (first|exact Drawn0.refl _|apply Drawn0.step)⟩
 case round =>
  clear H'
  obtain ⟨x4_1,x5_1,rfl,rfl,HA,HK1,⟨m1,rfl⟩⟩:=hrel
  cases gk with
  | zero=>exact absurd HA.out (by simp [bytealg_hashStr_string.l0])
  | succ k1 =>
   have H:=HA.out
   clear HA
   simp only [bytealg_hashStr_string.l0] at H
   by_cases c2:x5_1 < (a0.size:Int)
   ·rw [if_pos c2] at H
    have c2b0:decide (x5_1 < (a0.size:Int)) = true:=decide_eq_true c2
    clear c2
    by_cases c3:0 ≤ x5_1
    ·rw [if_pos c3] at H
     have c3b0:decide (0 ≤ x5_1) = true:=decide_eq_true c3
     clear c3
     have H':=Aside0.mk H
     clear H
     have p4:0 ≤ (x5_1:Int):=of_decide_eq_true (by first|(with_reducible assumption)|assumption)
     have q4:x5_1 < (a0.size:Int):=of_decide_eq_true (by first|(with_reducible assumption)|assumption)
     have hx4:=bt_at a0 x5_1
     replace p4:=eq_true p4
     replace q4:=eq_true q4
     go_wp2
     go_roundg k1
     case measure=>have:=HK1.out;omega
     case rel=>exact ⟨((((x4_1 * 16777619) % 4294967296) + ((bt a0 x5_1) % 4294967296)) % 4294967296),(wrap64 (x5_1 + 1)),(by first|rfl|(simp;done)|(simp [*];done)),(by first|rfl|(simp;done)|(simp [*];done)),H',⟨by have:=HK1.out;omega⟩,by repeat (first|exact Drawn0.refl _|apply Drawn0.step)⟩
    ·rw [if_neg c3] at H
     exact absurd H (by simp)
   ·rw [if_neg c2] at H
    have c2b0:decide (x5_1 < (a0.size:Int)) = false:=decide_eq_false c2
    clear c2
    have H':=Aside0.mk H
    clear H
    go_wp2
    go_loopg [6,7,8] k1 (fun kq v6 v7 v8 w'=>∃ (x6_2:Int) (x7_2:Int) (x8_2:Int),v6 = .int .u32 x6_2 ∧ v7 = .int .u32 x7_2 ∧ v8 = .int .i64 x8_2 ∧ Aside0 (bytealg_hashStr_string.l1 kq x4_1 x6_2 x7_2 x8_2 = some (r1,r2)) ∧ Aside0 (kq ≤ k1) ∧ Drawn0 w w')
    case atStart=>exact ⟨(1),(16777619),((a0.size:Int)),(by first|rfl|(simp;done)|(simp [*];done)),(by first|rfl|(simp;done)|(simp [*];done)),(by first|rfl|(simp;done)|(simp [*];done)),H',⟨Nat.le_refl _⟩,by repeat (first|exact Drawn0.refl _|apply Drawn0.step)⟩
    case round =>
     clear H'
     try clear c2
     try clear c2b0
     try clear p2
     try clear c3
     try clear c3b0
     try clear p4
     try clear q4
     try clear hx4
     try clear p4
     try clear q4
     obtain ⟨x6_2,x7_2,x8_2,rfl,rfl,rfl,HA,HK2,⟨m2,rfl⟩⟩:=hrel
     cases gk with
     | zero=>exact absurd HA.out (by simp [bytealg_hashStr_string.l1])
     | succ k2 =>
      have H:=HA.out
      clear HA
      simp only [bytealg_hashStr_string.l1] at H
      by_cases c5:x8_2 > 0
      ·rw [if_pos c5] at H
       have c5b0:decide (0 < x8_2) = true:=decide_eq_true c5
       clear c5
       by_cases c6:(Go.bits .and .i64 x8_2 1) = 0
       ·rw [if_pos c6] at H
        have c6b0:((Go.bits .and .i64 x8_2 1) == 0) = true:=beq_iff_eq.mpr c6
        have c6b1:((Go.bits .and .i64 x8_2 1) != 0) = false:=bne_eq_false_iff_eq.mpr c6
        clear c6
        have H':=Aside0.mk H
        clear H
        go_wp2
        go_roundg k2
        case measure=>have:=HK1.out;have:=HK2.out;omega
        case rel=>exact ⟨(x6_2),((x7_2 * x7_2) % 4294967296),(x8_2 / 2),(by first|rfl|(simp;done)|(simp [*];done)),(by first|rfl|(simp;done)|(simp [*];done)),(by first|rfl|(simp;done)|(simp [*];done)),H',⟨by have:=HK1.out;have:=HK2.out;omega⟩,by repeat (first|exact Drawn0.refl _|apply Drawn0.step)⟩
       ·rw [if_neg c6] at H
        have c6b0:((Go.bits .and .i64 x8_2 1) == 0) = false:=beq_eq_false_iff_ne.mpr c6
        have c6b1:((Go.bits .and .i64 x8_2 1) != 0) = true:=bne_iff_ne.mpr c6
        have H':=Aside0.mk H
        clear H
        go_wp2
        go_roundg k2
        case measure=>have:=HK1.out;have:=HK2.out;omega
        case rel=>exact ⟨((x6_2 * x7_2) % 4294967296),((x7_2 * x7_2) % 4294967296),(x8_2 / 2),(by first|rfl|(simp;done)|(simp [*];done)),(by first|rfl|(simp;done)|(simp [*];done)),(by first|rfl|(simp;done)|(simp [*];done)),H',⟨by have:=HK1.out;have:=HK2.out;omega⟩,by repeat (first|exact Drawn0.refl _|apply Drawn0.step)⟩
      ·rw [if_neg c5] at H
       have c5b0:decide (0 < x8_2) = false:=decide_eq_false c5
       clear c5
       simp only [Option.some.injEq,Prod.mk.injEq] at H
       obtain ⟨rfl,rfl⟩:=H
       go_wp2
       go_ret2
       exact ⟨by first|rfl|(simp;done)|(simp [*];done),by repeat (first|exact Drawn0.refl _|apply Drawn0.step)⟩

end Go.Proofs.Ytjckjcekapkkjaa.P
