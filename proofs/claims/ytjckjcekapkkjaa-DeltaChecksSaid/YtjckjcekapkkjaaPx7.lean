-- WRITTEN BY myprint.py (wip/tools) for this seat
import Derived.Test.YtjckjcekapkkjaaPx0
import Derived.Test.YtjckjcekapkkjaaPx6
import Derived.Test.YtjckjcekapkkjaaHCheck
import Derived.Test.YtjckjcekapkkjaaHWords
namespace Go.Proofs.Ytjckjcekapkkjaa.P
open Go.RowKit Go.Proofs.YtjckjcekapkkjaaW.PrintWords Go.Proofs.YtjckjcekapkkjaaW.PrintLast Go.Proofs.YtjckjcekapkkjaaW.PrintMore
attribute [local go_sem] max2_int min2_int max_two min_two max_three min_three max_four min_four   -- for this text's walks alone
set_option linter.unusedVariables false
set_option linter.unusedSimpArgs false

/-! ### delta_Apply: function 25 -/
def delta_Apply.l0:Nat → List Int → List Int → List (S39) → Int → Int → Option (List Int × Int)
 | 0,_,_,_,_,_=>none
 | k + 1,x0,x8,x23,x24,x25=>if x25 < x24 then (if 0 ≤ x25 then (if x25 < (x23.length:Int) then (if (((rd_T39 x23 x25).f2).length:Int) > 0 then (if x8.length + ((rd_T39 x23 x25).f2).length < 140737488355328 then (delta_Apply.l0 k x0 (x8 ++ ((rd_T39 x23 x25).f2)) x23 x24 (wrap64 (x25 + 1))) else (none)) else (if 0 ≤ ((rd_T39 x23 x25).f0) then (if ((rd_T39 x23 x25).f0) ≤ (wrap64 (((rd_T39 x23 x25).f0) + ((rd_T39 x23 x25).f1))) then (if (wrap64 (((rd_T39 x23 x25).f0) + ((rd_T39 x23 x25).f1))) ≤ (x0.length:Int) then (if x8.length + ((x0.take ((wrap64 (((rd_T39 x23 x25).f0) + ((rd_T39 x23 x25).f1))):Int).toNat).drop (((rd_T39 x23 x25).f0):Int).toNat).length < 140737488355328 then (delta_Apply.l0 k x0 (x8 ++ ((x0.take ((wrap64 (((rd_T39 x23 x25).f0) + ((rd_T39 x23 x25).f1))):Int).toNat).drop (((rd_T39 x23 x25).f0):Int).toNat)) x23 x24 (wrap64 (x25 + 1))) else (none)) else (none)) else (none)) else (none))) else (none)) else (none)) else (some (x8,0))
def delta_Apply.f (k:Nat) (l0:List Int) (l1:List (S39)):Option (List Int × Int):=(delta_Check.f (l0.length:Int) l1).bind fun bt211=>(if bt211.2 = 0 then (if 0 ≤ bt211.1 then (if (bt211.1:Int).toNat ≤ 281474976710656 then (delta_Apply.l0 k l0 (([]:List Int)) l1 (l1.length:Int) 0) else (none)) else (none)) else (some (([]:List Int),bt211.2)))
set_option maxHeartbeats 8000000 in
set_option maxRecDepth 100000 in
theorem delta_Apply.calls (k:Nat) (A0:Option Addr) (c0:Nat) (l0:List Int) (A1:Option Addr) (c1:Nat) (l1:List (S39)) (r1:List Int) (r2:Int) (w:World) (hr0:Kd.C (Kd.int .u8) w A0 l0.length l0) (hc0:l0.length ≤ c0) (hr1:Kd.C k39 w A1 l1.length l1) (hc1:l1.length ≤ c1) (h:delta_Apply.f k l0 l1 = some (r1,r2)) :
  Calls Try.prog 25 #[.slice A0 l0.length c0,.slice A1 l1.length c1] w fun e w'=>∃ v0_:Value,e = .returned (.tuple #[v0_,.int .i64 r2]) ∧ Kd.R (Kd.int .u8) 5 w' w.heap.size (fun _=>True) v0_ r1 ∧ Below w.heap.size w w':=by
 have hu39:=Try.underlying39
 have HR0:=Aside0.mk hr0
 have HC0:=Aside0.mk hc0
 clear hr0 hc0
 have HR1:=Aside0.mk hr1
 have HC1:=Aside0.mk hc1
 clear hr1 hc1
 have HB:=Aside0.mk (Below.refl w.heap.size w)
 have H:((delta_Check.f (l0.length:Int) l1).bind fun bt211=>(if bt211.2 = 0 then (if 0 ≤ bt211.1 then (if (bt211.1:Int).toNat ≤ 281474976710656 then (delta_Apply.l0 k l0 (([]:List Int)) l1 (l1.length:Int) 0) else (none)) else (none)) else (some (([]:List Int),bt211.2)))) = some (r1,r2):=h
 clear h
 replace H:=Option.bind_eq_some_iff.mp H
 obtain ⟨⟨t211,t212⟩,A30,H⟩:=H
 replace H:(if t212 = 0 then (if 0 ≤ t211 then (if (t211:Int).toNat ≤ 281474976710656 then (delta_Apply.l0 k l0 (([]:List Int)) l1 (l1.length:Int) 0) else (none)) else (none)) else (some (([]:List Int),t212))) = some (r1,r2):=H
 have A3:=Aside0.mk A30
 clear A30
 by_cases c4:t212 = 0
 ·rw [if_pos c4] at H
  have c4b0:(t212 == 0) = true:=beq_iff_eq.mpr c4
  have c4b1:(t212 != 0) = false:=bne_eq_false_iff_eq.mpr c4
  clear c4
  by_cases c5:0 ≤ t211
  ·rw [if_pos c5] at H
   have c5b0:=eq_true c5
   have c5b1:decide (0 ≤ t211) = true:=decide_eq_true c5
   clear c5
   by_cases c6:(t211:Int).toNat ≤ 281474976710656
   ·rw [if_pos c6] at H
    have c6b0:=eq_true c6
    have c6b1:decide ((t211:Int).toNat ≤ 281474976710656) = true:=decide_eq_true c6
    clear c6
    obtain ⟨y213,hy213⟩:∃ y_:List Int,y_ = (([]:List Int)):=⟨_,rfl⟩
    replace H:(delta_Apply.l0 k l0 y213 l1 (l1.length:Int) 0) = some (r1,r2):=by first|(rw [hy213];with_reducible exact H)|(have H2_:=(Option.bind_some _ _).symm.trans H;rw [hy213];with_reducible exact H2_)|(have H2_:=(Option.bind_some _ _).symm.trans H;with_reducible exact H2_)|with_reducible exact H|(rw [hy213];exact H)|exact H
    have Ny213:=Aside0.mk hy213
    clear hy213
    have H':=Aside0.mk H
    clear H
    go_enter Try.func25,Try.ntmps25
    go_wp2_with (first|((with_reducible refine gate_callee (f:=23) rfl ?_);refine goesL_ (some 15) rfl rfl Try.func23 (by kernel_rfl) rfl #[.int .i64 (l0.length:Int),.slice A1 l1.length c1] rfl (by (try simp only [List.map_toArray,List.map_cons,List.map_nil]);first|done|rfl|(simp only [List.length_drop,List.length_take];rfl)) ?_;(with_reducible refine (delta_Check.calls (l0.length:Int) _ _ l1 t211 t212 _ ?side1 ?side2 A3.out).mono ?_);(case side1=>repeat (first|exact HR1.out|(with_reducible refine Kd.C_alloc ?_ _)|(with_reducible refine Kd.C_drewN ?_ _)|(with_reducible refine Kd.C_drew ?_)));(case side2=>exact HC1.out);rintro e w7 ⟨rfl,hb⟩;refine ⟨_,rfl,?_⟩;have n0_:=Aside0.mk (below_step (by repeat (first|(with_reducible first|exact HB.out|apply below_alloc|apply pw_below_drewN|apply below_drew1)|exact HB.out)) hb);clear HB;have HB:=n0_;clear n0_;(try clear hb);(try clear hb2);(try clear hk);(try clear hi))|((with_reducible refine gate_dst (N:=22) rfl ?_);refine R_make0_ (Kd.int .u8) _ 5 rfl (N:=22) rfl 26 _ _ rfl t211 rfl rfl Try.underlying26 (.int .u8 0) 1 info5 rfl (by decide) (by omega) 0 (ok:=fun _=>True) (okp:=fun _=>True) rfl (fun _ hk=>hk) trivial (of_decide_eq_true (by first|(with_reducible assumption)|assumption)) (Nat.le_trans (Nat.mul_le_mul_right _ (of_decide_eq_true (by first|(with_reducible assumption)|assumption):t211.toNat ≤ 281474976710656)) (by omega)) (Below.refl _ _) (Nat.le_refl _) ?_;intro v214 w8 ho9 hb hg_ hnew_;clear hg_ hnew_;(first|rw [← Ny213.out] at ho9|(simp only [Int.reduceToNat] at ho9;rw [← Ny213.out] at ho9));have n0_:=Aside0.mk (Kd.R_lower ho9 (below_size (by repeat (first|(with_reducible first|exact HB.out|apply below_alloc|apply pw_below_drewN|apply below_drew1)|exact HB.out))));have n1_:=Aside0.mk (below_step (by repeat (first|(with_reducible first|exact HB.out|apply below_alloc|apply pw_below_drewN|apply below_drew1)|exact HB.out)) hb);clear HB;have HO215:=n0_;have HB:=n1_;clear n0_ n1_;clear hb ho9))
    go_loopg [8,25] k (fun kq v8 v25 w'=>∃ (x8_1:List Int) (x25_1:Int),v25 = .int .i64 x25_1 ∧ Aside0 (delta_Apply.l0 kq l0 x8_1 l1 (l1.length:Int) x25_1 = some (r1,r2)) ∧ Aside0 (kq ≤ k) ∧ Aside0 (Kd.R (Kd.int .u8) 5 w' w.heap.size (fun _=>True) v8 x8_1) ∧ Aside0 (Below w.heap.size w w'))
    case atStart=>exact ⟨(y213),(0),(by first|rfl|(simp;done)|(simp [*];done)),H',⟨Nat.le_refl _⟩,⟨by (with_reducible repeat (first|apply Kd.R_alloc|apply Kd.R_drewN|apply Kd.R_drew));exact HO215.out⟩,⟨by repeat (first|(with_reducible first|exact HB.out|apply below_alloc|apply pw_below_drewN|apply below_drew1)|exact HB.out)⟩⟩
    case round =>
     clear H'
     try clear c1
     try clear c2
     try clear p2
     try clear c4
     try clear c4b0
     try clear c4b1
     try clear c5
     try clear c5b0
     try clear c5b1
     try clear c6
     try clear c6b0
     try clear c6b1
     obtain ⟨x8_1,x25_1,rfl,HA,HK1,HO_8,HB⟩:=hrel
     cases gk with
     | zero=>exact absurd HA.out (by simp [delta_Apply.l0])
     | succ k1 =>
      have H:=HA.out
      clear HA
      simp only [delta_Apply.l0] at H
      by_cases c10:x25_1 < (l1.length:Int)
      ·rw [if_pos c10] at H
       have c10b0:decide (x25_1 < (l1.length:Int)) = true:=decide_eq_true c10
       clear c10
       by_cases c11:0 ≤ x25_1
       ·rw [if_pos c11] at H
        have c11b0:decide (0 ≤ x25_1) = true:=decide_eq_true c11
        clear c11
        by_cases c12:x25_1 < (l1.length:Int)
        ·rw [if_pos c12] at H
         have c12b0:decide (x25_1 < (l1.length:Int)) = true:=decide_eq_true c12
         clear c12
         by_cases c13:(((rd_T39 l1 x25_1).f2).length:Int) > 0
         ·rw [if_pos c13] at H
          have c13b0:decide (0 < (((rd_T39 l1 x25_1).f2).length:Int)) = true:=decide_eq_true c13
          have c13b1:decide (0 < ((rd_T39 l1 x25_1).f2).length) = true:=decide_eq_true (by omega)
          clear c13
          by_cases c14:x8_1.length + ((rd_T39 l1 x25_1).f2).length < 140737488355328
          ·rw [if_pos c14] at H
           have LMc14:=Aside0.mk c14
           clear c14
           obtain ⟨y218,hy218⟩:∃ y_:List Int,y_ = (x8_1 ++ ((rd_T39 l1 x25_1).f2)):=⟨_,rfl⟩
           replace H:(delta_Apply.l0 k1 l0 y218 l1 (l1.length:Int) (wrap64 (x25_1 + 1))) = some (r1,r2):=by first|(rw [hy218];with_reducible exact H)|(have H2_:=(Option.bind_some _ _).symm.trans H;rw [hy218];with_reducible exact H2_)|(have H2_:=(Option.bind_some _ _).symm.trans H;with_reducible exact H2_)|with_reducible exact H|(rw [hy218];exact H)|exact H
           have Ny218:=Aside0.mk hy218
           clear hy218
           have H':=Aside0.mk H
           clear H
           have p216:0 ≤ (x25_1:Int):=of_decide_eq_true (by first|(with_reducible assumption)|assumption)
           have q216:x25_1 < (l1.length:Int):=of_decide_eq_true (by first|(with_reducible assumption)|assumption)
           obtain ⟨ad216,A216_2,c216_2,e216,hx216_0,hx216_1,hx216_2,hl216_2,hi216_2⟩:=at_T39 HR1.out x25_1 p216 q216
           cases e216
           have hu216_2:=Aside0.mk hx216_2
           replace hx216_0:=(HB.out.cell (World.block_lt_of_cell? w _ hx216_0)).trans hx216_0
           replace hx216_1:=(HB.out.cell (World.block_lt_of_cell? w _ hx216_1)).trans hx216_1
           replace hx216_2:=(HB.out.cell (World.block_lt_of_cell? w _ hx216_2)).trans hx216_2
           have HR216_2:=Aside0.mk hi216_2
           have HC216_2:=Aside0.mk hl216_2
           clear hi216_2 hl216_2
           replace p216:=eq_true p216
           replace q216:=eq_true q216
           go_wp2_with (first|((with_reducible refine gate_dst (N:=10) rfl ?_);refine box_event ?hg (N:=10) ?hd (cs:=#[.int .i64 0,.int .i64 0,.slice none 0 0]) (t:=39) ?hr ?_;(case hd=>rfl);(case hg=>rfl);(case hr=>first|(go_simp;done)|(go_simp;rfl));intro gb217 hg w15 hbox hb;have n0_:=Aside0.mk (Kd.R_below (by (with_reducible repeat (first|apply Kd.R_alloc|apply Kd.R_drewN|apply Kd.R_drew));exact HO_8.out) hb);have n1_:=Aside0.mk (below_step (by repeat (first|(with_reducible first|exact HB.out|apply below_alloc|apply pw_below_drewN|apply below_drew1)|exact HB.out)) hb);have n2_:=Aside0.mk (hbox);have n3_:=Aside0.mk ((by rw [hg];exact (below_size (by repeat (first|(with_reducible first|exact HB.out|apply below_alloc|apply pw_below_drewN|apply below_drew1)|exact HB.out))):w.heap.size ≤ gb217));have n4_:=Aside0.mk ((by rw [hg];exact (below_size (by repeat (first|(with_reducible first|exact HB.out|apply below_alloc|apply pw_below_drewN|apply below_drew1)|exact HB.out))):w.heap.size ≤ gb217));clear HO_8;clear HB;have HO_8:=n0_;have HB:=n1_;have BK217:=n2_;have GW217:=n3_;have GE217:=n4_;clear n0_ n1_ n2_ n3_ n4_;clear hb hbox hg;have hcz16_0:w15.cell? ⟨gb217,0,none⟩ = some (.int .i64 0):=(blk_cell BK217.out 0).trans rfl;have hcz16_1:w15.cell? ⟨gb217,1,none⟩ = some (.int .i64 0):=(blk_cell BK217.out 1).trans rfl;have hcz16_2:w15.cell? ⟨gb217,2,none⟩ = some (.slice none 0 0):=(blk_cell BK217.out 2).trans rfl;have hfz16_0:=blk_frozen BK217.out 0;have hfz16_1:=blk_frozen BK217.out 1;have hfz16_2:=blk_frozen BK217.out 2)|((with_reducible refine gate_builtin (b:=.append) (xs:=#[.tmp 33,.tmp 35]) rfl ?_);at_builtin;refine Kd.R_append_rows (Kd.int .u8) (w0:=w) w.heap.size rfl (.tmp 33) (.tmp 35) 26 5 (.int .u8 0) 1 rfl Try.underlying26 info5 rfl (by decide) (by omega) u8 x8_1 ((rd_T39 l1 x25_1).f2) _ _ _ (fun _=>True) (fun _=>False) rfl rfl ?aO ?aR (fun _ _ h=>h) (fun _ h=>h.elim) ?aF ?aB ?aS ?aL ?_;(case aR=>exact Kd.C_below HR216_2.out (by repeat (first|(with_reducible first|exact HB.out|apply below_alloc|apply pw_below_drewN|apply below_drew1|refine below_set ?_ GE217.out)|exact HB.out)));(case aB=>exact (by repeat (first|(with_reducible first|exact HB.out|apply below_alloc|apply pw_below_drewN|apply below_drew1|refine below_set ?_ GE217.out)|exact HB.out)));(case aF=>exact (fun _ _=>trivial));(case aO=>exact (by (with_reducible repeat (first|apply Kd.R_alloc|apply Kd.R_drewN|apply Kd.R_drew));exact Kd.R_mono (Kd.R_far (p:=⟨gb217,2,none⟩) (Kd.R_far (p:=⟨gb217,1,none⟩) (Kd.R_far (p:=⟨gb217,0,none⟩) (Kd.R_types HO_8.out BK217.out (by decide)) (fun _ hk=>hk.2) (.int .i64 ((rd_T39 l1 x25_1).f0))) (fun _ hk=>hk.2) (.int .i64 ((rd_T39 l1 x25_1).f1))) (fun _ hk=>hk.2) (.slice A216_2 ((rd_T39 l1 x25_1).f2).length c216_2)) (fun _ hk=>trivial)));(case aS=>exact (below_size (by repeat (first|(with_reducible first|exact HB.out|apply below_alloc|apply pw_below_drewN|apply below_drew1|refine below_set ?_ GE217.out)|exact HB.out))));(case aL=>have:=LMc14.out;omega);intro v219 w17 ho hb hg hat;rw [← Ny218.out] at ho;have n0_:=Aside0.mk (blk_grown (g:=gb217) (o:=.cells #[.int .i64 ((rd_T39 l1 x25_1).f0),.int .i64 ((rd_T39 l1 x25_1).f1),.slice A216_2 ((rd_T39 l1 x25_1).f2).length c216_2] 39 (0,0)) (by (with_reducible repeat (first|refine blk_drewN ?_ _|refine blk_drew ?_|refine blk_alloc ?_ _));refine blk_put (cs:=#[.int .i64 ((rd_T39 l1 x25_1).f0),.int .i64 ((rd_T39 l1 x25_1).f1),.slice none 0 0]) ?_ 2 _ rfl;(with_reducible repeat (first|refine blk_drewN ?_ _|refine blk_drew ?_|refine blk_alloc ?_ _));refine blk_put (cs:=#[.int .i64 ((rd_T39 l1 x25_1).f0),.int .i64 0,.slice none 0 0]) ?_ 1 _ rfl;(with_reducible repeat (first|refine blk_drewN ?_ _|refine blk_drew ?_|refine blk_alloc ?_ _));refine blk_put (cs:=#[.int .i64 0,.int .i64 0,.slice none 0 0]) ?_ 0 _ rfl;(with_reducible repeat (first|refine blk_drewN ?_ _|refine blk_drew ?_|refine blk_alloc ?_ _));exact BK217.out) hg (Kd.R_ne HO_8.out BK217.out (by decide)));have n1_:=Aside0.mk (hb);have n2_:=Aside0.mk (ho);clear BK217;clear HB;clear HO_8;have BK217:=n0_;have HB:=n1_;have HO220:=n2_;clear n0_ n1_ n2_;clear ho hb hg hat))
           go_roundg k1
           case measure=>have:=HK1.out;omega
           case rel=>exact ⟨(y218),(wrap64 (x25_1 + 1)),(by first|rfl|(simp;done)|(simp [*];done)),H',⟨by have:=HK1.out;omega⟩,⟨by (with_reducible repeat (first|apply Kd.R_alloc|apply Kd.R_drewN|apply Kd.R_drew));exact HO220.out⟩,⟨by repeat (first|(with_reducible first|exact HB.out|apply below_alloc|apply pw_below_drewN|apply below_drew1|refine below_set ?_ GE217.out)|exact HB.out)⟩⟩
          ·rw [if_neg c14] at H
           exact absurd H (by simp)
         ·rw [if_neg c13] at H
          have c13b0:decide (0 < (((rd_T39 l1 x25_1).f2).length:Int)) = false:=decide_eq_false c13
          have c13b1:decide (0 < ((rd_T39 l1 x25_1).f2).length) = false:=decide_eq_false (by omega)
          clear c13
          by_cases c18:0 ≤ ((rd_T39 l1 x25_1).f0)
          ·rw [if_pos c18] at H
           have c18b0:=eq_true c18
           have c18b1:decide (0 ≤ ((rd_T39 l1 x25_1).f0)) = true:=decide_eq_true c18
           clear c18
           by_cases c19:((rd_T39 l1 x25_1).f0) ≤ (wrap64 (((rd_T39 l1 x25_1).f0) + ((rd_T39 l1 x25_1).f1)))
           ·rw [if_pos c19] at H
            have c19b0:=eq_true c19
            have c19b1:decide (((rd_T39 l1 x25_1).f0) ≤ (wrap64 (((rd_T39 l1 x25_1).f0) + ((rd_T39 l1 x25_1).f1)))) = true:=decide_eq_true c19
            by_cases c20:(wrap64 (((rd_T39 l1 x25_1).f0) + ((rd_T39 l1 x25_1).f1))) ≤ (l0.length:Int)
            ·rw [if_pos c20] at H
             have c20b0:=eq_true c20
             have c20b1:decide ((wrap64 (((rd_T39 l1 x25_1).f0) + ((rd_T39 l1 x25_1).f1))) ≤ (l0.length:Int)) = true:=decide_eq_true c20
             by_cases c21:x8_1.length + ((l0.take ((wrap64 (((rd_T39 l1 x25_1).f0) + ((rd_T39 l1 x25_1).f1))):Int).toNat).drop (((rd_T39 l1 x25_1).f0):Int).toNat).length < 140737488355328
             ·rw [if_pos c21] at H
              have LMc21:=Aside0.mk c21
              clear c21
              obtain ⟨y222,hy222⟩:∃ y_:List Int,y_ = (x8_1 ++ ((l0.take ((wrap64 (((rd_T39 l1 x25_1).f0) + ((rd_T39 l1 x25_1).f1))):Int).toNat).drop (((rd_T39 l1 x25_1).f0):Int).toNat)):=⟨_,rfl⟩
              replace H:(delta_Apply.l0 k1 l0 y222 l1 (l1.length:Int) (wrap64 (x25_1 + 1))) = some (r1,r2):=by first|(rw [hy222];with_reducible exact H)|(have H2_:=(Option.bind_some _ _).symm.trans H;rw [hy222];with_reducible exact H2_)|(have H2_:=(Option.bind_some _ _).symm.trans H;with_reducible exact H2_)|with_reducible exact H|(rw [hy222];exact H)|exact H
              have Ny222:=Aside0.mk hy222
              clear hy222
              have H':=Aside0.mk H
              clear H
              have p216:0 ≤ (x25_1:Int):=of_decide_eq_true (by first|(with_reducible assumption)|assumption)
              have q216:x25_1 < (l1.length:Int):=of_decide_eq_true (by first|(with_reducible assumption)|assumption)
              obtain ⟨ad216,A216_2,c216_2,e216,hx216_0,hx216_1,hx216_2,hl216_2,hi216_2⟩:=at_T39 HR1.out x25_1 p216 q216
              cases e216
              have hu216_2:=Aside0.mk hx216_2
              replace hx216_0:=(HB.out.cell (World.block_lt_of_cell? w _ hx216_0)).trans hx216_0
              replace hx216_1:=(HB.out.cell (World.block_lt_of_cell? w _ hx216_1)).trans hx216_1
              replace hx216_2:=(HB.out.cell (World.block_lt_of_cell? w _ hx216_2)).trans hx216_2
              have HR216_2:=Aside0.mk hi216_2
              have HC216_2:=Aside0.mk hl216_2
              clear hi216_2 hl216_2
              replace p216:=eq_true p216
              replace q216:=eq_true q216
              go_wp2_with (first|((with_reducible refine gate_dst (N:=10) rfl ?_);refine box_event ?hg (N:=10) ?hd (cs:=#[.int .i64 0,.int .i64 0,.slice none 0 0]) (t:=39) ?hr ?_;(case hd=>rfl);(case hg=>rfl);(case hr=>first|(go_simp;done)|(go_simp;rfl));intro gb217 hg w22 hbox hb;have n0_:=Aside0.mk (Kd.R_below (by (with_reducible repeat (first|apply Kd.R_alloc|apply Kd.R_drewN|apply Kd.R_drew));exact HO_8.out) hb);have n1_:=Aside0.mk (below_step (by repeat (first|(with_reducible first|exact HB.out|apply below_alloc|apply pw_below_drewN|apply below_drew1)|exact HB.out)) hb);have n2_:=Aside0.mk (hbox);have n3_:=Aside0.mk ((by rw [hg];exact (below_size (by repeat (first|(with_reducible first|exact HB.out|apply below_alloc|apply pw_below_drewN|apply below_drew1)|exact HB.out))):w.heap.size ≤ gb217));have n4_:=Aside0.mk ((by rw [hg];exact (below_size (by repeat (first|(with_reducible first|exact HB.out|apply below_alloc|apply pw_below_drewN|apply below_drew1)|exact HB.out))):w.heap.size ≤ gb217));clear HO_8;clear HB;have HO_8:=n0_;have HB:=n1_;have BK217:=n2_;have GW217:=n3_;have GE217:=n4_;clear n0_ n1_ n2_ n3_ n4_;clear hb hbox hg;have hcz23_0:w22.cell? ⟨gb217,0,none⟩ = some (.int .i64 0):=(blk_cell BK217.out 0).trans rfl;have hcz23_1:w22.cell? ⟨gb217,1,none⟩ = some (.int .i64 0):=(blk_cell BK217.out 1).trans rfl;have hcz23_2:w22.cell? ⟨gb217,2,none⟩ = some (.slice none 0 0):=(blk_cell BK217.out 2).trans rfl;have hfz23_0:=blk_frozen BK217.out 0;have hfz23_1:=blk_frozen BK217.out 1;have hfz23_2:=blk_frozen BK217.out 2;obtain ⟨i024,hi024,_,hsz24,_⟩:=info_parts info5;obtain ⟨A24,hcut24,hA24,hC24⟩:=print_mid_of (P:=Try.prog) (Value.int .u8) 0 26 5 .i64 .i64 Try.underlying26 hi024 hsz24 A0 c0 l0 ((rd_T39 l1 x25_1).f0) (wrap64 (((rd_T39 l1 x25_1).f0) + ((rd_T39 l1 x25_1).f1))) (of_decide_eq_true (by first|(with_reducible assumption)|assumption)) (by first|omega|exact of_decide_eq_true (by first|(with_reducible assumption)|assumption)) (of_decide_eq_true (by first|(with_reducible assumption)|assumption)) HC0.out;have HR221:=Aside0.mk (Kd.C_of_reads (h1:=fun _=>rfl) (hA24 _ (Kd.reads_of_C HR0.out)));have HC221:=Aside0.mk hC24;clear hA24 hC24 hi024 hsz24)|((with_reducible refine gate_builtin (b:=.append) (xs:=#[.tmp 37,.tmp 46]) rfl ?_);at_builtin;refine Kd.R_append_rows (Kd.int .u8) (w0:=w) w.heap.size rfl (.tmp 37) (.tmp 46) 26 5 (.int .u8 0) 1 rfl Try.underlying26 info5 rfl (by decide) (by omega) u8 x8_1 ((l0.take ((wrap64 (((rd_T39 l1 x25_1).f0) + ((rd_T39 l1 x25_1).f1))):Int).toNat).drop (((rd_T39 l1 x25_1).f0):Int).toNat) _ _ _ (fun _=>True) (fun _=>False) rfl rfl ?aO ?aR (fun _ _ h=>h) (fun _ h=>h.elim) ?aF ?aB ?aS ?aL ?_;(case aR=>first|(rw [← show ((l0.take ((wrap64 (((rd_T39 l1 x25_1).f0) + ((rd_T39 l1 x25_1).f1))):Int).toNat).drop (((rd_T39 l1 x25_1).f0):Int).toNat).length = ((wrap64 (((rd_T39 l1 x25_1).f0) + ((rd_T39 l1 x25_1).f1))).toNat - ((rd_T39 l1 x25_1).f0).toNat) from (by rw [List.length_drop,List.length_take];have h_:((wrap64 (((rd_T39 l1 x25_1).f0) + ((rd_T39 l1 x25_1).f1))):Int) ≤ (l0.length:Int):=of_decide_eq_true (by first|(with_reducible assumption)|assumption);omega)];exact Kd.C_below HR221.out (by repeat (first|(with_reducible first|exact HB.out|apply below_alloc|apply pw_below_drewN|apply below_drew1|refine below_set ?_ GE217.out)|exact HB.out)))|(exact Kd.C_below HR221.out (by repeat (first|(with_reducible first|exact HB.out|apply below_alloc|apply pw_below_drewN|apply below_drew1|refine below_set ?_ GE217.out)|exact HB.out))));(case aB=>exact (by repeat (first|(with_reducible first|exact HB.out|apply below_alloc|apply pw_below_drewN|apply below_drew1|refine below_set ?_ GE217.out)|exact HB.out)));(case aF=>exact (fun _ _=>trivial));(case aO=>exact (by (with_reducible repeat (first|apply Kd.R_alloc|apply Kd.R_drewN|apply Kd.R_drew));exact Kd.R_mono (Kd.R_far (p:=⟨gb217,2,none⟩) (Kd.R_far (p:=⟨gb217,1,none⟩) (Kd.R_far (p:=⟨gb217,0,none⟩) (Kd.R_types HO_8.out BK217.out (by decide)) (fun _ hk=>hk.2) (.int .i64 ((rd_T39 l1 x25_1).f0))) (fun _ hk=>hk.2) (.int .i64 ((rd_T39 l1 x25_1).f1))) (fun _ hk=>hk.2) (.slice A216_2 ((rd_T39 l1 x25_1).f2).length c216_2)) (fun _ hk=>trivial)));(case aS=>exact (below_size (by repeat (first|(with_reducible first|exact HB.out|apply below_alloc|apply pw_below_drewN|apply below_drew1|refine below_set ?_ GE217.out)|exact HB.out))));(case aL=>have:=LMc21.out;have hlx_:=(show ((l0.take ((wrap64 (((rd_T39 l1 x25_1).f0) + ((rd_T39 l1 x25_1).f1))):Int).toNat).drop (((rd_T39 l1 x25_1).f0):Int).toNat).length = ((wrap64 (((rd_T39 l1 x25_1).f0) + ((rd_T39 l1 x25_1).f1))).toNat - ((rd_T39 l1 x25_1).f0).toNat) from (by rw [List.length_drop,List.length_take];have h_:((wrap64 (((rd_T39 l1 x25_1).f0) + ((rd_T39 l1 x25_1).f1))):Int) ≤ (l0.length:Int):=of_decide_eq_true (by first|(with_reducible assumption)|assumption);omega));omega);intro v223 w25 ho hb hg hat;rw [← Ny222.out] at ho;have n0_:=Aside0.mk (blk_grown (g:=gb217) (o:=.cells #[.int .i64 ((rd_T39 l1 x25_1).f0),.int .i64 ((rd_T39 l1 x25_1).f1),.slice A216_2 ((rd_T39 l1 x25_1).f2).length c216_2] 39 (0,0)) (by (with_reducible repeat (first|refine blk_drewN ?_ _|refine blk_drew ?_|refine blk_alloc ?_ _));refine blk_put (cs:=#[.int .i64 ((rd_T39 l1 x25_1).f0),.int .i64 ((rd_T39 l1 x25_1).f1),.slice none 0 0]) ?_ 2 _ rfl;(with_reducible repeat (first|refine blk_drewN ?_ _|refine blk_drew ?_|refine blk_alloc ?_ _));refine blk_put (cs:=#[.int .i64 ((rd_T39 l1 x25_1).f0),.int .i64 0,.slice none 0 0]) ?_ 1 _ rfl;(with_reducible repeat (first|refine blk_drewN ?_ _|refine blk_drew ?_|refine blk_alloc ?_ _));refine blk_put (cs:=#[.int .i64 0,.int .i64 0,.slice none 0 0]) ?_ 0 _ rfl;(with_reducible repeat (first|refine blk_drewN ?_ _|refine blk_drew ?_|refine blk_alloc ?_ _));exact BK217.out) hg (Kd.R_ne HO_8.out BK217.out (by decide)));have n1_:=Aside0.mk (hb);have n2_:=Aside0.mk (ho);clear BK217;clear HB;clear HO_8;have BK217:=n0_;have HB:=n1_;have HO224:=n2_;clear n0_ n1_ n2_;clear ho hb hg hat))
              go_roundg k1
              case measure=>have:=HK1.out;omega
              case rel=>exact ⟨(y222),(wrap64 (x25_1 + 1)),(by first|rfl|(simp;done)|(simp [*];done)),H',⟨by have:=HK1.out;omega⟩,⟨by (with_reducible repeat (first|apply Kd.R_alloc|apply Kd.R_drewN|apply Kd.R_drew));exact HO224.out⟩,⟨by repeat (first|(with_reducible first|exact HB.out|apply below_alloc|apply pw_below_drewN|apply below_drew1|refine below_set ?_ GE217.out)|exact HB.out)⟩⟩
             ·rw [if_neg c21] at H
              exact absurd H (by simp)
            ·rw [if_neg c20] at H
             exact absurd H (by simp)
           ·rw [if_neg c19] at H
            exact absurd H (by simp)
          ·rw [if_neg c18] at H
           exact absurd H (by simp)
        ·rw [if_neg c12] at H
         exact absurd H (by simp)
       ·rw [if_neg c11] at H
        exact absurd H (by simp)
      ·rw [if_neg c10] at H
       have c10b0:decide (x25_1 < (l1.length:Int)) = false:=decide_eq_false c10
       clear c10
       simp only [Option.some.injEq,Prod.mk.injEq] at H
       obtain ⟨rfl,rfl⟩:=H
       go_wp2
       go_ret2
       exact ⟨_,by first|rfl|(simp [errW_none,errW_some] <;> rfl)|(simp [*,errW_none,errW_some] <;> rfl),by (with_reducible repeat (first|apply Kd.R_alloc|apply Kd.R_drewN|apply Kd.R_drew));exact HO_8.out,by repeat (first|(with_reducible first|exact HB.out|apply below_alloc|apply pw_below_drewN|apply below_drew1)|exact HB.out)⟩
   ·rw [if_neg c6] at H
    exact absurd H (by simp)
  ·rw [if_neg c5] at H
   exact absurd H (by simp)
 ·rw [if_neg c4] at H
  have c4b0:(t212 == 0) = false:=beq_eq_false_iff_ne.mpr c4
  have c4b1:(t212 != 0) = true:=bne_iff_ne.mpr c4
  simp only [Option.some.injEq,Prod.mk.injEq] at H
  obtain ⟨rfl,rfl⟩:=H
  go_enter Try.func25,Try.ntmps25
  go_wp2_with (first|((with_reducible refine gate_callee (f:=23) rfl ?_);refine goesL_ (some 15) rfl rfl Try.func23 (by kernel_rfl) rfl #[.int .i64 (l0.length:Int),.slice A1 l1.length c1] rfl (by (try simp only [List.map_toArray,List.map_cons,List.map_nil]);first|done|rfl|(simp only [List.length_drop,List.length_take];rfl)) ?_;(with_reducible refine (delta_Check.calls (l0.length:Int) _ _ l1 t211 t212 _ ?side1 ?side2 A3.out).mono ?_);(case side1=>repeat (first|exact HR1.out|(with_reducible refine Kd.C_alloc ?_ _)|(with_reducible refine Kd.C_drewN ?_ _)|(with_reducible refine Kd.C_drew ?_)));(case side2=>exact HC1.out);rintro e w26 ⟨rfl,hb⟩;refine ⟨_,rfl,?_⟩;have n0_:=Aside0.mk (below_step (by repeat (first|(with_reducible first|exact HB.out|apply below_alloc|apply pw_below_drewN|apply below_drew1)|exact HB.out)) hb);clear HB;have HB:=n0_;clear n0_;(try clear hb);(try clear hb2);(try clear hk);(try clear hi)))
  go_ret2
  exact ⟨_,by first|rfl|(simp [errW_none,errW_some] <;> rfl)|(simp [*,errW_none,errW_some] <;> rfl),by first|exact Kd.R_nil _ _ _ _ _|exact Kd.N_nil _ _ _ _ _|exact Kd.V_nil _ _ _ _ _|exact Kd.Q_nil _ _ _ _ _|exact Kd.S_nil _ _ _ _ _,by repeat (first|(with_reducible first|exact HB.out|apply below_alloc|apply pw_below_drewN|apply below_drew1)|exact HB.out)⟩

/-! ### ref26_Apply: function 26 -/
def ref26_Apply.l0:Nat → List Int → List (S39) → List Int → Int → Option (List Int × Int)
 | 0,_,_,_,_=>none
 | k + 1,x0,x1,x8,x9=>if x9 < (x1.length:Int) then (if 0 ≤ x9 then (if 0 ≤ ((rd_T39 x1 x9).f0) then (if ((rd_T39 x1 x9).f0) ≤ (wrap64 (((rd_T39 x1 x9).f0) + ((rd_T39 x1 x9).f1))) then (if (wrap64 (((rd_T39 x1 x9).f0) + ((rd_T39 x1 x9).f1))) ≤ (x0.length:Int) then (if x8.length + ((x0.take ((wrap64 (((rd_T39 x1 x9).f0) + ((rd_T39 x1 x9).f1))):Int).toNat).drop (((rd_T39 x1 x9).f0):Int).toNat).length < 140737488355328 then ((some (x8 ++ ((x0.take ((wrap64 (((rd_T39 x1 x9).f0) + ((rd_T39 x1 x9).f1))):Int).toNat).drop (((rd_T39 x1 x9).f0):Int).toNat):List Int)).bind fun y231=>(if y231.length + ((rd_T39 x1 x9).f2).length < 140737488355328 then (ref26_Apply.l0 k x0 x1 (y231 ++ ((rd_T39 x1 x9).f2)) (wrap64 (x9 + 1))) else (none))) else (none)) else (none)) else (none)) else (none)) else (none)) else (some (x8,0))
def ref26_Apply.f (k:Nat) (l0:List Int) (l1:List (S39)):Option (List Int × Int):=(ref26_Check.f k (l0.length:Int) l1).bind fun bt225=>(if bt225.2 = 0 then (ref26_Apply.l0 k l0 l1 ([]:List Int) 0) else (some (([]:List Int),bt225.2)))
def ref26_Apply.T8:Bool × List (List Nat × List Nat):=(true,[([],[]),([],[]),([],[]),([],[]),([2,3],[2,3]),([4],[4]),([5],[5]),([],[]),([],[]),([7,8],[7,8]),([9],[9]),([10],[10]),([],[]),([],[]),([12,13],[12,13]),([14],[14]),([15],[15]),([11,16],[11,16]),([1,6,17],[1,6,17]),([0,18],[0,18]),([19,19,0,1,2,3,4,5,6,7,8,9,10,11,12,13,14,15,16,17,18,19],[0,19])])
def ref26_Apply.B8:List Nat:=[0,0,0,0,12,28,60,0,0,384,896,1920,0,0,12288,28672,61440,130944,262142,524287,1048575]
theorem ref26_Apply.tab8:rtab .any (opsOf Try.f26 8) = ref26_Apply.T8:=by kernel_rfl
theorem ref26_Apply.bits8:waitsOk ref26_Apply.T8.2 ref26_Apply.B8 = true:=by kernel_rfl
set_option maxHeartbeats 8000000 in
set_option maxRecDepth 100000 in
theorem ref26_Apply.calls (k:Nat) (A0:Option Addr) (c0:Nat) (l0:List Int) (A1:Option Addr) (c1:Nat) (l1:List (S39)) (r1:List Int) (r2:Int) (w:World) (hr0:Kd.C (Kd.int .u8) w A0 l0.length l0) (hc0:l0.length ≤ c0) (hr1:Kd.C k39 w A1 l1.length l1) (hc1:l1.length ≤ c1) (h:ref26_Apply.f k l0 l1 = some (r1,r2)) :
  Calls Try.prog 26 #[.slice A0 l0.length c0,.slice A1 l1.length c1] w fun e w'=>∃ v0_:Value,e = .returned (.tuple #[v0_,.int .i64 r2]) ∧ Kd.R (Kd.int .u8) 5 w' w.heap.size (fun _=>True) v0_ r1 ∧ Below w.heap.size w w':=by
 have HR0:=Aside0.mk hr0
 have HC0:=Aside0.mk hc0
 clear hr0 hc0
 have HR1:=Aside0.mk hr1
 have HC1:=Aside0.mk hc1
 clear hr1 hc1
 have HB:=Aside0.mk (Below.refl w.heap.size w)
 have H:((ref26_Check.f k (l0.length:Int) l1).bind fun bt225=>(if bt225.2 = 0 then (ref26_Apply.l0 k l0 l1 ([]:List Int) 0) else (some (([]:List Int),bt225.2)))) = some (r1,r2):=h
 clear h
 replace H:=Option.bind_eq_some_iff.mp H
 obtain ⟨⟨t225,t226⟩,A30,H⟩:=H
 replace H:(if t226 = 0 then (ref26_Apply.l0 k l0 l1 ([]:List Int) 0) else (some (([]:List Int),t226))) = some (r1,r2):=H
 have A3:=Aside0.mk A30
 clear A30
 by_cases c4:t226 = 0
 ·rw [if_pos c4] at H
  have c4b0:(t226 == 0) = true:=beq_iff_eq.mpr c4
  have c4b1:(t226 != 0) = false:=bne_eq_false_iff_eq.mpr c4
  clear c4
  have H':=Aside0.mk H
  clear H
  go_enter Try.func26,Try.ntmps26
  go_wp2_with (first|((with_reducible refine gate_callee (f:=24) rfl ?_);refine goesL_ (some 14) rfl rfl Try.func24 (by kernel_rfl) rfl #[.int .i64 (l0.length:Int),.slice A1 l1.length c1] rfl (by (try simp only [List.map_toArray,List.map_cons,List.map_nil]);first|done|rfl|(simp only [List.length_drop,List.length_take];rfl)) ?_;(with_reducible refine (ref26_Check.calls k (l0.length:Int) _ _ l1 t225 t226 _ ?side1 ?side2 A3.out).mono ?_);(case side1=>repeat (first|exact HR1.out|(with_reducible refine Kd.C_alloc ?_ _)|(with_reducible refine Kd.C_drewN ?_ _)|(with_reducible refine Kd.C_drew ?_)));(case side2=>exact HC1.out);rintro e w5 ⟨rfl,hb⟩;refine ⟨_,rfl,?_⟩;have n0_:=Aside0.mk (below_step (by repeat (first|(with_reducible first|exact HB.out|apply below_alloc|apply pw_below_drewN|apply below_drew1)|exact HB.out)) hb);clear HB;have HB:=n0_;clear n0_;(try clear hb);(try clear hb2);(try clear hk);(try clear hi)))
  go_loopg [8,9] k (fun kq v8 v9 w'=>∃ (x8_1:List Int) (x9_1:Int),v9 = .int .i64 x9_1 ∧ Aside0 (ref26_Apply.l0 kq l0 l1 x8_1 x9_1 = some (r1,r2)) ∧ Aside0 (kq ≤ k) ∧ Aside0 (Kd.R (Kd.int .u8) 5 w' w.heap.size (fun _=>True) v8 x8_1) ∧ Aside0 (Below w.heap.size w w'))
  case atStart=>exact ⟨(([]:List Int)),(0),(by first|rfl|(simp;done)|(simp [*];done)),H',⟨Nat.le_refl _⟩,⟨by first|exact Kd.R_nil _ _ _ _ _|exact Kd.N_nil _ _ _ _ _|exact Kd.V_nil _ _ _ _ _|exact Kd.Q_nil _ _ _ _ _|exact Kd.S_nil _ _ _ _ _⟩,⟨by repeat (first|(with_reducible first|exact HB.out|apply below_alloc|apply pw_below_drewN|apply below_drew1)|exact HB.out)⟩⟩
  case round =>
   clear H'
   try clear c1
   try clear c2
   try clear p2
   try clear c4
   try clear c4b0
   try clear c4b1
   obtain ⟨x8_1,x9_1,rfl,HA,HK1,HO_8,HB⟩:=hrel
   cases gk with
   | zero=>exact absurd HA.out (by simp [ref26_Apply.l0])
   | succ k1 =>
    have H:=HA.out
    clear HA
    simp only [ref26_Apply.l0] at H
    by_cases c6:x9_1 < (l1.length:Int)
    ·rw [if_pos c6] at H
     have c6b0:decide (x9_1 < (l1.length:Int)) = true:=decide_eq_true c6
     clear c6
     by_cases c7:0 ≤ x9_1
     ·rw [if_pos c7] at H
      have c7b0:decide (0 ≤ x9_1) = true:=decide_eq_true c7
      clear c7
      by_cases c8:0 ≤ ((rd_T39 l1 x9_1).f0)
      ·rw [if_pos c8] at H
       have c8b0:=eq_true c8
       have c8b1:decide (0 ≤ ((rd_T39 l1 x9_1).f0)) = true:=decide_eq_true c8
       clear c8
       by_cases c9:((rd_T39 l1 x9_1).f0) ≤ (wrap64 (((rd_T39 l1 x9_1).f0) + ((rd_T39 l1 x9_1).f1)))
       ·rw [if_pos c9] at H
        have c9b0:=eq_true c9
        have c9b1:decide (((rd_T39 l1 x9_1).f0) ≤ (wrap64 (((rd_T39 l1 x9_1).f0) + ((rd_T39 l1 x9_1).f1)))) = true:=decide_eq_true c9
        by_cases c10:(wrap64 (((rd_T39 l1 x9_1).f0) + ((rd_T39 l1 x9_1).f1))) ≤ (l0.length:Int)
        ·rw [if_pos c10] at H
         have c10b0:=eq_true c10
         have c10b1:decide ((wrap64 (((rd_T39 l1 x9_1).f0) + ((rd_T39 l1 x9_1).f1))) ≤ (l0.length:Int)) = true:=decide_eq_true c10
         by_cases c11:x8_1.length + ((l0.take ((wrap64 (((rd_T39 l1 x9_1).f0) + ((rd_T39 l1 x9_1).f1))):Int).toNat).drop (((rd_T39 l1 x9_1).f0):Int).toNat).length < 140737488355328
         ·rw [if_pos c11] at H
          have LMc11:=Aside0.mk c11
          clear c11
          obtain ⟨y231,hy231⟩:∃ y_:List Int,y_ = (x8_1 ++ ((l0.take ((wrap64 (((rd_T39 l1 x9_1).f0) + ((rd_T39 l1 x9_1).f1))):Int).toNat).drop (((rd_T39 l1 x9_1).f0):Int).toNat)):=⟨_,rfl⟩
          replace H:(if y231.length + ((rd_T39 l1 x9_1).f2).length < 140737488355328 then (ref26_Apply.l0 k1 l0 l1 (y231 ++ ((rd_T39 l1 x9_1).f2)) (wrap64 (x9_1 + 1))) else (none)) = some (r1,r2):=by first|(rw [hy231];with_reducible exact H)|(have H2_:=(Option.bind_some _ _).symm.trans H;rw [hy231];with_reducible exact H2_)|(have H2_:=(Option.bind_some _ _).symm.trans H;with_reducible exact H2_)|with_reducible exact H|(rw [hy231];exact H)|exact H
          have Ny231:=Aside0.mk hy231
          clear hy231
          by_cases c12:y231.length + ((rd_T39 l1 x9_1).f2).length < 140737488355328
          ·rw [if_pos c12] at H
           have LMc12:=Aside0.mk c12
           clear c12
           obtain ⟨y235,hy235⟩:∃ y_:List Int,y_ = (y231 ++ ((rd_T39 l1 x9_1).f2)):=⟨_,rfl⟩
           replace H:(ref26_Apply.l0 k1 l0 l1 y235 (wrap64 (x9_1 + 1))) = some (r1,r2):=by first|(rw [hy235];with_reducible exact H)|(have H2_:=(Option.bind_some _ _).symm.trans H;rw [hy235];with_reducible exact H2_)|(have H2_:=(Option.bind_some _ _).symm.trans H;with_reducible exact H2_)|with_reducible exact H|(rw [hy235];exact H)|exact H
           have Ny235:=Aside0.mk hy235
           clear hy235
           have H':=Aside0.mk H
           clear H
           try go_wp2
           have n0_:=Aside0.mk (Kd.R_drew HO_8.out)
           have n1_:=Aside0.mk (below_drew1 HB.out)
           clear HO_8
           clear HB
           have HO_8:=n0_
           have HB:=n1_
           clear n0_ n1_
           have p227:0 ≤ (x9_1:Int):=of_decide_eq_true (by first|(with_reducible assumption)|assumption)
           have q227:x9_1 < (l1.length:Int):=of_decide_eq_true (by first|(with_reducible assumption)|assumption)
           obtain ⟨ad227,A227_2,c227_2,e227,hx227_0,hx227_1,hx227_2,hl227_2,hi227_2⟩:=at_T39 HR1.out x9_1 p227 q227
           have hw227_2:=hx227_2
           have hw227_1:=hx227_1
           have hw227_0:=hx227_0
           cases e227
           have hu227_2:=Aside0.mk hx227_2
           replace hx227_0:=(HB.out.cell (World.block_lt_of_cell? w _ hx227_0)).trans hx227_0
           replace hx227_1:=(HB.out.cell (World.block_lt_of_cell? w _ hx227_1)).trans hx227_1
           replace hx227_2:=(HB.out.cell (World.block_lt_of_cell? w _ hx227_2)).trans hx227_2
           have HR227_2:=Aside0.mk hi227_2
           have HC227_2:=Aside0.mk hl227_2
           clear hi227_2 hl227_2
           replace p227:=eq_true p227
           replace q227:=eq_true q227
           have p228:0 ≤ (x9_1:Int):=of_decide_eq_true (by first|(with_reducible assumption)|assumption)
           have q228:x9_1 < (l1.length:Int):=of_decide_eq_true (by first|(with_reducible assumption)|assumption)
           obtain ⟨ad228,A228_2,c228_2,e228,hx228_0,hx228_1,hx228_2,hl228_2,hi228_2⟩:=at_T39 HR1.out x9_1 p228 q228
           have hw228_2:=hx228_2
           have hw228_1:=hx228_1
           have hw228_0:=hx228_0
           obtain rfl:ad227 = ad228:=(by injection e228)
           replace hx228_0:=(HB.out.cell (World.block_lt_of_cell? w _ hx228_0)).trans hx228_0
           replace hx228_1:=(HB.out.cell (World.block_lt_of_cell? w _ hx228_1)).trans hx228_1
           replace hx228_2:=(HB.out.cell (World.block_lt_of_cell? w _ hx228_2)).trans hx228_2
           have HR228_2:=Aside0.mk hi228_2
           have HC228_2:=Aside0.mk hl228_2
           clear hi228_2 hl228_2
           replace p228:=eq_true p228
           replace q228:=eq_true q228
           have ea_:=Option.some.inj (hx227_2.symm.trans hx228_2)
           injection ea_ with ea_ en_ ec_
           subst ea_
           subst ec_
           clear en_
           have p229:0 ≤ (x9_1:Int):=of_decide_eq_true (by first|(with_reducible assumption)|assumption)
           have q229:x9_1 < (l1.length:Int):=of_decide_eq_true (by first|(with_reducible assumption)|assumption)
           obtain ⟨ad229,A229_2,c229_2,e229,hx229_0,hx229_1,hx229_2,hl229_2,hi229_2⟩:=at_T39 HR1.out x9_1 p229 q229
           have hw229_2:=hx229_2
           have hw229_1:=hx229_1
           have hw229_0:=hx229_0
           obtain rfl:ad227 = ad229:=(by injection e229)
           replace hx229_0:=(HB.out.cell (World.block_lt_of_cell? w _ hx229_0)).trans hx229_0
           replace hx229_1:=(HB.out.cell (World.block_lt_of_cell? w _ hx229_1)).trans hx229_1
           replace hx229_2:=(HB.out.cell (World.block_lt_of_cell? w _ hx229_2)).trans hx229_2
           have HR229_2:=Aside0.mk hi229_2
           have HC229_2:=Aside0.mk hl229_2
           clear hi229_2 hl229_2
           replace p229:=eq_true p229
           replace q229:=eq_true q229
           have ea_:=Option.some.inj (hx227_2.symm.trans hx229_2)
           injection ea_ with ea_ en_ ec_
           subst ea_
           subst ec_
           clear en_
           obtain ⟨i014,hi014,_,hsz14,_⟩:=info_parts info5
           obtain ⟨A14,hcut14,hA14,hC14⟩:=print_mid_of (P:=Try.prog) (Value.int .u8) 0 26 5 .i64 .i64 Try.underlying26 hi014 hsz14 A0 c0 l0 ((rd_T39 l1 x9_1).f0) (wrap64 (((rd_T39 l1 x9_1).f0) + ((rd_T39 l1 x9_1).f1))) (of_decide_eq_true (by first|(with_reducible assumption)|assumption)) (by first|omega|exact of_decide_eq_true (by first|(with_reducible assumption)|assumption)) (of_decide_eq_true (by first|(with_reducible assumption)|assumption)) HC0.out
           have HR230:=Aside0.mk (Kd.C_of_reads (h1:=fun _=>rfl) (hA14 _ (Kd.reads_of_C HR0.out)))
           have HC230:=Aside0.mk hC14
           clear hA14 hC14 hi014 hsz14
           refine start_ (n:=21) (S:=fun w'=>w'.cell? (ad227.add ((x9_1).toNat * 3)) = some (.int .i64 ((rd_T39 l1 x9_1).f0)) ∧ w'.cell? ⟨(ad227.add ((x9_1).toNat * 3)).block,(ad227.add ((x9_1).toNat * 3)).off + 1,none⟩ = some (.int .i64 ((rd_T39 l1 x9_1).f1)) ∧ w'.cell? ⟨(ad227.add ((x9_1).toNat * 3)).block,(ad227.add ((x9_1).toNat * 3)).off + 2,none⟩ = some (.slice A227_2 ((rd_T39 l1 x9_1).f2).length c227_2) ∧ w'.cell? (ad227.add ((x9_1).toNat * 3)) = some (.int .i64 ((rd_T39 l1 x9_1).f0)) ∧ w'.cell? ⟨(ad227.add ((x9_1).toNat * 3)).block,(ad227.add ((x9_1).toNat * 3)).off + 1,none⟩ = some (.int .i64 ((rd_T39 l1 x9_1).f1)) ∧ w'.cell? ⟨(ad227.add ((x9_1).toNat * 3)).block,(ad227.add ((x9_1).toNat * 3)).off + 2,none⟩ = some (.slice A227_2 ((rd_T39 l1 x9_1).f2).length c227_2) ∧ w'.cell? (ad227.add ((x9_1).toNat * 3)) = some (.int .i64 ((rd_T39 l1 x9_1).f0)) ∧ w'.cell? ⟨(ad227.add ((x9_1).toNat * 3)).block,(ad227.add ((x9_1).toNat * 3)).off + 1,none⟩ = some (.int .i64 ((rd_T39 l1 x9_1).f1)) ∧ w'.cell? ⟨(ad227.add ((x9_1).toNat * 3)).block,(ad227.add ((x9_1).toNat * 3)).off + 2,none⟩ = some (.slice A227_2 ((rd_T39 l1 x9_1).f2).length c227_2)) (ds:=[]) #[false,false,false,false,false,false,false,false,false,false,false,false,false,false,false,false,false,false,false,false,false] (by kernel_rfl) rfl rfl ⟨((HB.out.cell (World.block_lt_of_cell? w _ hw227_0)).trans hw227_0),((HB.out.cell (World.block_lt_of_cell? w _ hw227_1)).trans hw227_1),((HB.out.cell (World.block_lt_of_cell? w _ hw227_2)).trans hw227_2),((HB.out.cell (World.block_lt_of_cell? w _ hw228_0)).trans hw228_0),((HB.out.cell (World.block_lt_of_cell? w _ hw228_1)).trans hw228_1),((HB.out.cell (World.block_lt_of_cell? w _ hw228_2)).trans hw228_2),((HB.out.cell (World.block_lt_of_cell? w _ hw229_0)).trans hw229_0),((HB.out.cell (World.block_lt_of_cell? w _ hw229_1)).trans hw229_1),((HB.out.cell (World.block_lt_of_cell? w _ hw229_2)).trans hw229_2)⟩ (fun hHeld=>?_);refine with_tabW ref26_Apply.tab8 ref26_Apply.bits8 (fun HT_ HW_=>?_)
           generalize wr.drew = w13 at HO_8 HB HR227_2 HR228_2 HR229_2 HR230 hx227_0 hx227_1 hx227_2 hx228_0 hx228_1 hx228_2 hx229_0 hx229_1 hx229_2 hHeld ⊢
           refine pure_ (i:=0) (N:=some 26) (v:=?_) (a':=?_) #[true,false,false,false,false,false,false,false,false,false,false,false,false,false,false,false,false,false,false,false,false] rfl rfl (any_of HT_.out (by kernel_rfl)) (fun _ _ _ h=>h) (Or.inl ⟨by rfl,?_⟩) ?_ ?_
           rotate_left
           ·intro w'
            go_simp
            with_reducible rfl
           rotate_left
           ·simp only [Act.put,List.setIfInBounds_toArray,List.set_cons_zero,List.set_cons_succ,i64_w,i32_w]
            rfl
           refine pure_ (i:=1) (N:=some 27) (v:=?_) (a':=?_) #[true,true,false,false,false,false,false,false,false,false,false,false,false,false,false,false,false,false,false,false,false] rfl rfl (any_of HT_.out (by kernel_rfl)) (fun _ _ _ h=>h) (Or.inl ⟨by rfl,?_⟩) ?_ ?_
           rotate_left
           ·intro w'
            go_simp
            with_reducible rfl
           rotate_left
           ·simp only [Act.put,List.setIfInBounds_toArray,List.set_cons_zero,List.set_cons_succ,i64_w,i32_w]
            rfl
           refine pure_ (i:=2) (N:=some 28) (v:=?_) (a':=?_) #[true,true,true,false,false,false,false,false,false,false,false,false,false,false,false,false,false,false,false,false,false] rfl rfl (any_of HT_.out (by kernel_rfl)) (fun _ _ _ h=>h) (Or.inl ⟨by rfl,?_⟩) ?_ ?_
           rotate_left
           ·intro w'
            go_simp
            with_reducible rfl
           rotate_left
           ·simp only [Act.put,List.setIfInBounds_toArray,List.set_cons_zero,List.set_cons_succ,i64_w,i32_w]
            rfl
           refine pure_ (i:=3) (N:=some 29) (v:=?_) (a':=?_) #[true,true,true,true,false,false,false,false,false,false,false,false,false,false,false,false,false,false,false,false,false] rfl rfl (any_of HT_.out (by kernel_rfl)) (fun _ _ _ h=>h) (Or.inl ⟨by rfl,?_⟩) ?_ ?_
           rotate_left
           ·intro w'
            go_simp
            with_reducible rfl
           rotate_left
           ·simp only [Act.put,List.setIfInBounds_toArray,List.set_cons_zero,List.set_cons_succ,i64_w,i32_w]
            rfl
           refine pure_ (i:=4) (N:=some 30) (v:=?_) (a':=?_) #[true,true,true,true,true,false,false,false,false,false,false,false,false,false,false,false,false,false,false,false,false] rfl rfl (any_of HT_.out (by kernel_rfl)) (fun _ _ _ h=>h) (Or.inl ⟨by rfl,?_⟩) ?_ ?_
           rotate_left
           ·intro w'
            go_simp
            with_reducible rfl
           rotate_left
           ·simp only [Act.put,List.setIfInBounds_toArray,List.set_cons_zero,List.set_cons_succ,i64_w,i32_w]
            rfl
           refine pure_ (i:=5) (N:=some 31) (v:=?_) (a':=?_) #[true,true,true,true,true,true,false,false,false,false,false,false,false,false,false,false,false,false,false,false,false] rfl rfl (any_of HT_.out (by kernel_rfl)) (fun _ _ _ h=>h) (Or.inl ⟨by rfl,?_⟩) ?_ ?_
           rotate_left
           ·intro w'
            go_simp
            with_reducible rfl
           rotate_left
           ·simp only [Act.put,List.setIfInBounds_toArray,List.set_cons_zero,List.set_cons_succ,i64_w,i32_w]
            rfl
           refine pure_ (i:=7) (N:=some 33) (v:=?_) (a':=?_) #[true,true,true,true,true,true,false,true,false,false,false,false,false,false,false,false,false,false,false,false,false] rfl rfl (any_of HT_.out (by kernel_rfl)) (fun _ _ _ h=>h) (Or.inl ⟨by rfl,?_⟩) ?_ ?_
           rotate_left
           ·intro w'
            go_simp
            with_reducible rfl
           rotate_left
           ·simp only [Act.put,List.setIfInBounds_toArray,List.set_cons_zero,List.set_cons_succ,i64_w,i32_w]
            rfl
           refine pure_ (i:=8) (N:=some 34) (v:=?_) (a':=?_) #[true,true,true,true,true,true,false,true,true,false,false,false,false,false,false,false,false,false,false,false,false] rfl rfl (any_of HT_.out (by kernel_rfl)) (fun _ _ _ h=>h) (Or.inl ⟨by rfl,?_⟩) ?_ ?_
           rotate_left
           ·intro w'
            go_simp
            with_reducible rfl
           rotate_left
           ·simp only [Act.put,List.setIfInBounds_toArray,List.set_cons_zero,List.set_cons_succ,i64_w,i32_w]
            rfl
           refine pure_ (i:=9) (N:=some 35) (v:=?_) (a':=?_) #[true,true,true,true,true,true,false,true,true,true,false,false,false,false,false,false,false,false,false,false,false] rfl rfl (any_of HT_.out (by kernel_rfl)) (fun _ _ _ h=>h) (Or.inl ⟨by rfl,?_⟩) ?_ ?_
           rotate_left
           ·intro w'
            go_simp
            with_reducible rfl
           rotate_left
           ·simp only [Act.put,List.setIfInBounds_toArray,List.set_cons_zero,List.set_cons_succ,i64_w,i32_w]
            rfl
           refine pure_ (i:=10) (N:=some 36) (v:=?_) (a':=?_) #[true,true,true,true,true,true,false,true,true,true,true,false,false,false,false,false,false,false,false,false,false] rfl rfl (any_of HT_.out (by kernel_rfl)) (fun _ _ _ h=>h) (Or.inl ⟨by rfl,?_⟩) ?_ ?_
           rotate_left
           ·intro w'
            go_simp
            with_reducible rfl
           rotate_left
           ·simp only [Act.put,List.setIfInBounds_toArray,List.set_cons_zero,List.set_cons_succ,i64_w,i32_w]
            rfl
           refine pure_ (i:=12) (N:=some 38) (v:=?_) (a':=?_) #[true,true,true,true,true,true,false,true,true,true,true,false,true,false,false,false,false,false,false,false,false] rfl rfl (any_of HT_.out (by kernel_rfl)) (fun _ _ _ h=>h) (Or.inl ⟨by rfl,?_⟩) ?_ ?_
           rotate_left
           ·intro w'
            go_simp
            with_reducible rfl
           rotate_left
           ·simp only [Act.put,List.setIfInBounds_toArray,List.set_cons_zero,List.set_cons_succ,i64_w,i32_w]
            rfl
           refine pure_ (i:=13) (N:=some 39) (v:=?_) (a':=?_) #[true,true,true,true,true,true,false,true,true,true,true,false,true,true,false,false,false,false,false,false,false] rfl rfl (any_of HT_.out (by kernel_rfl)) (fun _ _ _ h=>h) (Or.inl ⟨by rfl,?_⟩) ?_ ?_
           rotate_left
           ·intro w'
            go_simp
            with_reducible rfl
           rotate_left
           ·simp only [Act.put,List.setIfInBounds_toArray,List.set_cons_zero,List.set_cons_succ,i64_w,i32_w]
            rfl
           refine pure_ (i:=14) (N:=some 40) (v:=?_) (a':=?_) #[true,true,true,true,true,true,false,true,true,true,true,false,true,true,true,false,false,false,false,false,false] rfl rfl (any_of HT_.out (by kernel_rfl)) (fun _ _ _ h=>h) (Or.inl ⟨by rfl,?_⟩) ?_ ?_
           rotate_left
           ·intro w'
            go_simp
            with_reducible rfl
           rotate_left
           ·simp only [Act.put,List.setIfInBounds_toArray,List.set_cons_zero,List.set_cons_succ,i64_w,i32_w]
            rfl
           refine pure_ (i:=15) (N:=some 41) (v:=?_) (a':=?_) #[true,true,true,true,true,true,false,true,true,true,true,false,true,true,true,true,false,false,false,false,false] rfl rfl (any_of HT_.out (by kernel_rfl)) (fun _ _ _ h=>h) (Or.inl ⟨by rfl,?_⟩) ?_ ?_
           rotate_left
           ·intro w'
            go_simp
            with_reducible rfl
           rotate_left
           ·simp only [Act.put,List.setIfInBounds_toArray,List.set_cons_zero,List.set_cons_succ,i64_w,i32_w]
            rfl
           refine take_ (i:=6) (N:=some 32) (v:=?_) (a':=?_) #[true,true,true,true,true,true,true,true,true,true,true,false,true,true,true,true,false,false,false,false,false] rfl rfl (take_ofW HT_.out HW_.out (by kernel_rfl)) (fun _ _ _ h=>h) (Or.inl ⟨by rfl,?_⟩) hHeld ?_ ?_
           rotate_left
           ·rintro w' ⟨s0,s1,s2,s3,s4,s5,s6,s7,s8⟩
            go_simp
            with_reducible rfl
           rotate_left
           ·simp only [Act.put,List.setIfInBounds_toArray,List.set_cons_zero,List.set_cons_succ,i64_w,i32_w]
            rfl
           refine take_ (i:=11) (N:=some 37) (v:=?_) (a':=?_) #[true,true,true,true,true,true,true,true,true,true,true,true,true,true,true,true,false,false,false,false,false] rfl rfl (take_ofW HT_.out HW_.out (by kernel_rfl)) (fun _ _ _ h=>h) (Or.inl ⟨by rfl,?_⟩) hHeld ?_ ?_
           rotate_left
           ·rintro w' ⟨s0,s1,s2,s3,s4,s5,s6,s7,s8⟩
            go_simp
            with_reducible rfl
           rotate_left
           ·simp only [Act.put,List.setIfInBounds_toArray,List.set_cons_zero,List.set_cons_succ,i64_w,i32_w]
            rfl
           refine take_ (i:=16) (N:=some 42) (v:=?_) (a':=?_) #[true,true,true,true,true,true,true,true,true,true,true,true,true,true,true,true,true,false,false,false,false] rfl rfl (take_ofW HT_.out HW_.out (by kernel_rfl)) (fun _ _ _ h=>h) (Or.inl ⟨by rfl,?_⟩) hHeld ?_ ?_
           rotate_left
           ·rintro w' ⟨s0,s1,s2,s3,s4,s5,s6,s7,s8⟩
            go_simp
            with_reducible rfl
           rotate_left
           ·simp only [Act.put,List.setIfInBounds_toArray,List.set_cons_zero,List.set_cons_succ,i64_w,i32_w]
            rfl
           refine pure_ (i:=17) (N:=some 43) (v:=?_) (a':=?_) #[true,true,true,true,true,true,true,true,true,true,true,true,true,true,true,true,true,true,false,false,false] rfl rfl (any_of HT_.out (by kernel_rfl)) (fun _ _ _ h=>h) (Or.inl ⟨by rfl,?_⟩) ?_ ?_
           rotate_left
           ·intro w'
            go_simp
            with_reducible rfl
           rotate_left
           ·simp only [Act.put,List.setIfInBounds_toArray,List.set_cons_zero,List.set_cons_succ,i64_w,i32_w]
            rfl
           refine pure_ (i:=18) (N:=some 44) (v:=?_) (a':=?_) #[true,true,true,true,true,true,true,true,true,true,true,true,true,true,true,true,true,true,true,false,false] rfl rfl (any_of HT_.out (by kernel_rfl)) (fun _ _ _ h=>h) (Or.inl ⟨by rfl,?_⟩) ?_ ?_
           rotate_left
           ·intro w'
            go_simp
            with_reducible rfl
           rotate_left
           ·simp only [Act.put,List.setIfInBounds_toArray,List.set_cons_zero,List.set_cons_succ,i64_w,i32_w]
            rfl
           refine one_ (i:=19) (N:=some 45) #[true,true,true,true,true,true,true,true,true,true,true,true,true,true,true,true,true,true,true,true,false] rfl rfl (one_of HT_.out (by kernel_rfl)) (by decide) (fun K hK=>?_)
           refine Kd.R_append_rows_step (Kd.int .u8) (w0:=w) w.heap.size (by rfl) (.tmp 26) (.tmp 44) 26 5 (.int .u8 0) 1 rfl Try.underlying26 info5 rfl (by decide) (by omega) u8 x8_1 ((l0.take ((wrap64 (((rd_T39 l1 x9_1).f0) + ((rd_T39 l1 x9_1).f1))):Int).toNat).drop (((rd_T39 l1 x9_1).f0):Int).toNat) _ _ _ (fun _=>True) (fun _=>False) rfl rfl ?aO ?aR (fun _ _ h=>h) (fun _ h=>h.elim) ?aF ?aB ?aS ?aL ?_
           (case aR=>first|(rw [← show ((l0.take ((wrap64 (((rd_T39 l1 x9_1).f0) + ((rd_T39 l1 x9_1).f1))):Int).toNat).drop (((rd_T39 l1 x9_1).f0):Int).toNat).length = ((wrap64 (((rd_T39 l1 x9_1).f0) + ((rd_T39 l1 x9_1).f1))).toNat - ((rd_T39 l1 x9_1).f0).toNat) from (by rw [List.length_drop,List.length_take];have h_:((wrap64 (((rd_T39 l1 x9_1).f0) + ((rd_T39 l1 x9_1).f1))):Int) ≤ (l0.length:Int):=of_decide_eq_true (by first|(with_reducible assumption)|assumption);omega)];repeat (first|exact (Kd.C_below HR230.out HB.out)|(with_reducible refine Kd.C_alloc ?_ _)|(with_reducible refine Kd.C_drewN ?_ _)|(with_reducible refine Kd.C_drew ?_)))|(repeat (first|exact (Kd.C_below HR230.out HB.out)|(with_reducible refine Kd.C_alloc ?_ _)|(with_reducible refine Kd.C_drewN ?_ _)|(with_reducible refine Kd.C_drew ?_))))
           (case aB=>exact (by repeat (first|(with_reducible first|exact HB.out|apply below_alloc|apply pw_below_drewN|apply below_drew1)|exact HB.out)))
           (case aF=>exact (fun _ _=>trivial))
           (case aO=>exact (by (with_reducible repeat (first|apply Kd.R_alloc|apply Kd.R_drewN|apply Kd.R_drew));exact HO_8.out))
           (case aS=>exact (below_size (by repeat (first|(with_reducible first|exact HB.out|apply below_alloc|apply pw_below_drewN|apply below_drew1)|exact HB.out))))
           (case aL=>have:=LMc11.out;have hlx_:=(show ((l0.take ((wrap64 (((rd_T39 l1 x9_1).f0) + ((rd_T39 l1 x9_1).f1))):Int).toNat).drop (((rd_T39 l1 x9_1).f0):Int).toNat).length = ((wrap64 (((rd_T39 l1 x9_1).f0) + ((rd_T39 l1 x9_1).f1))).toNat - ((rd_T39 l1 x9_1).f0).toNat) from (by rw [List.length_drop,List.length_take];have h_:((wrap64 (((rd_T39 l1 x9_1).f0) + ((rd_T39 l1 x9_1).f1))):Int) ≤ (l0.length:Int):=of_decide_eq_true (by first|(with_reducible assumption)|assumption);omega));omega)
           intro v232 w15 ho hb hg hat
           rw [← Ny231.out] at ho
           have n0_:=Aside0.mk (hb)
           have n1_:=Aside0.mk (ho)
           clear HB
           clear HO_8
           have HB:=n0_
           have HO233:=n1_
           clear n0_ n1_
           clear ho hb hg hat
           refine hK.out _ _ ⟨((HB.out.cell (World.block_lt_of_cell? w _ hw227_0)).trans hw227_0),((HB.out.cell (World.block_lt_of_cell? w _ hw227_1)).trans hw227_1),((HB.out.cell (World.block_lt_of_cell? w _ hw227_2)).trans hw227_2),((HB.out.cell (World.block_lt_of_cell? w _ hw228_0)).trans hw228_0),((HB.out.cell (World.block_lt_of_cell? w _ hw228_1)).trans hw228_1),((HB.out.cell (World.block_lt_of_cell? w _ hw228_2)).trans hw228_2),((HB.out.cell (World.block_lt_of_cell? w _ hw229_0)).trans hw229_0),((HB.out.cell (World.block_lt_of_cell? w _ hw229_1)).trans hw229_1),((HB.out.cell (World.block_lt_of_cell? w _ hw229_2)).trans hw229_2)⟩ (fun hHeld=>?_)
           clear hK K
           refine norm_ (a':=?_) ?_ ?_
           rotate_left
           ·show Act.put _ (some 45) _ = _
            simp only [Act.put,List.setIfInBounds_toArray,List.set_cons_zero,List.set_cons_succ,i64_w,i32_w]
            rfl
           refine pure_ (i:=20) (N:=some 8) (v:=?_) (a':=?_) #[true,true,true,true,true,true,true,true,true,true,true,true,true,true,true,true,true,true,true,true,true] rfl rfl (any_of HT_.out (by kernel_rfl)) (fun _ _ _ h=>h) (Or.inl ⟨by rfl,?_⟩) ?_ ?_
           rotate_left
           ·intro w'
            go_simp
            with_reducible rfl
           rotate_left
           ·simp only [Act.put,List.setIfInBounds_toArray,List.set_cons_zero,List.set_cons_succ,i64_w,i32_w]
            rfl
           refine done_ (done_of HT_.out (by kernel_rfl)) ?_
           have p234:0 ≤ (x9_1:Int):=of_decide_eq_true (by first|(with_reducible assumption)|assumption)
           have q234:x9_1 < (l1.length:Int):=of_decide_eq_true (by first|(with_reducible assumption)|assumption)
           obtain ⟨ad234,Az234_2,cz234_2,e234,hx234_0,hx234_1,hx234_2,hl234_2,hi234_2⟩:=at_T39 HR1.out x9_1 p234 q234
           obtain rfl:ad227 = ad234:=(by injection e234)
           obtain ⟨rfl,rfl⟩:A227_2 = Az234_2 ∧ c227_2 = cz234_2:=by have hu_:=Option.some.inj (hu227_2.out.symm.trans hx234_2);injection hu_ with h1_ h2_ h3_;exact ⟨h1_,h3_⟩
           replace hx234_0:=(HB.out.cell (World.block_lt_of_cell? w _ hx234_0)).trans hx234_0
           replace hx234_1:=(HB.out.cell (World.block_lt_of_cell? w _ hx234_1)).trans hx234_1
           replace hx234_2:=(HB.out.cell (World.block_lt_of_cell? w _ hx234_2)).trans hx234_2
           have HR234_2:=Aside0.mk hi234_2
           have HC234_2:=Aside0.mk hl234_2
           clear hi234_2 hl234_2
           replace p234:=eq_true p234
           replace q234:=eq_true q234
           try go_wp2_with (first|((with_reducible refine gate_builtin (b:=.append) (xs:=#[.tmp 46,.tmp 51]) rfl ?_);at_builtin;refine Kd.R_append_rows (Kd.int .u8) (w0:=w) w.heap.size rfl (.tmp 46) (.tmp 51) 26 5 (.int .u8 0) 1 rfl Try.underlying26 info5 rfl (by decide) (by omega) v232 y231 ((rd_T39 l1 x9_1).f2) _ _ _ (fun _=>True) (fun _=>False) rfl rfl ?aO ?aR (fun _ _ h=>h) (fun _ h=>h.elim) ?aF ?aB ?aS ?aL ?_;(case aR=>repeat (first|exact (Kd.C_below HR234_2.out HB.out)|(with_reducible refine Kd.C_alloc ?_ _)|(with_reducible refine Kd.C_drewN ?_ _)|(with_reducible refine Kd.C_drew ?_)));(case aB=>exact (by repeat (first|(with_reducible first|exact HB.out|apply below_alloc|apply pw_below_drewN|apply below_drew1)|exact HB.out)));(case aF=>exact (fun _ _=>trivial));(case aO=>exact (by (with_reducible repeat (first|apply Kd.R_alloc|apply Kd.R_drewN|apply Kd.R_drew));exact HO233.out));(case aS=>exact (below_size (by repeat (first|(with_reducible first|exact HB.out|apply below_alloc|apply pw_below_drewN|apply below_drew1)|exact HB.out))));(case aL=>have:=LMc12.out;omega);intro v236 w16 ho hb hg hat;rw [← Ny235.out] at ho;have n0_:=Aside0.mk (hb);have n1_:=Aside0.mk (ho);clear HB;clear HO233;have HB:=n0_;have HO237:=n1_;clear n0_ n1_;clear ho hb hg hat))
           go_roundg k1
           case measure=>have:=HK1.out;omega
           case rel=>exact ⟨(y235),(wrap64 (x9_1 + 1)),(by first|rfl|(simp;done)|(simp [*];done)),H',⟨by have:=HK1.out;omega⟩,⟨by (with_reducible repeat (first|apply Kd.R_alloc|apply Kd.R_drewN|apply Kd.R_drew));exact HO237.out⟩,⟨by repeat (first|(with_reducible first|exact HB.out|apply below_alloc|apply pw_below_drewN|apply below_drew1)|exact HB.out)⟩⟩
          ·rw [if_neg c12] at H
           exact absurd H (by simp)
         ·rw [if_neg c11] at H
          exact absurd H (by simp)
        ·rw [if_neg c10] at H
         exact absurd H (by simp)
       ·rw [if_neg c9] at H
        exact absurd H (by simp)
      ·rw [if_neg c8] at H
       exact absurd H (by simp)
     ·rw [if_neg c7] at H
      exact absurd H (by simp)
    ·rw [if_neg c6] at H
     have c6b0:decide (x9_1 < (l1.length:Int)) = false:=decide_eq_false c6
     clear c6
     simp only [Option.some.injEq,Prod.mk.injEq] at H
     obtain ⟨rfl,rfl⟩:=H
     go_wp2
     go_ret2
     exact ⟨_,by first|rfl|(simp [errW_none,errW_some] <;> rfl)|(simp [*,errW_none,errW_some] <;> rfl),by (with_reducible repeat (first|apply Kd.R_alloc|apply Kd.R_drewN|apply Kd.R_drew));exact HO_8.out,by repeat (first|(with_reducible first|exact HB.out|apply below_alloc|apply pw_below_drewN|apply below_drew1)|exact HB.out)⟩
 ·rw [if_neg c4] at H
  have c4b0:(t226 == 0) = false:=beq_eq_false_iff_ne.mpr c4
  have c4b1:(t226 != 0) = true:=bne_iff_ne.mpr c4
  simp only [Option.some.injEq,Prod.mk.injEq] at H
  obtain ⟨rfl,rfl⟩:=H
  go_enter Try.func26,Try.ntmps26
  go_wp2_with (first|((with_reducible refine gate_callee (f:=24) rfl ?_);refine goesL_ (some 14) rfl rfl Try.func24 (by kernel_rfl) rfl #[.int .i64 (l0.length:Int),.slice A1 l1.length c1] rfl (by (try simp only [List.map_toArray,List.map_cons,List.map_nil]);first|done|rfl|(simp only [List.length_drop,List.length_take];rfl)) ?_;(with_reducible refine (ref26_Check.calls k (l0.length:Int) _ _ l1 t225 t226 _ ?side1 ?side2 A3.out).mono ?_);(case side1=>repeat (first|exact HR1.out|(with_reducible refine Kd.C_alloc ?_ _)|(with_reducible refine Kd.C_drewN ?_ _)|(with_reducible refine Kd.C_drew ?_)));(case side2=>exact HC1.out);rintro e w17 ⟨rfl,hb⟩;refine ⟨_,rfl,?_⟩;have n0_:=Aside0.mk (below_step (by repeat (first|(with_reducible first|exact HB.out|apply below_alloc|apply pw_below_drewN|apply below_drew1)|exact HB.out)) hb);clear HB;have HB:=n0_;clear n0_;(try clear hb);(try clear hb2);(try clear hk);(try clear hi)))
  go_ret2
  exact ⟨_,by first|rfl|(simp [errW_none,errW_some] <;> rfl)|(simp [*,errW_none,errW_some] <;> rfl),by first|exact Kd.R_nil _ _ _ _ _|exact Kd.N_nil _ _ _ _ _|exact Kd.V_nil _ _ _ _ _|exact Kd.Q_nil _ _ _ _ _|exact Kd.S_nil _ _ _ _ _,by repeat (first|(with_reducible first|exact HB.out|apply below_alloc|apply pw_below_drewN|apply below_drew1)|exact HB.out)⟩

end Go.Proofs.Ytjckjcekapkkjaa.P
