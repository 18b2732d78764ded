-- WRITTEN BY myprint.py (wip/tools) for this seat
import Derived.Test.YtjckjcekapkkjaaPx0
import Derived.Test.YtjckjcekapkkjaaPx4
namespace Go.Proofs.Ytjckjcekapkkjaa.P
open Go.RowKit Go.Proofs.YtjckjcekapkkjaaW.PrintWords Go.Proofs.YtjckjcekapkkjaaW.PrintLast Go.Proofs.YtjckjcekapkkjaaW.PrintMore
attribute [local go_sem] max2_int min2_int max_two min_two max_three min_three max_four min_four   -- for this text's walks alone
set_option linter.unusedVariables false
set_option linter.unusedSimpArgs false

/-! ### ref26_Add: function 46 -/
mutual
def ref26_Add.j0:Nat → List (S39) → Int → Bool → Int → Int → List Int → Int → Int → List Int → Option ((List (S39)))
 | 0,_,_,_,_,_,_,_,_,_=>none
 | k + 1,x0,x5,x25,x188000,x188001,x188002,x193000,x193001,x193002=>if x25 = true then (if 0 ≤ x5 then (if x5 ≤ (x0.length:Int) then ((some (x0.take (x5:Int).toNat:List (S39))).bind fun y195=>(if ([]:List (S39)).length + y195.length < 3518437208883 then ((some (([]:List (S39)) ++ y195:List (S39))).bind fun y200=>(if ([]:List Int).length + x193002.length < 140737488355328 then ((some (([]:List Int) ++ x193002:List Int)).bind fun y203=>(if y203.length + x188002.length < 140737488355328 then ((some (([(⟨0,0,(y203 ++ x188002)⟩:S39)]:List (S39)):List (S39))).bind fun y209=>(if y200.length + y209.length < 3518437208883 then (some (y200 ++ y209)) else (none))) else (none))) else (none))) else (none))) else (none)) else (none)) else ((ref26_Copies.f x193000 x193001 x193002).bind fun t215=>(if t215 = true then ((ref26_Copies.f x188000 x188001 x188002).bind fun t216=>(if t216 = true then (ref26_Add.j1 k x0 x5 ((wrap64 (x193000 + x193001)) == x188000) x188000 x188001 x188002 x193000 x193001 x193002) else (ref26_Add.j1 k x0 x5 false x188000 x188001 x188002 x193000 x193001 x193002))) else (ref26_Add.j1 k x0 x5 false x188000 x188001 x188002 x193000 x193001 x193002)))
def ref26_Add.j1:Nat → List (S39) → Int → Bool → Int → Int → List Int → Int → Int → List Int → Option ((List (S39)))
 | 0,_,_,_,_,_,_,_,_,_=>none
 | k + 1,x0,x5,x54,x188000,x188001,x188002,x193000,x193001,x193002=>if x54 = true then (if 0 ≤ x5 then (if x5 ≤ (x0.length:Int) then ((some (x0.take (x5:Int).toNat:List (S39))).bind fun y217=>(if ([]:List (S39)).length + y217.length < 3518437208883 then ((some (([]:List (S39)) ++ y217:List (S39))).bind fun y222=>((some (([(⟨x193000,wrap64 (x193001 + x188001),([]:List Int)⟩:S39)]:List (S39)):List (S39))).bind fun y225=>(if y222.length + y225.length < 3518437208883 then (some (y222 ++ y225)) else (none)))) else (none))) else (none)) else (none)) else (if ([]:List (S39)).length + x0.length < 3518437208883 then ((some (([]:List (S39)) ++ x0:List (S39))).bind fun y231=>((some (([(⟨x188000,x188001,x188002⟩:S39)]:List (S39)):List (S39))).bind fun y234=>(if y231.length + y234.length < 3518437208883 then (some (y231 ++ y234)) else (none)))) else (none))
end
def ref26_Add.f (k:Nat) (l0:List (S39)) (a1_0:Int) (a1_1:Int) (l1_2:List Int):Option ((List (S39))):=if ([]:List Int).length + l1_2.length < 140737488355328 then ((some (([]:List Int) ++ l1_2:List Int)).bind fun y188=>(if (wrap64 ((l0.length:Int) - 1)) ≥ 0 then (if 0 ≤ (wrap64 ((l0.length:Int) - 1)) then (if (wrap64 ((l0.length:Int) - 1)) < (l0.length:Int) then ((ref26_Literal.f ((rd_T39 l0 (wrap64 ((l0.length:Int) - 1))).f0) ((rd_T39 l0 (wrap64 ((l0.length:Int) - 1))).f1) ((rd_T39 l0 (wrap64 ((l0.length:Int) - 1))).f2)).bind fun t193=>(if t193 = true then ((ref26_Literal.f a1_0 a1_1 y188).bind fun t194=>(ref26_Add.j0 k l0 (wrap64 ((l0.length:Int) - 1)) t194 a1_0 a1_1 y188 ((rd_T39 l0 (wrap64 ((l0.length:Int) - 1))).f0) ((rd_T39 l0 (wrap64 ((l0.length:Int) - 1))).f1) ((rd_T39 l0 (wrap64 ((l0.length:Int) - 1))).f2))) else (ref26_Add.j0 k l0 (wrap64 ((l0.length:Int) - 1)) false a1_0 a1_1 y188 ((rd_T39 l0 (wrap64 ((l0.length:Int) - 1))).f0) ((rd_T39 l0 (wrap64 ((l0.length:Int) - 1))).f1) ((rd_T39 l0 (wrap64 ((l0.length:Int) - 1))).f2)))) else (none)) else (none)) else (if ([]:List (S39)).length + l0.length < 3518437208883 then ((some (([]:List (S39)) ++ l0:List (S39))).bind fun y240=>((some (([(⟨a1_0,a1_1,y188⟩:S39)]:List (S39)):List (S39))).bind fun y243=>(if y240.length + y243.length < 3518437208883 then (some (y240 ++ y243)) else (none)))) else (none)))) else (none)
def ref26_Add.T6:Bool × List (List Nat × List Nat):=(true,[([],[]),([],[]),([0,1],[0,1]),([2],[2]),([],[]),([4],[4]),([5,3],[5]),([],[]),([7],[7]),([6,8,6],[6,8]),([9],[9]),([10],[10]),([3,11,9],[3,11]),([12,12,0,1,2,3,4,5,6,7,8,9,10,11,12],[12])])
def ref26_Add.B6:List Nat:=[0,0,3,7,0,16,63,0,128,511,1023,2047,4095,8191]
theorem ref26_Add.tab6:rtab .any (opsOf Try.f46 6) = ref26_Add.T6:=by kernel_rfl
theorem ref26_Add.bits6:waitsOk ref26_Add.T6.2 ref26_Add.B6 = true:=by kernel_rfl
def ref26_Add.T8:Bool × List (List Nat × List Nat):=(true,[([],[]),([],[]),([0,1],[0,1]),([2],[2]),([],[]),([4],[4]),([],[]),([6],[6]),([],[]),([8],[8]),([7,9],[7,9]),([5,10],[5,10]),([11],[11]),([3,12,3],[3,12]),([13,13,0,1,2,3,4,5,6,7,8,9,10,11,12,13],[13])])
def ref26_Add.B8:List Nat:=[0,0,3,7,0,16,0,64,0,256,960,2032,4080,8191,16383]
theorem ref26_Add.tab8:rtab .any (opsOf Try.f46 8) = ref26_Add.T8:=by kernel_rfl
theorem ref26_Add.bits8:waitsOk ref26_Add.T8.2 ref26_Add.B8 = true:=by kernel_rfl
set_option maxHeartbeats 8000000 in
set_option maxRecDepth 100000 in
theorem ref26_Add.calls (k:Nat) (P0_:Nat → Prop) (A0:Option Addr) (c0:Nat) (l0:List (S39)) (a1_0:Int) (a1_1:Int) (A1_2:Option Addr) (c1_2:Nat) (l1_2:List Int) (r:List (S39)) (w:World) (hs0:Kd.V k39 39 w w.heap.size (fun k_=>P0_ k_) (.slice A0 l0.length c0) l0) (hr1_2:Kd.C (Kd.int .u8) w A1_2 l1_2.length l1_2) (hc1_2:l1_2.length ≤ c1_2) (h:ref26_Add.f k l0 a1_0 a1_1 l1_2 = some r) :
  Calls Try.prog 46 #[.slice A0 l0.length c0,.agg #[.int .i64 a1_0,.int .i64 a1_1,.slice A1_2 l1_2.length c1_2]] w fun e w'=>∃ v0_:Value,e = .returned (v0_) ∧ Kd.N k39 39 w' w.heap.size (fun k_=>(P0_ k_ ∨ w.heap.size ≤ k_)) v0_ r ∧ Below w.heap.size w w':=by
 have hu39:=Try.underlying39
 have HO0:=Aside0.mk (show Kd.V k39 39 w w.heap.size (fun k_=>(P0_ k_ ∨ w.heap.size ≤ k_)) (.slice A0 l0.length c0) l0 from Kd.V_mono hs0 (fun k_ hk=>.inl hk))
 have HR1_2:=Aside0.mk hr1_2
 have HC1_2:=Aside0.mk hc1_2
 clear hr1_2 hc1_2
 have HB:=Aside0.mk (Below.refl w.heap.size w)
 have H:(if ([]:List Int).length + l1_2.length < 140737488355328 then ((some (([]:List Int) ++ l1_2:List Int)).bind fun y188=>(if (wrap64 ((l0.length:Int) - 1)) ≥ 0 then (if 0 ≤ (wrap64 ((l0.length:Int) - 1)) then (if (wrap64 ((l0.length:Int) - 1)) < (l0.length:Int) then ((ref26_Literal.f ((rd_T39 l0 (wrap64 ((l0.length:Int) - 1))).f0) ((rd_T39 l0 (wrap64 ((l0.length:Int) - 1))).f1) ((rd_T39 l0 (wrap64 ((l0.length:Int) - 1))).f2)).bind fun t193=>(if t193 = true then ((ref26_Literal.f a1_0 a1_1 y188).bind fun t194=>(ref26_Add.j0 k l0 (wrap64 ((l0.length:Int) - 1)) t194 a1_0 a1_1 y188 ((rd_T39 l0 (wrap64 ((l0.length:Int) - 1))).f0) ((rd_T39 l0 (wrap64 ((l0.length:Int) - 1))).f1) ((rd_T39 l0 (wrap64 ((l0.length:Int) - 1))).f2))) else (ref26_Add.j0 k l0 (wrap64 ((l0.length:Int) - 1)) false a1_0 a1_1 y188 ((rd_T39 l0 (wrap64 ((l0.length:Int) - 1))).f0) ((rd_T39 l0 (wrap64 ((l0.length:Int) - 1))).f1) ((rd_T39 l0 (wrap64 ((l0.length:Int) - 1))).f2)))) else (none)) else (none)) else (if ([]:List (S39)).length + l0.length < 3518437208883 then ((some (([]:List (S39)) ++ l0:List (S39))).bind fun y240=>((some (([(⟨a1_0,a1_1,y188⟩:S39)]:List (S39)):List (S39))).bind fun y243=>(if y240.length + y243.length < 3518437208883 then (some (y240 ++ y243)) else (none)))) else (none)))) else (none)) = some r:=h
 clear h
 by_cases c3:([]:List Int).length + l1_2.length < 140737488355328
 ·rw [if_pos c3] at H
  have LMc3:=Aside0.mk c3
  clear c3
  obtain ⟨y188,hy188⟩:∃ y_:List Int,y_ = (([]:List Int) ++ l1_2):=⟨_,rfl⟩
  replace H:(if (wrap64 ((l0.length:Int) - 1)) ≥ 0 then (if 0 ≤ (wrap64 ((l0.length:Int) - 1)) then (if (wrap64 ((l0.length:Int) - 1)) < (l0.length:Int) then ((ref26_Literal.f ((rd_T39 l0 (wrap64 ((l0.length:Int) - 1))).f0) ((rd_T39 l0 (wrap64 ((l0.length:Int) - 1))).f1) ((rd_T39 l0 (wrap64 ((l0.length:Int) - 1))).f2)).bind fun t193=>(if t193 = true then ((ref26_Literal.f a1_0 a1_1 y188).bind fun t194=>(ref26_Add.j0 k l0 (wrap64 ((l0.length:Int) - 1)) t194 a1_0 a1_1 y188 ((rd_T39 l0 (wrap64 ((l0.length:Int) - 1))).f0) ((rd_T39 l0 (wrap64 ((l0.length:Int) - 1))).f1) ((rd_T39 l0 (wrap64 ((l0.length:Int) - 1))).f2))) else (ref26_Add.j0 k l0 (wrap64 ((l0.length:Int) - 1)) false a1_0 a1_1 y188 ((rd_T39 l0 (wrap64 ((l0.length:Int) - 1))).f0) ((rd_T39 l0 (wrap64 ((l0.length:Int) - 1))).f1) ((rd_T39 l0 (wrap64 ((l0.length:Int) - 1))).f2)))) else (none)) else (none)) else (if ([]:List (S39)).length + l0.length < 3518437208883 then ((some (([]:List (S39)) ++ l0:List (S39))).bind fun y240=>((some (([(⟨a1_0,a1_1,y188⟩:S39)]:List (S39)):List (S39))).bind fun y243=>(if y240.length + y243.length < 3518437208883 then (some (y240 ++ y243)) else (none)))) else (none))) = some r:=by first|(rw [hy188];with_reducible exact H)|(have H2_:=(Option.bind_some _ _).symm.trans H;rw [hy188];with_reducible exact H2_)|(have H2_:=(Option.bind_some _ _).symm.trans H;with_reducible exact H2_)|with_reducible exact H|(rw [hy188];exact H)|exact H
  have Ny188:=Aside0.mk hy188
  clear hy188
  by_cases c4:(wrap64 ((l0.length:Int) - 1)) ≥ 0
  ·rw [if_pos c4] at H
   have c4b0:decide (0 ≤ (wrap64 ((l0.length:Int) - 1))) = true:=decide_eq_true c4
   clear c4
   obtain ⟨ji5,hji5⟩:∃ j_:Int,(wrap64 ((l0.length:Int) - 1)) = j_:=⟨_,rfl⟩
   replace H:(if 0 ≤ (ji5) then (if (ji5) < (l0.length:Int) then ((ref26_Literal.f ((rd_T39 l0 (ji5)).f0) ((rd_T39 l0 (ji5)).f1) ((rd_T39 l0 (ji5)).f2)).bind fun t193=>(if t193 = true then ((ref26_Literal.f a1_0 a1_1 y188).bind fun t194=>(ref26_Add.j0 k l0 ji5 t194 a1_0 a1_1 y188 ((rd_T39 l0 (ji5)).f0) ((rd_T39 l0 (ji5)).f1) ((rd_T39 l0 (ji5)).f2))) else (ref26_Add.j0 k l0 ji5 false a1_0 a1_1 y188 ((rd_T39 l0 (ji5)).f0) ((rd_T39 l0 (ji5)).f1) ((rd_T39 l0 (ji5)).f2)))) else (none)) else (none)) = some r:=by first|(rw [hji5] at H;exact H)|(simp only [hji5] at H ⊢;exact H)
   (try rw [hji5] at c4b0)
   have hji5w:(IntKind.i64.wrap ((l0.length:Int) - 1)) = ji5:=(i64_w _).trans hji5
   by_cases c6:0 ≤ (ji5)
   ·rw [if_pos c6] at H
    have c6b0:decide (0 ≤ (ji5)) = true:=decide_eq_true c6
    clear c6
    by_cases c7:(ji5) < (l0.length:Int)
    ·rw [if_pos c7] at H
     have c7b0:decide ((ji5) < (l0.length:Int)) = true:=decide_eq_true c7
     clear c7
     have HC8:=Aside0.mk H
     clear H
     go_enter Try.func46,Try.ntmps46
     go_upto_region 5 with (first|((with_reducible refine gate_dst (N:=3) rfl ?_);refine box_event ?hg (N:=3) ?hd (cs:=#[.int .i64 a1_0,.int .i64 a1_1,.slice A1_2 l1_2.length c1_2]) (t:=39) ?hr ?_;(case hd=>rfl);(case hg=>rfl);(case hr=>first|(go_simp;done)|(go_simp;rfl));intro gb187 hg w9 hbox hb;have n0_:=Aside0.mk (Kd.V_below (Kd.V_elderB (by (with_reducible repeat (first|apply Kd.V_alloc|apply Kd.V_drewN|apply Kd.V_drew));exact HO0.out) gb187 (Nat.le_of_eq hg.symm)) hb);have n1_:=Aside0.mk (below_step (by repeat (first|(with_reducible first|exact HB.out|apply below_alloc|apply pw_below_drewN|apply below_drew1)|exact HB.out)) hb);have n2_:=Aside0.mk (hbox);have n3_:=Aside0.mk ((by rw [hg];exact (below_size (by repeat (first|(with_reducible first|exact HB.out|apply below_alloc|apply pw_below_drewN|apply below_drew1)|exact HB.out))):w.heap.size ≤ gb187));have n4_:=Aside0.mk ((by rw [hg];exact (below_size (by repeat (first|(with_reducible first|exact HB.out|apply below_alloc|apply pw_below_drewN|apply below_drew1)|exact HB.out))):w.heap.size ≤ gb187));clear HO0;clear HB;have HO0:=n0_;have HB:=n1_;have BK187:=n2_;have GW187:=n3_;have GE187:=n4_;clear n0_ n1_ n2_ n3_ n4_;clear hb hbox hg;have hcz10_0:w9.cell? ⟨gb187,0,none⟩ = some (.int .i64 a1_0):=(blk_cell BK187.out 0).trans rfl;have hcz10_1:w9.cell? ⟨gb187,1,none⟩ = some (.int .i64 a1_1):=(blk_cell BK187.out 1).trans rfl;have hcz10_2:w9.cell? ⟨gb187,2,none⟩ = some (.slice A1_2 l1_2.length c1_2):=(blk_cell BK187.out 2).trans rfl;have hfz10_0:=blk_frozen BK187.out 0;have hfz10_1:=blk_frozen BK187.out 1;have hfz10_2:=blk_frozen BK187.out 2)|((with_reducible refine gate_builtin (b:=.append) (xs:=#[.const (.slice none 0 0),.tmp 8]) rfl ?_);at_builtin;refine Kd.R_append_rows (Kd.int .u8) (w0:=w) w.heap.size rfl (.const (.slice none 0 0)) (.tmp 8) 26 5 (.int .u8 0) 1 rfl Try.underlying26 info5 rfl (by decide) (by omega) (.slice none 0 0) ([]:List Int) l1_2 _ _ _ (fun k_=>(w.heap.size ≤ k_)) (fun _=>False) rfl rfl ?aO ?aR (fun _ _ h=>h) (fun _ h=>h.elim) ?aF ?aB ?aS ?aL ?_;(case aR=>repeat (first|exact (Kd.C_below HR1_2.out HB.out)|(with_reducible refine Kd.C_alloc ?_ _)|(with_reducible refine Kd.C_drewN ?_ _)|(with_reducible refine Kd.C_drew ?_)));(case aB=>exact (by repeat (first|(with_reducible first|exact HB.out|apply below_alloc|apply pw_below_drewN|apply below_drew1|refine below_set ?_ GE187.out)|exact HB.out)));(case aF=>exact (fun k_ hk=>(Nat.le_trans (below_size (by repeat (first|(with_reducible first|exact HB.out|apply below_alloc|apply pw_below_drewN|apply below_drew1|refine below_set ?_ GE187.out)|exact HB.out))) hk)));(case aO=>exact ((Kd.R_nil _ _ _ _ (fun k_=>(w.heap.size ≤ k_)))));(case aS=>exact (below_size (by repeat (first|(with_reducible first|exact HB.out|apply below_alloc|apply pw_below_drewN|apply below_drew1|refine below_set ?_ GE187.out)|exact HB.out))));(case aL=>have:=LMc3.out;omega);intro v189 w11 ho hb hg hat;rw [← Ny188.out] at ho;have n0_:=Aside0.mk (Kd.V_afterv (Kd.V_apart_nil (by (with_reducible repeat (first|apply Kd.V_alloc|apply Kd.V_drewN|apply Kd.V_drew));exact HO0.out)) hg hat);have n1_:=Aside0.mk (blk_grown (g:=gb187) (o:=.cells #[.int .i64 a1_0,.int .i64 a1_1,.slice A1_2 l1_2.length c1_2] 39 (0,0)) (by (with_reducible repeat (first|refine blk_drewN ?_ _|refine blk_drew ?_|refine blk_alloc ?_ _));exact BK187.out) hg (by simp [Value.ownBlock]));have n2_:=Aside0.mk (hb);have n3_:=Aside0.mk (ho);clear HO0;clear BK187;clear HB;have HO0:=n0_;have BK187:=n1_;have HB:=n2_;have HO190:=n3_;clear n0_ n1_ n2_ n3_;clear ho hb hg hat;obtain ⟨Ao12,co12,eo12⟩:=Kd.R_slice HO190.out;subst eo12;have hcz13_0:w11.cell? ⟨gb187,0,none⟩ = some (.int .i64 a1_0):=(blk_cell BK187.out 0).trans rfl;have hcz13_1:w11.cell? ⟨gb187,1,none⟩ = some (.int .i64 a1_1):=(blk_cell BK187.out 1).trans rfl;have hcz13_2:w11.cell? ⟨gb187,2,none⟩ = some (.slice A1_2 l1_2.length c1_2):=(blk_cell BK187.out 2).trans rfl;have hfz13_0:=blk_frozen BK187.out 0;have hfz13_1:=blk_frozen BK187.out 1;have hfz13_2:=blk_frozen BK187.out 2)|((with_reducible refine gate_store (t:=26) (p:=10) rfl ?_);refine store_event (t:=26) (p:=10) (v:=?vo_w14) (w1:=(w11.setCell ⟨gb187,2,none⟩ (.slice Ao12 y188.length co12))) ?hg ?ho ?hn ?hr ?_;(case ho=>rfl);(case hg=>rfl);(case hn=>rfl);(case hr=>first|(go_simp;done)|(go_simp;rfl));intro w14 hw;have n0_:Aside0 (Kd.V k39 39 w14 w.heap.size (fun k_=>(P0_ k_ ∨ w.heap.size ≤ k_) ∧ some k_ ≠ (.slice Ao12 y188.length co12:Value).ownBlock ∧ k_ ≠ gb187) (.slice A0 l0.length c0) l0):=⟨(by rw [hw];exact (by (with_reducible repeat (first|apply Kd.V_alloc|apply Kd.V_drewN|apply Kd.V_drew));exact Kd.V_mono (Kd.V_far (p:=⟨gb187,2,none⟩) (Kd.V_mono HO0.out (fun k_ hk=>(⟨hk,hk.1.2⟩:_ ∧ k_ ≠ gb187))) (fun _ hk=>hk.2) (.slice Ao12 y188.length co12)) (fun _ hk=>⟨hk.1.1.1,⟨hk.1.2,hk.1.1.2⟩⟩)))⟩;have n1_:Aside0 (Kd.R (Kd.int .u8) 5 w14 w.heap.size (fun k_=>(w.heap.size ≤ k_)) (.slice Ao12 y188.length co12) y188):=⟨(by rw [hw];exact (by (with_reducible repeat (first|apply Kd.R_alloc|apply Kd.R_drewN|apply Kd.R_drew));exact Kd.R_mono (Kd.R_far (p:=⟨gb187,2,none⟩) (Kd.R_types HO190.out BK187.out (by decide)) (fun _ hk=>hk.2) (.slice Ao12 y188.length co12)) (fun _ hk=>hk.1)))⟩;have n2_:Aside0 (w14.heap[gb187]? = some (.cells #[.int .i64 a1_0,.int .i64 a1_1,.slice Ao12 y188.length co12] 39 (0,0))):=⟨(by rw [hw];exact (by (with_reducible repeat (first|refine blk_drewN ?_ _|refine blk_drew ?_|refine blk_alloc ?_ _));refine blk_put (cs:=#[.int .i64 a1_0,.int .i64 a1_1,.slice A1_2 l1_2.length c1_2]) ?_ 2 _ rfl;(with_reducible repeat (first|refine blk_drewN ?_ _|refine blk_drew ?_|refine blk_alloc ?_ _));exact BK187.out))⟩;have n3_:Aside0 (Below w.heap.size w w14):=⟨(by rw [hw];exact (by repeat (first|(with_reducible first|exact HB.out|apply below_alloc|apply pw_below_drewN|apply below_drew1|refine below_set ?_ GE187.out)|exact HB.out)))⟩;clear hw;clear HO0;clear HO190;clear BK187;clear HB;have HO0:=n0_;have HO190:=n1_;have BK187:=n2_;have HB:=n3_;clear n0_ n1_ n2_ n3_;have p191:0 ≤ ((ji5):Int):=of_decide_eq_true (by first|(with_reducible assumption)|assumption);have q191:(ji5) < (l0.length:Int):=of_decide_eq_true (by first|(with_reducible assumption)|assumption);obtain ⟨ad191,A191_2,c191_2,e191,hx191_0,hx191_1,hx191_2,hl191_2,hi191_2⟩:=at_T39 (Kd.V_reads' HO0.out).2.2 (ji5) p191 q191;cases e191;obtain ⟨ce191,hce191,hMe191,hcc191⟩:=Kd.V_get HO0.out z39 (ji5) p191 (by first|exact q191|exact of_decide_eq_true (by first|(with_reducible assumption)|assumption)|(have e_:=(Kd.V_reads' HO0.out).1;omega));obtain ⟨ua191_2,uc191_2,rfl,ul191_2,ge191_2⟩:=k39_openF hMe191;have hv191_2:=hcc191 2 _ rfl;rw [add_field _ _ 2 (by omega)] at hv191_2;replace hv191_2:=Option.some.inj (hv191_2.symm.trans hx191_2);injection hv191_2 with hva_ hvn_ hvc_;rw [hva_] at ge191_2;rw [hvc_] at ul191_2;have HL191_2:=Aside0.mk (show Kd.V (Kd.int .u8) 5 _ w.heap.size _ _ ((rd_T39 l0 (ji5)).f2) from Kd.V_mk ul191_2 ge191_2);clear hva_ hvn_ hvc_ ge191_2 ul191_2;clear hcc191 hce191;have HR191_2:=Aside0.mk hi191_2;have HC191_2:=Aside0.mk hl191_2;clear hi191_2 hl191_2;replace p191:=eq_true p191;replace q191:=eq_true q191)|((with_reducible refine gate_dst (N:=6) rfl ?_);refine box_event ?hg (N:=6) ?hd (cs:=#[.int .i64 0,.int .i64 0,.slice none 0 0]) (t:=39) ?hr ?_;(case hd=>rfl);(case hg=>rfl);(case hr=>first|(go_simp;done)|(go_simp;rfl));intro gb192 hg w15 hbox hb;have n0_:=Aside0.mk (Kd.V_below (Kd.V_elderB (by (with_reducible repeat (first|apply Kd.V_alloc|apply Kd.V_drewN|apply Kd.V_drew));exact HO0.out) gb192 (Nat.le_of_eq hg.symm)) hb);have n1_:=Aside0.mk (Kd.R_below (by (with_reducible repeat (first|apply Kd.R_alloc|apply Kd.R_drewN|apply Kd.R_drew));exact HO190.out) hb);have n2_:=Aside0.mk (Kd.V_below (Kd.V_elderB (by (with_reducible repeat (first|apply Kd.V_alloc|apply Kd.V_drewN|apply Kd.V_drew));exact HL191_2.out) gb192 (Nat.le_of_eq hg.symm)) hb);have n3_:=Aside0.mk (blk_below (g:=gb187) (o:=.cells #[.int .i64 a1_0,.int .i64 a1_1,.slice Ao12 y188.length co12] 39 (0,0)) (by (with_reducible repeat (first|refine blk_drewN ?_ _|refine blk_drew ?_|refine blk_alloc ?_ _));exact BK187.out) hb);have n4_:=Aside0.mk (Kd.C_below (by repeat (first|(with_reducible exact HR191_2.out)|(with_reducible refine Kd.C_alloc ?_ _)|(with_reducible refine Kd.C_drewN ?_ _)|(with_reducible refine Kd.C_drew ?_)|exact HR191_2.out)) hb);have n5_:=Aside0.mk (below_step (by repeat (first|(with_reducible first|exact HB.out|apply below_alloc|apply pw_below_drewN|apply below_drew1|refine below_set ?_ GE187.out)|exact HB.out)) hb);have n6_:=Aside0.mk (hbox);have n7_:=Aside0.mk ((by rw [hg];exact (below_size (by repeat (first|(with_reducible first|exact HB.out|apply below_alloc|apply pw_below_drewN|apply below_drew1|refine below_set ?_ GE187.out)|exact HB.out))):w.heap.size ≤ gb192));have n8_:=Aside0.mk ((by rw [hg];exact (below_size (by repeat (first|(with_reducible first|exact HB.out|apply below_alloc|apply pw_below_drewN|apply below_drew1|refine below_set ?_ GE187.out)|exact HB.out))):w.heap.size ≤ gb192));have n9_:=Aside0.mk ((by rw [hg];exact Nat.ne_of_lt (blk_lt (g:=gb187) (o:=.cells #[.int .i64 a1_0,.int .i64 a1_1,.slice Ao12 y188.length co12] 39 (0,0)) (by (with_reducible repeat (first|refine blk_drewN ?_ _|refine blk_drew ?_|refine blk_alloc ?_ _));exact BK187.out)):gb187 ≠ gb192));have n10_:=Aside0.mk ((by rw [hg];exact Nat.ne_of_gt (blk_lt (g:=gb187) (o:=.cells #[.int .i64 a1_0,.int .i64 a1_1,.slice Ao12 y188.length co12] 39 (0,0)) (by (with_reducible repeat (first|refine blk_drewN ?_ _|refine blk_drew ?_|refine blk_alloc ?_ _));exact BK187.out)):gb192 ≠ gb187));clear HO0;clear HO190;clear HL191_2;clear BK187;clear HR191_2;clear HB;have HO0:=n0_;have HO190:=n1_;have HL191_2:=n2_;have BK187:=n3_;have HR191_2:=n4_;have HB:=n5_;have BK192:=n6_;have GW192:=n7_;have GE192:=n8_;have NB187_192:=n9_;have NB192_187:=n10_;clear n0_ n1_ n2_ n3_ n4_ n5_ n6_ n7_ n8_ n9_ n10_;clear hb hbox hg;have hnb16:=NB192_187.out;have hnc16:=NB187_192.out;have hcz17_0:w15.cell? ⟨gb192,0,none⟩ = some (.int .i64 0):=(blk_cell BK192.out 0).trans rfl;have hcz17_1:w15.cell? ⟨gb192,1,none⟩ = some (.int .i64 0):=(blk_cell BK192.out 1).trans rfl;have hcz17_2:w15.cell? ⟨gb192,2,none⟩ = some (.slice none 0 0):=(blk_cell BK192.out 2).trans rfl;have hfz17_0:=blk_frozen BK192.out 0;have hfz17_1:=blk_frozen BK192.out 1;have hfz17_2:=blk_frozen BK192.out 2))
     (try simp only [Act.put,List.setIfInBounds_toArray,List.set_cons_zero,List.set_cons_succ])
     go_cut [25] (fun v25 wc=>∃ (kq:Nat) (x25_7:Bool),v25 = .bool x25_7 ∧ Aside0 (ref26_Add.j0 kq l0 ji5 x25_7 a1_0 a1_1 y188 ((rd_T39 l0 (ji5)).f0) ((rd_T39 l0 (ji5)).f1) ((rd_T39 l0 (ji5)).f2) = some r) ∧ Aside0 (kq ≤ k) ∧ Aside0 (Kd.V k39 39 wc w.heap.size (fun k_=>(P0_ k_ ∨ w.heap.size ≤ k_) ∧ some k_ ≠ ((.slice Ao12 y188.length co12):Value).ownBlock ∧ k_ ≠ gb187 ∧ k_ ≠ gb192) (.slice (some ad191) l0.length c0) l0) ∧ Aside0 (Kd.R (Kd.int .u8) 5 wc w.heap.size (fun k_=>(w.heap.size ≤ k_)) (.slice Ao12 y188.length co12) y188) ∧ Aside0 (Kd.V (Kd.int .u8) 5 wc w.heap.size (fun k_=>(P0_ k_ ∨ w.heap.size ≤ k_) ∧ some k_ ≠ ((.slice Ao12 y188.length co12):Value).ownBlock ∧ k_ ≠ gb187 ∧ k_ ≠ gb192) (.slice A191_2 ((rd_T39 l0 (ji5)).f2).length c191_2) ((rd_T39 l0 (ji5)).f2)) ∧ Aside0 (wc.heap[gb187]? = some (.cells #[.int .i64 a1_0,.int .i64 a1_1,(.slice Ao12 y188.length co12)] 39 (0,0))) ∧ Aside0 (wc.heap[gb192]? = some (.cells #[.int .i64 ((rd_T39 l0 (ji5)).f0),.int .i64 ((rd_T39 l0 (ji5)).f1),(.slice A191_2 ((rd_T39 l0 (ji5)).f2).length c191_2)] 39 (0,0))) ∧ Aside0 (Kd.C (Kd.int .u8) wc A191_2 ((rd_T39 l0 (ji5)).f2).length ((rd_T39 l0 (ji5)).f2)) ∧ Aside0 (Below w.heap.size w wc))
     case first =>
      have H:=HC8.out
      clear HC8
      replace H:=Option.bind_eq_some_iff.mp H
      obtain ⟨t193,A180,H⟩:=H
      replace H:(if t193 = true then ((ref26_Literal.f a1_0 a1_1 y188).bind fun t194=>(ref26_Add.j0 k l0 ji5 t194 a1_0 a1_1 y188 ((rd_T39 l0 (ji5)).f0) ((rd_T39 l0 (ji5)).f1) ((rd_T39 l0 (ji5)).f2))) else (ref26_Add.j0 k l0 ji5 false a1_0 a1_1 y188 ((rd_T39 l0 (ji5)).f0) ((rd_T39 l0 (ji5)).f1) ((rd_T39 l0 (ji5)).f2))) = some r:=H
      have A18:=Aside0.mk A180
      clear A180
      by_cases c19:t193 = true
      ·subst c19
       have H1:((ref26_Literal.f a1_0 a1_1 y188).bind fun t194=>(ref26_Add.j0 k l0 ji5 t194 a1_0 a1_1 y188 ((rd_T39 l0 (ji5)).f0) ((rd_T39 l0 (ji5)).f1) ((rd_T39 l0 (ji5)).f2))) = some r:=by rw [if_pos rfl] at H;exact H
       clear H
       have H:=H1
       clear H1
       replace H:=Option.bind_eq_some_iff.mp H
       obtain ⟨t194,A200,H⟩:=H
       replace H:(ref26_Add.j0 k l0 ji5 t194 a1_0 a1_1 y188 ((rd_T39 l0 (ji5)).f0) ((rd_T39 l0 (ji5)).f1) ((rd_T39 l0 (ji5)).f2)) = some r:=H
       have A20:=Aside0.mk A200
       clear A200
       have H':=Aside0.mk H
       clear H
       have hnb21:=NB192_187.out
       have hnc21:=NB187_192.out
       have hcz22_0:w15.cell? ⟨gb192,0,none⟩ = some (.int .i64 0):=(blk_cell BK192.out 0).trans rfl
       have hcz22_1:w15.cell? ⟨gb192,1,none⟩ = some (.int .i64 0):=(blk_cell BK192.out 1).trans rfl
       have hcz22_2:w15.cell? ⟨gb192,2,none⟩ = some (.slice none 0 0):=(blk_cell BK192.out 2).trans rfl
       have hfz22_0:=blk_frozen BK192.out 0
       have hfz22_1:=blk_frozen BK192.out 1
       have hfz22_2:=blk_frozen BK192.out 2
       go_wp2_with (first|((with_reducible refine gate_callee (f:=49) rfl ?_);refine goesL_ (some 21) rfl rfl Try.func49 (by kernel_rfl) rfl #[.agg #[.int .i64 ((rd_T39 l0 (ji5)).f0),.int .i64 ((rd_T39 l0 (ji5)).f1),.slice A191_2 ((rd_T39 l0 (ji5)).f2).length c191_2]] rfl (by (try simp only [List.map_toArray,List.map_cons,List.map_nil]);first|done|(simp only [hji5];rfl)|rfl|(simp only [List.length_drop,List.length_take];rfl)) ?_;(with_reducible refine (ref26_Literal.calls ((rd_T39 l0 (ji5)).f0) ((rd_T39 l0 (ji5)).f1) _ _ ((rd_T39 l0 (ji5)).f2) true _ ?side1 ?side2 A18.out).mono ?_);(case side1=>repeat (first|exact ((Kd.V_reads' (by (with_reducible repeat (first|apply Kd.V_alloc|apply Kd.V_drewN|apply Kd.V_drew));exact (Kd.V_mono (Kd.V_far (p:=⟨gb192,2,none⟩) (Kd.V_far (p:=⟨gb192,1,none⟩) (Kd.V_far (p:=⟨gb192,0,none⟩) (Kd.V_mono HL191_2.out (fun k_ hk=>(⟨hk,hk.2⟩:_ ∧ k_ ≠ gb192))) (fun _ hk=>hk.2) (.int .i64 ((rd_T39 l0 (ji5)).f0))) (fun _ hk=>hk.2) (.int .i64 ((rd_T39 l0 (ji5)).f1))) (fun _ hk=>hk.2) (.slice A191_2 ((rd_T39 l0 (ji5)).f2).length c191_2)) (fun _ h_=>h_.1)))).2.2)|(with_reducible refine Kd.C_alloc ?_ _)|(with_reducible refine Kd.C_drewN ?_ _)|(with_reducible refine Kd.C_drew ?_)));(case side2=>exact HC191_2.out);rintro e w23 ⟨rfl,hb⟩;refine ⟨_,rfl,?_⟩;have n0_:=Aside0.mk (Kd.V_below (by (with_reducible repeat (first|apply Kd.V_alloc|apply Kd.V_drewN|apply Kd.V_drew));exact (Kd.V_mono (Kd.V_far (p:=⟨gb192,2,none⟩) (Kd.V_far (p:=⟨gb192,1,none⟩) (Kd.V_far (p:=⟨gb192,0,none⟩) (Kd.V_mono HO0.out (fun k_ hk=>(⟨hk,hk.2⟩:_ ∧ k_ ≠ gb192))) (fun _ hk=>hk.2) (.int .i64 ((rd_T39 l0 (ji5)).f0))) (fun _ hk=>hk.2) (.int .i64 ((rd_T39 l0 (ji5)).f1))) (fun _ hk=>hk.2) (.slice A191_2 ((rd_T39 l0 (ji5)).f2).length c191_2)) (fun _ h_=>h_.1))) hb);have n1_:=Aside0.mk (Kd.R_below (by (with_reducible repeat (first|apply Kd.R_alloc|apply Kd.R_drewN|apply Kd.R_drew));exact (Kd.R_mono (Kd.R_far (p:=⟨gb192,2,none⟩) (Kd.R_far (p:=⟨gb192,1,none⟩) (Kd.R_far (p:=⟨gb192,0,none⟩) (Kd.R_types HO190.out BK192.out (by decide)) (fun _ hk=>hk.2) (.int .i64 ((rd_T39 l0 (ji5)).f0))) (fun _ hk=>hk.2) (.int .i64 ((rd_T39 l0 (ji5)).f1))) (fun _ hk=>hk.2) (.slice A191_2 ((rd_T39 l0 (ji5)).f2).length c191_2)) (fun _ h_=>h_.1))) hb);have n2_:=Aside0.mk (Kd.V_below (by (with_reducible repeat (first|apply Kd.V_alloc|apply Kd.V_drewN|apply Kd.V_drew));exact (Kd.V_mono (Kd.V_far (p:=⟨gb192,2,none⟩) (Kd.V_far (p:=⟨gb192,1,none⟩) (Kd.V_far (p:=⟨gb192,0,none⟩) (Kd.V_mono HL191_2.out (fun k_ hk=>(⟨hk,hk.2⟩:_ ∧ k_ ≠ gb192))) (fun _ hk=>hk.2) (.int .i64 ((rd_T39 l0 (ji5)).f0))) (fun _ hk=>hk.2) (.int .i64 ((rd_T39 l0 (ji5)).f1))) (fun _ hk=>hk.2) (.slice A191_2 ((rd_T39 l0 (ji5)).f2).length c191_2)) (fun _ h_=>h_.1))) hb);have n3_:=Aside0.mk (blk_below (g:=gb187) (o:=.cells #[.int .i64 a1_0,.int .i64 a1_1,.slice Ao12 y188.length co12] 39 (0,0)) (by (with_reducible repeat (first|refine blk_drewN ?_ _|refine blk_drew ?_|refine blk_alloc ?_ _));refine blk_far ?_ NB187_192.out _;(with_reducible repeat (first|refine blk_drewN ?_ _|refine blk_drew ?_|refine blk_alloc ?_ _));refine blk_far ?_ NB187_192.out _;(with_reducible repeat (first|refine blk_drewN ?_ _|refine blk_drew ?_|refine blk_alloc ?_ _));refine blk_far ?_ NB187_192.out _;(with_reducible repeat (first|refine blk_drewN ?_ _|refine blk_drew ?_|refine blk_alloc ?_ _));exact BK187.out) hb);have n4_:=Aside0.mk (Kd.C_below ((Kd.V_reads' (by (with_reducible repeat (first|apply Kd.V_alloc|apply Kd.V_drewN|apply Kd.V_drew));exact (Kd.V_mono (Kd.V_far (p:=⟨gb192,2,none⟩) (Kd.V_far (p:=⟨gb192,1,none⟩) (Kd.V_far (p:=⟨gb192,0,none⟩) (Kd.V_mono HL191_2.out (fun k_ hk=>(⟨hk,hk.2⟩:_ ∧ k_ ≠ gb192))) (fun _ hk=>hk.2) (.int .i64 ((rd_T39 l0 (ji5)).f0))) (fun _ hk=>hk.2) (.int .i64 ((rd_T39 l0 (ji5)).f1))) (fun _ hk=>hk.2) (.slice A191_2 ((rd_T39 l0 (ji5)).f2).length c191_2)) (fun _ h_=>h_.1)))).2.2) hb);have n5_:=Aside0.mk (blk_below (g:=gb192) (o:=.cells #[.int .i64 ((rd_T39 l0 (ji5)).f0),.int .i64 ((rd_T39 l0 (ji5)).f1),.slice A191_2 ((rd_T39 l0 (ji5)).f2).length c191_2] 39 (0,0)) (by (with_reducible repeat (first|refine blk_drewN ?_ _|refine blk_drew ?_|refine blk_alloc ?_ _));refine blk_put (cs:=#[.int .i64 ((rd_T39 l0 (ji5)).f0),.int .i64 ((rd_T39 l0 (ji5)).f1),.slice none 0 0]) ?_ 2 _ rfl;(with_reducible repeat (first|refine blk_drewN ?_ _|refine blk_drew ?_|refine blk_alloc ?_ _));refine blk_put (cs:=#[.int .i64 ((rd_T39 l0 (ji5)).f0),.int .i64 0,.slice none 0 0]) ?_ 1 _ rfl;(with_reducible repeat (first|refine blk_drewN ?_ _|refine blk_drew ?_|refine blk_alloc ?_ _));refine blk_put (cs:=#[.int .i64 0,.int .i64 0,.slice none 0 0]) ?_ 0 _ rfl;(with_reducible repeat (first|refine blk_drewN ?_ _|refine blk_drew ?_|refine blk_alloc ?_ _));exact BK192.out) hb);have n6_:=Aside0.mk (below_step (by repeat (first|(with_reducible first|exact HB.out|apply below_alloc|apply pw_below_drewN|apply below_drew1|refine below_set ?_ GE187.out|refine below_set ?_ GE192.out)|exact HB.out)) hb);clear HO0;clear HO190;clear HL191_2;clear BK187;clear HR191_2;clear BK192;clear HB;have HO0:=n0_;have HO190:=n1_;have HL191_2:=n2_;have BK187:=n3_;have HR191_2:=n4_;have BK192:=n5_;have HB:=n6_;clear n0_ n1_ n2_ n3_ n4_ n5_ n6_;(try clear hb);(try clear hb2);(try clear hk);(try clear hi);have hcz24_0:w23.cell? ⟨gb187,0,none⟩ = some (.int .i64 a1_0):=(blk_cell BK187.out 0).trans rfl;have hcz24_1:w23.cell? ⟨gb187,1,none⟩ = some (.int .i64 a1_1):=(blk_cell BK187.out 1).trans rfl;have hcz24_2:w23.cell? ⟨gb187,2,none⟩ = some (.slice Ao12 y188.length co12):=(blk_cell BK187.out 2).trans rfl;have hfz24_0:=blk_frozen BK187.out 0;have hfz24_1:=blk_frozen BK187.out 1;have hfz24_2:=blk_frozen BK187.out 2)|(go_at_call 49;(with_reducible refine (ref26_Literal.calls a1_0 a1_1 _ _ y188 t194 _ ?side1 ?side2 A20.out).mono ?_);(case side1=>repeat (first|exact (Kd.R_reads' HO190.out).2.2|(with_reducible refine Kd.C_alloc ?_ _)|(with_reducible refine Kd.C_drewN ?_ _)|(with_reducible refine Kd.C_drew ?_)));(case side2=>exact (Kd.R_reads' HO190.out).2.1);rintro e w25 ⟨rfl,hb⟩;have n0_:=Aside0.mk (Kd.V_below (by (with_reducible repeat (first|apply Kd.V_alloc|apply Kd.V_drewN|apply Kd.V_drew));exact HO0.out) hb);have n1_:=Aside0.mk (Kd.R_below (by (with_reducible repeat (first|apply Kd.R_alloc|apply Kd.R_drewN|apply Kd.R_drew));exact HO190.out) hb);have n2_:=Aside0.mk (Kd.V_below (by (with_reducible repeat (first|apply Kd.V_alloc|apply Kd.V_drewN|apply Kd.V_drew));exact HL191_2.out) hb);have n3_:=Aside0.mk (blk_below (g:=gb187) (o:=.cells #[.int .i64 a1_0,.int .i64 a1_1,.slice Ao12 y188.length co12] 39 (0,0)) (by (with_reducible repeat (first|refine blk_drewN ?_ _|refine blk_drew ?_|refine blk_alloc ?_ _));exact BK187.out) hb);have n4_:=Aside0.mk (Kd.C_below (by repeat (first|(with_reducible exact HR191_2.out)|(with_reducible refine Kd.C_alloc ?_ _)|(with_reducible refine Kd.C_drewN ?_ _)|(with_reducible refine Kd.C_drew ?_)|exact HR191_2.out)) hb);have n5_:=Aside0.mk (blk_below (g:=gb192) (o:=.cells #[.int .i64 ((rd_T39 l0 (ji5)).f0),.int .i64 ((rd_T39 l0 (ji5)).f1),.slice A191_2 ((rd_T39 l0 (ji5)).f2).length c191_2] 39 (0,0)) (by (with_reducible repeat (first|refine blk_drewN ?_ _|refine blk_drew ?_|refine blk_alloc ?_ _));exact BK192.out) hb);have n6_:=Aside0.mk (below_step (by repeat (first|(with_reducible first|exact HB.out|apply below_alloc|apply pw_below_drewN|apply below_drew1|refine below_set ?_ GE187.out|refine below_set ?_ GE192.out)|exact HB.out)) hb);clear HO0;clear HO190;clear HL191_2;clear BK187;clear HR191_2;clear BK192;clear HB;have HO0:=n0_;have HO190:=n1_;have HL191_2:=n2_;have BK187:=n3_;have HR191_2:=n4_;have BK192:=n5_;have HB:=n6_;clear n0_ n1_ n2_ n3_ n4_ n5_ n6_;(try clear hb);(try clear hb2);(try clear hk);(try clear hi)))
       go_meet
       case rel=>exact ⟨_,(t194),(by first|rfl|(simp;done)|(simp [*];done)),H',⟨by first|omega|exact Nat.le_refl _⟩,⟨by (with_reducible repeat (first|apply Kd.V_alloc|apply Kd.V_drewN|apply Kd.V_drew));exact Kd.V_mono HO0.out (fun _ hk=>⟨hk.1.1,⟨hk.1.2.1,⟨hk.1.2.2,hk.2⟩⟩⟩)⟩,⟨by (with_reducible repeat (first|apply Kd.R_alloc|apply Kd.R_drewN|apply Kd.R_drew));exact HO190.out⟩,⟨by (with_reducible repeat (first|apply Kd.V_alloc|apply Kd.V_drewN|apply Kd.V_drew));exact Kd.V_mono HL191_2.out (fun _ hk=>⟨hk.1.1,⟨hk.1.2.1,⟨hk.1.2.2,hk.2⟩⟩⟩)⟩,⟨by (with_reducible repeat (first|refine blk_drewN ?_ _|refine blk_drew ?_|refine blk_alloc ?_ _));exact BK187.out⟩,⟨by (with_reducible repeat (first|refine blk_drewN ?_ _|refine blk_drew ?_|refine blk_alloc ?_ _));exact BK192.out⟩,⟨by repeat (first|(with_reducible exact HR191_2.out)|(with_reducible refine Kd.C_alloc ?_ _)|(with_reducible refine Kd.C_drewN ?_ _)|(with_reducible refine Kd.C_drew ?_)|exact HR191_2.out)⟩,⟨by repeat (first|(with_reducible first|exact HB.out|apply below_alloc|apply pw_below_drewN|apply below_drew1|refine below_set ?_ GE187.out|refine below_set ?_ GE192.out)|exact HB.out)⟩⟩
      ·replace c19:=Bool.eq_false_iff.mpr c19
       subst c19
       have H1:(ref26_Add.j0 k l0 ji5 false a1_0 a1_1 y188 ((rd_T39 l0 (ji5)).f0) ((rd_T39 l0 (ji5)).f1) ((rd_T39 l0 (ji5)).f2)) = some r:=by rw [if_neg (show ¬ (false = true) by decide)] at H;exact H
       clear H
       have H:=H1
       clear H1
       have H':=Aside0.mk H
       clear H
       have hnb26:=NB192_187.out
       have hnc26:=NB187_192.out
       have hcz27_0:w15.cell? ⟨gb192,0,none⟩ = some (.int .i64 0):=(blk_cell BK192.out 0).trans rfl
       have hcz27_1:w15.cell? ⟨gb192,1,none⟩ = some (.int .i64 0):=(blk_cell BK192.out 1).trans rfl
       have hcz27_2:w15.cell? ⟨gb192,2,none⟩ = some (.slice none 0 0):=(blk_cell BK192.out 2).trans rfl
       have hfz27_0:=blk_frozen BK192.out 0
       have hfz27_1:=blk_frozen BK192.out 1
       have hfz27_2:=blk_frozen BK192.out 2
       go_wp2_with (first|((with_reducible refine gate_callee (f:=49) rfl ?_);refine goesL_ (some 21) rfl rfl Try.func49 (by kernel_rfl) rfl #[.agg #[.int .i64 ((rd_T39 l0 (ji5)).f0),.int .i64 ((rd_T39 l0 (ji5)).f1),.slice A191_2 ((rd_T39 l0 (ji5)).f2).length c191_2]] rfl (by (try simp only [List.map_toArray,List.map_cons,List.map_nil]);first|done|(simp only [hji5];rfl)|rfl|(simp only [List.length_drop,List.length_take];rfl)) ?_;(with_reducible refine (ref26_Literal.calls ((rd_T39 l0 (ji5)).f0) ((rd_T39 l0 (ji5)).f1) _ _ ((rd_T39 l0 (ji5)).f2) false _ ?side1 ?side2 A18.out).mono ?_);(case side1=>repeat (first|exact ((Kd.V_reads' (by (with_reducible repeat (first|apply Kd.V_alloc|apply Kd.V_drewN|apply Kd.V_drew));exact (Kd.V_mono (Kd.V_far (p:=⟨gb192,2,none⟩) (Kd.V_far (p:=⟨gb192,1,none⟩) (Kd.V_far (p:=⟨gb192,0,none⟩) (Kd.V_mono HL191_2.out (fun k_ hk=>(⟨hk,hk.2⟩:_ ∧ k_ ≠ gb192))) (fun _ hk=>hk.2) (.int .i64 ((rd_T39 l0 (ji5)).f0))) (fun _ hk=>hk.2) (.int .i64 ((rd_T39 l0 (ji5)).f1))) (fun _ hk=>hk.2) (.slice A191_2 ((rd_T39 l0 (ji5)).f2).length c191_2)) (fun _ h_=>h_.1)))).2.2)|(with_reducible refine Kd.C_alloc ?_ _)|(with_reducible refine Kd.C_drewN ?_ _)|(with_reducible refine Kd.C_drew ?_)));(case side2=>exact HC191_2.out);rintro e w28 ⟨rfl,hb⟩;refine ⟨_,rfl,?_⟩;have n0_:=Aside0.mk (Kd.V_below (by (with_reducible repeat (first|apply Kd.V_alloc|apply Kd.V_drewN|apply Kd.V_drew));exact (Kd.V_mono (Kd.V_far (p:=⟨gb192,2,none⟩) (Kd.V_far (p:=⟨gb192,1,none⟩) (Kd.V_far (p:=⟨gb192,0,none⟩) (Kd.V_mono HO0.out (fun k_ hk=>(⟨hk,hk.2⟩:_ ∧ k_ ≠ gb192))) (fun _ hk=>hk.2) (.int .i64 ((rd_T39 l0 (ji5)).f0))) (fun _ hk=>hk.2) (.int .i64 ((rd_T39 l0 (ji5)).f1))) (fun _ hk=>hk.2) (.slice A191_2 ((rd_T39 l0 (ji5)).f2).length c191_2)) (fun _ h_=>h_.1))) hb);have n1_:=Aside0.mk (Kd.R_below (by (with_reducible repeat (first|apply Kd.R_alloc|apply Kd.R_drewN|apply Kd.R_drew));exact (Kd.R_mono (Kd.R_far (p:=⟨gb192,2,none⟩) (Kd.R_far (p:=⟨gb192,1,none⟩) (Kd.R_far (p:=⟨gb192,0,none⟩) (Kd.R_types HO190.out BK192.out (by decide)) (fun _ hk=>hk.2) (.int .i64 ((rd_T39 l0 (ji5)).f0))) (fun _ hk=>hk.2) (.int .i64 ((rd_T39 l0 (ji5)).f1))) (fun _ hk=>hk.2) (.slice A191_2 ((rd_T39 l0 (ji5)).f2).length c191_2)) (fun _ h_=>h_.1))) hb);have n2_:=Aside0.mk (Kd.V_below (by (with_reducible repeat (first|apply Kd.V_alloc|apply Kd.V_drewN|apply Kd.V_drew));exact (Kd.V_mono (Kd.V_far (p:=⟨gb192,2,none⟩) (Kd.V_far (p:=⟨gb192,1,none⟩) (Kd.V_far (p:=⟨gb192,0,none⟩) (Kd.V_mono HL191_2.out (fun k_ hk=>(⟨hk,hk.2⟩:_ ∧ k_ ≠ gb192))) (fun _ hk=>hk.2) (.int .i64 ((rd_T39 l0 (ji5)).f0))) (fun _ hk=>hk.2) (.int .i64 ((rd_T39 l0 (ji5)).f1))) (fun _ hk=>hk.2) (.slice A191_2 ((rd_T39 l0 (ji5)).f2).length c191_2)) (fun _ h_=>h_.1))) hb);have n3_:=Aside0.mk (blk_below (g:=gb187) (o:=.cells #[.int .i64 a1_0,.int .i64 a1_1,.slice Ao12 y188.length co12] 39 (0,0)) (by (with_reducible repeat (first|refine blk_drewN ?_ _|refine blk_drew ?_|refine blk_alloc ?_ _));refine blk_far ?_ NB187_192.out _;(with_reducible repeat (first|refine blk_drewN ?_ _|refine blk_drew ?_|refine blk_alloc ?_ _));refine blk_far ?_ NB187_192.out _;(with_reducible repeat (first|refine blk_drewN ?_ _|refine blk_drew ?_|refine blk_alloc ?_ _));refine blk_far ?_ NB187_192.out _;(with_reducible repeat (first|refine blk_drewN ?_ _|refine blk_drew ?_|refine blk_alloc ?_ _));exact BK187.out) hb);have n4_:=Aside0.mk (Kd.C_below ((Kd.V_reads' (by (with_reducible repeat (first|apply Kd.V_alloc|apply Kd.V_drewN|apply Kd.V_drew));exact (Kd.V_mono (Kd.V_far (p:=⟨gb192,2,none⟩) (Kd.V_far (p:=⟨gb192,1,none⟩) (Kd.V_far (p:=⟨gb192,0,none⟩) (Kd.V_mono HL191_2.out (fun k_ hk=>(⟨hk,hk.2⟩:_ ∧ k_ ≠ gb192))) (fun _ hk=>hk.2) (.int .i64 ((rd_T39 l0 (ji5)).f0))) (fun _ hk=>hk.2) (.int .i64 ((rd_T39 l0 (ji5)).f1))) (fun _ hk=>hk.2) (.slice A191_2 ((rd_T39 l0 (ji5)).f2).length c191_2)) (fun _ h_=>h_.1)))).2.2) hb);have n5_:=Aside0.mk (blk_below (g:=gb192) (o:=.cells #[.int .i64 ((rd_T39 l0 (ji5)).f0),.int .i64 ((rd_T39 l0 (ji5)).f1),.slice A191_2 ((rd_T39 l0 (ji5)).f2).length c191_2] 39 (0,0)) (by (with_reducible repeat (first|refine blk_drewN ?_ _|refine blk_drew ?_|refine blk_alloc ?_ _));refine blk_put (cs:=#[.int .i64 ((rd_T39 l0 (ji5)).f0),.int .i64 ((rd_T39 l0 (ji5)).f1),.slice none 0 0]) ?_ 2 _ rfl;(with_reducible repeat (first|refine blk_drewN ?_ _|refine blk_drew ?_|refine blk_alloc ?_ _));refine blk_put (cs:=#[.int .i64 ((rd_T39 l0 (ji5)).f0),.int .i64 0,.slice none 0 0]) ?_ 1 _ rfl;(with_reducible repeat (first|refine blk_drewN ?_ _|refine blk_drew ?_|refine blk_alloc ?_ _));refine blk_put (cs:=#[.int .i64 0,.int .i64 0,.slice none 0 0]) ?_ 0 _ rfl;(with_reducible repeat (first|refine blk_drewN ?_ _|refine blk_drew ?_|refine blk_alloc ?_ _));exact BK192.out) hb);have n6_:=Aside0.mk (below_step (by repeat (first|(with_reducible first|exact HB.out|apply below_alloc|apply pw_below_drewN|apply below_drew1|refine below_set ?_ GE187.out|refine below_set ?_ GE192.out)|exact HB.out)) hb);clear HO0;clear HO190;clear HL191_2;clear BK187;clear HR191_2;clear BK192;clear HB;have HO0:=n0_;have HO190:=n1_;have HL191_2:=n2_;have BK187:=n3_;have HR191_2:=n4_;have BK192:=n5_;have HB:=n6_;clear n0_ n1_ n2_ n3_ n4_ n5_ n6_;(try clear hb);(try clear hb2);(try clear hk);(try clear hi)))
       go_meet
       case rel=>exact ⟨_,(false),(by first|rfl|(simp;done)|(simp [*];done)),H',⟨by first|omega|exact Nat.le_refl _⟩,⟨by (with_reducible repeat (first|apply Kd.V_alloc|apply Kd.V_drewN|apply Kd.V_drew));exact Kd.V_mono HO0.out (fun _ hk=>⟨hk.1.1,⟨hk.1.2.1,⟨hk.1.2.2,hk.2⟩⟩⟩)⟩,⟨by (with_reducible repeat (first|apply Kd.R_alloc|apply Kd.R_drewN|apply Kd.R_drew));exact HO190.out⟩,⟨by (with_reducible repeat (first|apply Kd.V_alloc|apply Kd.V_drewN|apply Kd.V_drew));exact Kd.V_mono HL191_2.out (fun _ hk=>⟨hk.1.1,⟨hk.1.2.1,⟨hk.1.2.2,hk.2⟩⟩⟩)⟩,⟨by (with_reducible repeat (first|refine blk_drewN ?_ _|refine blk_drew ?_|refine blk_alloc ?_ _));exact BK187.out⟩,⟨by (with_reducible repeat (first|refine blk_drewN ?_ _|refine blk_drew ?_|refine blk_alloc ?_ _));exact BK192.out⟩,⟨by repeat (first|(with_reducible exact HR191_2.out)|(with_reducible refine Kd.C_alloc ?_ _)|(with_reducible refine Kd.C_drewN ?_ _)|(with_reducible refine Kd.C_drew ?_)|exact HR191_2.out)⟩,⟨by repeat (first|(with_reducible first|exact HB.out|apply below_alloc|apply pw_below_drewN|apply below_drew1|refine below_set ?_ GE187.out|refine below_set ?_ GE192.out)|exact HB.out)⟩⟩
     case rest =>
      clear HC8
      try clear c1
      try clear p1
      try clear q1
      try clear hx1
      try clear c2
      try clear p2
      try clear c3
      try clear c4
      try clear c4b0
      try clear c6
      try clear c6b0
      try clear p6
      try clear c7
      try clear c7b0
      try clear c16
      try clear c19
      try clear p19
      try clear q19
      try clear hx19
      try clear c21
      try clear c26
      try clear hcz10_0
      try clear hcz10_1
      try clear hcz10_2
      try clear hcz13_0
      try clear hcz13_1
      try clear hcz13_2
      try clear hcz17_0
      try clear hcz17_1
      try clear hcz17_2
      try clear hcz22_0
      try clear hcz22_1
      try clear hcz22_2
      try clear hcz24_0
      try clear hcz24_1
      try clear hcz24_2
      try clear hcz27_0
      try clear hcz27_1
      try clear hcz27_2
      try clear hfz10_0
      try clear hfz10_1
      try clear hfz10_2
      try clear hfz13_0
      try clear hfz13_1
      try clear hfz13_2
      try clear hfz17_0
      try clear hfz17_1
      try clear hfz17_2
      try clear hfz22_0
      try clear hfz22_1
      try clear hfz22_2
      try clear hfz24_0
      try clear hfz24_1
      try clear hfz24_2
      try clear hfz27_0
      try clear hfz27_1
      try clear hfz27_2
      try clear hx191_0
      try clear hx191_1
      try clear hx191_2
      try clear p191
      try clear q191
      obtain ⟨kq,x25_7,rfl,HA,HJ7,HO_0,HO_188002,HO_193002,BK187,BK192,HR191_2,HB⟩:=hcut
      cases kq with
      | zero=>exact absurd HA.out (by simp [ref26_Add.j0])
      | succ kj7 =>
       have H:=HA.out
       clear HA
       simp only [ref26_Add.j0] at H
       by_cases c29:x25_7 = true
       ·subst c29
        have H1:(if 0 ≤ ji5 then (if ji5 ≤ (l0.length:Int) then ((some (l0.take (ji5:Int).toNat:List (S39))).bind fun y195=>(if ([]:List (S39)).length + y195.length < 3518437208883 then ((some (([]:List (S39)) ++ y195:List (S39))).bind fun y200=>(if ([]:List Int).length + ((rd_T39 l0 (ji5)).f2).length < 140737488355328 then ((some (([]:List Int) ++ ((rd_T39 l0 (ji5)).f2):List Int)).bind fun y203=>(if y203.length + y188.length < 140737488355328 then ((some (([(⟨0,0,(y203 ++ y188)⟩:S39)]:List (S39)):List (S39))).bind fun y209=>(if y200.length + y209.length < 3518437208883 then (some (y200 ++ y209)) else (none))) else (none))) else (none))) else (none))) else (none)) else (none)) = some r:=by rw [if_pos rfl] at H;exact H
        clear H
        have H:=H1
        clear H1
        by_cases c30:0 ≤ ji5
        ·rw [if_pos c30] at H
         have c30b0:=eq_true c30
         have c30b1:decide (0 ≤ ji5) = true:=decide_eq_true c30
         clear c30
         by_cases c31:ji5 ≤ (l0.length:Int)
         ·rw [if_pos c31] at H
          have c31b0:=eq_true c31
          have c31b1:decide (ji5 ≤ (l0.length:Int)) = true:=decide_eq_true c31
          clear c31
          obtain ⟨y195,hy195⟩:∃ y_:List (S39),y_ = (l0.take (ji5:Int).toNat):=⟨_,rfl⟩
          replace H:(if ([]:List (S39)).length + y195.length < 3518437208883 then ((some (([]:List (S39)) ++ y195:List (S39))).bind fun y200=>(if ([]:List Int).length + ((rd_T39 l0 (ji5)).f2).length < 140737488355328 then ((some (([]:List Int) ++ ((rd_T39 l0 (ji5)).f2):List Int)).bind fun y203=>(if y203.length + y188.length < 140737488355328 then ((some (([(⟨0,0,(y203 ++ y188)⟩:S39)]:List (S39)):List (S39))).bind fun y209=>(if y200.length + y209.length < 3518437208883 then (some (y200 ++ y209)) else (none))) else (none))) else (none))) else (none)) = some r:=by first|(rw [hy195];with_reducible exact H)|(have H2_:=(Option.bind_some _ _).symm.trans H;rw [hy195];with_reducible exact H2_)|(have H2_:=(Option.bind_some _ _).symm.trans H;with_reducible exact H2_)|with_reducible exact H|(rw [hy195];exact H)|exact H
          have Ny195:=Aside0.mk hy195
          clear hy195
          by_cases c32:([]:List (S39)).length + y195.length < 3518437208883
          ·rw [if_pos c32] at H
           have LMc32:=Aside0.mk c32
           clear c32
           obtain ⟨y200,hy200⟩:∃ y_:List (S39),y_ = (([]:List (S39)) ++ y195):=⟨_,rfl⟩
           replace H:(if ([]:List Int).length + ((rd_T39 l0 (ji5)).f2).length < 140737488355328 then ((some (([]:List Int) ++ ((rd_T39 l0 (ji5)).f2):List Int)).bind fun y203=>(if y203.length + y188.length < 140737488355328 then ((some (([(⟨0,0,(y203 ++ y188)⟩:S39)]:List (S39)):List (S39))).bind fun y209=>(if y200.length + y209.length < 3518437208883 then (some (y200 ++ y209)) else (none))) else (none))) else (none)) = some r:=by first|(rw [hy200];with_reducible exact H)|(have H2_:=(Option.bind_some _ _).symm.trans H;rw [hy200];with_reducible exact H2_)|(have H2_:=(Option.bind_some _ _).symm.trans H;with_reducible exact H2_)|with_reducible exact H|(rw [hy200];exact H)|exact H
           have Ny200:=Aside0.mk hy200
           clear hy200
           by_cases c33:([]:List Int).length + ((rd_T39 l0 (ji5)).f2).length < 140737488355328
           ·rw [if_pos c33] at H
            have LMc33:=Aside0.mk c33
            clear c33
            obtain ⟨y203,hy203⟩:∃ y_:List Int,y_ = (([]:List Int) ++ ((rd_T39 l0 (ji5)).f2)):=⟨_,rfl⟩
            replace H:(if y203.length + y188.length < 140737488355328 then ((some (([(⟨0,0,(y203 ++ y188)⟩:S39)]:List (S39)):List (S39))).bind fun y209=>(if y200.length + y209.length < 3518437208883 then (some (y200 ++ y209)) else (none))) else (none)) = some r:=by first|(rw [hy203];with_reducible exact H)|(have H2_:=(Option.bind_some _ _).symm.trans H;rw [hy203];with_reducible exact H2_)|(have H2_:=(Option.bind_some _ _).symm.trans H;with_reducible exact H2_)|with_reducible exact H|(rw [hy203];exact H)|exact H
            have Ny203:=Aside0.mk hy203
            clear hy203
            by_cases c34:y203.length + y188.length < 140737488355328
            ·rw [if_pos c34] at H
             have LMc34:=Aside0.mk c34
             clear c34
             obtain ⟨y206,hy206⟩:∃ y_:List Int,y_ = (y203 ++ y188):=⟨_,rfl⟩
             replace H:((some (([(⟨0,0,y206⟩:S39)]:List (S39)):List (S39))).bind fun y209=>(if y200.length + y209.length < 3518437208883 then (some (y200 ++ y209)) else (none))) = some r:=by first|(rw [hy206];with_reducible exact H)|(have H2_:=(Option.bind_some _ _).symm.trans H;rw [hy206];with_reducible exact H2_)|(have H2_:=(Option.bind_some _ _).symm.trans H;with_reducible exact H2_)|with_reducible exact H|(rw [hy206];exact H)|exact H
             have Ny206:=Aside0.mk hy206
             clear hy206
             obtain ⟨y209,hy209⟩:∃ y_:List (S39),y_ = (([(⟨0,0,y206⟩:S39)]:List (S39))):=⟨_,rfl⟩
             replace H:(if y200.length + y209.length < 3518437208883 then (some (y200 ++ y209)) else (none)) = some r:=by first|(rw [hy209];with_reducible exact H)|(have H2_:=(Option.bind_some _ _).symm.trans H;rw [hy209];with_reducible exact H2_)|(have H2_:=(Option.bind_some _ _).symm.trans H;with_reducible exact H2_)|with_reducible exact H|(rw [hy209];exact H)|exact H
             have Ny209:=Aside0.mk hy209
             clear hy209
             by_cases c35:y200.length + y209.length < 3518437208883
             ·rw [if_pos c35] at H
              have LMc35:=Aside0.mk c35
              clear c35
              obtain ⟨y212,hy212⟩:∃ y_:List (S39),y_ = (y200 ++ y209):=⟨_,rfl⟩
              replace H:(some y212) = some r:=by first|(rw [hy212];with_reducible exact H)|(have H2_:=(Option.bind_some _ _).symm.trans H;rw [hy212];with_reducible exact H2_)|(have H2_:=(Option.bind_some _ _).symm.trans H;with_reducible exact H2_)|with_reducible exact H|(rw [hy212];exact H)|exact H
              have Ny212:=Aside0.mk hy212
              clear hy212
              obtain rfl:=Option.some.inj H
              try go_wp2
              have n0_:=Aside0.mk (Kd.V_drew HO_0.out)
              have n1_:=Aside0.mk (Kd.R_drew HO_188002.out)
              have n2_:=Aside0.mk (Kd.V_drew HO_193002.out)
              have n3_:=Aside0.mk (blk_drew BK187.out)
              have n4_:=Aside0.mk (blk_drew BK192.out)
              have n5_:=Aside0.mk (Kd.C_drew HR191_2.out)
              have n6_:=Aside0.mk (below_drew1 HB.out)
              clear HO_0
              clear HO_188002
              clear HO_193002
              clear BK187
              clear BK192
              clear HR191_2
              clear HB
              have HO_0:=n0_
              have HO_188002:=n1_
              have HO_193002:=n2_
              have BK187:=n3_
              have BK192:=n4_
              have HR191_2:=n5_
              have HB:=n6_
              clear n0_ n1_ n2_ n3_ n4_ n5_ n6_
              have q37:(ji5:Int) ≤ ((l0.length:Int):Int):=of_decide_eq_true (by first|(with_reducible assumption)|assumption)
              obtain ⟨i037,hi037,_,hsz37,_⟩:=info_parts info39
              have hroom37:l0.length ≤ c0:=(Kd.V_reads' HO_0.out).2.1
              have hC37:Kd.F k39 _ _ (some ad191) l0.length l0:=(Kd.V_at (base:=w.heap.size) HO_0.out).2.2
              have hcut37:=cut_to (P:=Try.prog) 29 39 .i64 Try.underlying29 hi037 (some ad191) l0.length c0 ji5 (of_decide_eq_true (by first|(with_reducible assumption)|assumption)) q37 hroom37
              have hr37:=Kd.F_take (m:=(ji5:Int).toNat) hC37 (by omega)
              have hy37:y195.length = (ji5:Int).toNat:=(by rw [Ny195.out,List.length_take];omega)
              rw [← Ny195.out] at hr37
              rw [← hy37] at hcut37
              have HO199:=Aside0.mk (show Kd.V k39 39 _ w.heap.size _ (.slice (some ad191) y195.length c0) y195 from Kd.V_mk (by omega) hr37)
              have HC199:=Aside0.mk (show y195.length ≤ c0 from by omega)
              clear hr37 hC37 hroom37 hi037 hsz37
              have KY37:=Aside0.mk hy37
              clear hy37
              replace q37:=eq_true q37
              refine start_ (n:=14) (S:=fun w'=>w'.cell? ⟨gb192,0,none⟩ = some (.int .i64 ((rd_T39 l0 (ji5)).f0)) ∧ w'.cell? ⟨gb192,1,none⟩ = some (.int .i64 ((rd_T39 l0 (ji5)).f1)) ∧ w'.cell? ⟨gb192,2,none⟩ = some (.slice A191_2 ((rd_T39 l0 (ji5)).f2).length c191_2) ∧ w'.cell? ⟨gb187,0,none⟩ = some (.int .i64 a1_0) ∧ w'.cell? ⟨gb187,1,none⟩ = some (.int .i64 a1_1) ∧ w'.cell? ⟨gb187,2,none⟩ = some (.slice Ao12 y188.length co12)) (ds:=[]) #[false,false,false,false,false,false,false,false,false,false,false,false,false,false] (by kernel_rfl) rfl rfl ⟨(blk_cell BK192.out 0).trans rfl,(blk_cell BK192.out 1).trans rfl,(blk_cell BK192.out 2).trans rfl,(blk_cell BK187.out 0).trans rfl,(blk_cell BK187.out 1).trans rfl,(blk_cell BK187.out 2).trans rfl⟩ (fun hHeld=>?_);refine with_tabW ref26_Add.tab6 ref26_Add.bits6 (fun HT_ HW_=>?_)
              generalize wc.drew = w36 at HO_0 HO_188002 HO_193002 BK187 BK192 HR191_2 HB HO199 hHeld ⊢
              refine pure_ (i:=0) (N:=some 26) (v:=?_) (a':=?_) #[true,false,false,false,false,false,false,false,false,false,false,false,false,false] rfl rfl (any_of HT_.out (by kernel_rfl)) (fun _ _ _ h=>h) (Or.inl ⟨by rfl,?_⟩) ?_ ?_
              rotate_left
              ·intro w'
               go_simp
               with_reducible rfl
              rotate_left
              ·simp only [Act.put,List.setIfInBounds_toArray,List.set_cons_zero,List.set_cons_succ,i64_w,i32_w]
               rfl
              refine pure_ (i:=1) (N:=some 27) (v:=?_) (a':=?_) #[true,true,false,false,false,false,false,false,false,false,false,false,false,false] rfl rfl (any_of HT_.out (by kernel_rfl)) (fun _ _ _ h=>h) (Or.inl ⟨by rfl,?_⟩) ?_ ?_
              rotate_left
              ·intro w'
               go_simp
               with_reducible rfl
              rotate_left
              ·simp only [Act.put,List.setIfInBounds_toArray,List.set_cons_zero,List.set_cons_succ,i64_w,i32_w]
               rfl
              refine pure_ (i:=2) (N:=some 28) (v:=?_) (a':=?_) #[true,true,true,false,false,false,false,false,false,false,false,false,false,false] rfl rfl (any_of HT_.out (by kernel_rfl)) (fun _ _ _ h=>h) (Or.inl ⟨by rfl,?_⟩) ?_ ?_
              rotate_left
              ·intro w'
               go_simp
               with_reducible rfl
              rotate_left
              ·simp only [Act.put,List.setIfInBounds_toArray,List.set_cons_zero,List.set_cons_succ,i64_w,i32_w]
               rfl
              refine pure_ (i:=4) (N:=some 30) (v:=?_) (a':=?_) #[true,true,true,false,true,false,false,false,false,false,false,false,false,false] rfl rfl (any_of HT_.out (by kernel_rfl)) (fun _ _ _ h=>h) (Or.inl ⟨by rfl,?_⟩) ?_ ?_
              rotate_left
              ·intro w'
               go_simp
               with_reducible rfl
              rotate_left
              ·simp only [Act.put,List.setIfInBounds_toArray,List.set_cons_zero,List.set_cons_succ,i64_w,i32_w]
               rfl
              refine pure_ (i:=7) (N:=some 33) (v:=?_) (a':=?_) #[true,true,true,false,true,false,false,true,false,false,false,false,false,false] rfl rfl (any_of HT_.out (by kernel_rfl)) (fun _ _ _ h=>h) (Or.inl ⟨by rfl,?_⟩) ?_ ?_
              rotate_left
              ·intro w'
               go_simp
               with_reducible rfl
              rotate_left
              ·simp only [Act.put,List.setIfInBounds_toArray,List.set_cons_zero,List.set_cons_succ,i64_w,i32_w]
               rfl
              refine take_ (i:=5) (N:=some 31) (v:=?_) (a':=?_) #[true,true,true,false,true,true,false,true,false,false,false,false,false,false] rfl rfl (take_ofW HT_.out HW_.out (by kernel_rfl)) (fun _ _ _ h=>h) (Or.inl ⟨by rfl,?_⟩) hHeld ?_ ?_
              rotate_left
              ·rintro w' ⟨s0,s1,s2,s3,s4,s5⟩
               go_simp
               with_reducible rfl
              rotate_left
              ·simp only [Act.put,List.setIfInBounds_toArray,List.set_cons_zero,List.set_cons_succ,i64_w,i32_w]
               rfl
              refine take_ (i:=8) (N:=some 34) (v:=?_) (a':=?_) #[true,true,true,false,true,true,false,true,true,false,false,false,false,false] rfl rfl (take_ofW HT_.out HW_.out (by kernel_rfl)) (fun _ _ _ h=>h) (Or.inl ⟨by rfl,?_⟩) hHeld ?_ ?_
              rotate_left
              ·rintro w' ⟨s0,s1,s2,s3,s4,s5⟩
               go_simp
               with_reducible rfl
              rotate_left
              ·simp only [Act.put,List.setIfInBounds_toArray,List.set_cons_zero,List.set_cons_succ,i64_w,i32_w]
               rfl
              refine one_ (i:=3) (N:=some 29) #[true,true,true,true,true,true,false,true,true,false,false,false,false,false] rfl rfl (one_of HT_.out (by kernel_rfl)) (by decide) (fun K hK=>?_)
              refine Kd.N_append_rows_step k39 (w0:=w) w.heap.size (by rfl) (.const (.slice none 0 0)) (.tmp 28) 29 39 (.agg #[(.int .i64 0),(.int .i64 0),(.slice none 0 0)]) 40 rfl Try.underlying29 info39 rfl (by decide) (by omega) (.slice none 0 0) ([]:List (S39)) y195 _ _ _ (fun k_=>(P0_ k_ ∨ w.heap.size ≤ k_) ∧ some k_ ≠ (.slice Ao12 y188.length co12:Value).ownBlock ∧ k_ ≠ gb187 ∧ k_ ≠ gb192) (fun k_=>((fun k_=>(P0_ k_ ∨ w.heap.size ≤ k_) ∧ some k_ ≠ (.slice Ao12 y188.length co12:Value).ownBlock ∧ k_ ≠ gb187 ∧ k_ ≠ gb192)) k_ ∧ some k_ ≠ (.slice none 0 0:Value).ownBlock) rfl rfl ?aO ?aR (fun _ hk=>hk) ?aF ?aB ?aS ?aL ?_
              (case aR=>exact (by skip;exact Kd.V_F (Kd.V_mono (ok':=(fun k_=>((fun k_=>(P0_ k_ ∨ w.heap.size ≤ k_) ∧ some k_ ≠ (.slice Ao12 y188.length co12:Value).ownBlock ∧ k_ ≠ gb187 ∧ k_ ≠ gb192)) k_ ∧ some k_ ≠ (.slice none 0 0:Value).ownBlock)) (HO199.out) (fun k_ hk=>⟨⟨hk.1,⟨hk.2.1,⟨hk.2.2.1,hk.2.2.2⟩⟩⟩,(by simp [Value.ownBlock])⟩))))
              (case aB=>exact (by repeat (first|(with_reducible first|exact HB.out|apply below_alloc|apply pw_below_drewN|apply below_drew1|refine below_set ?_ GE187.out|refine below_set ?_ GE192.out)|exact HB.out)))
              (case aF=>exact (fun k_ hk=>⟨(.inr (Nat.le_trans (below_size (by repeat (first|(with_reducible first|exact HB.out|apply below_alloc|apply pw_below_drewN|apply below_drew1|refine below_set ?_ GE187.out|refine below_set ?_ GE192.out)|exact HB.out))) hk)),Kd.fresh' (Kd.R_lt (by (with_reducible repeat (first|apply Kd.R_alloc|apply Kd.R_drewN|apply Kd.R_drew));exact HO_188002.out)) k_ hk,Kd.freshB (g:=gb187) (o:=.cells #[.int .i64 a1_0,.int .i64 a1_1,.slice Ao12 y188.length co12] 39 (0,0)) (by (with_reducible repeat (first|refine blk_drewN ?_ _|refine blk_drew ?_|refine blk_alloc ?_ _));exact BK187.out) k_ hk,Kd.freshB (g:=gb192) (o:=.cells #[.int .i64 ((rd_T39 l0 (ji5)).f0),.int .i64 ((rd_T39 l0 (ji5)).f1),.slice A191_2 ((rd_T39 l0 (ji5)).f2).length c191_2] 39 (0,0)) (by (with_reducible repeat (first|refine blk_drewN ?_ _|refine blk_drew ?_|refine blk_alloc ?_ _));exact BK192.out) k_ hk⟩))
              (case aO=>exact ((Kd.N_nil _ _ _ _ (fun k_=>(P0_ k_ ∨ w.heap.size ≤ k_) ∧ some k_ ≠ (.slice Ao12 y188.length co12:Value).ownBlock ∧ k_ ≠ gb187 ∧ k_ ≠ gb192))))
              (case aS=>exact (below_size (by repeat (first|(with_reducible first|exact HB.out|apply below_alloc|apply pw_below_drewN|apply below_drew1|refine below_set ?_ GE187.out|refine below_set ?_ GE192.out)|exact HB.out))))
              (case aL=>have:=LMc32.out;omega)
              intro v201 w38 ho hb hg hat
              rw [← Ny200.out] at ho
              have n0_:=Aside0.mk (Kd.V_afterv (Kd.V_apart_nil (by (with_reducible repeat (first|apply Kd.V_alloc|apply Kd.V_drewN|apply Kd.V_drew));exact HO_0.out)) hg hat)
              have n1_:=Aside0.mk (Kd.R_grown (by (with_reducible repeat (first|apply Kd.R_alloc|apply Kd.R_drewN|apply Kd.R_drew));exact HO_188002.out) hg (fun _ _=>by simp [Value.ownBlock]))
              have n2_:=Aside0.mk (Kd.V_afterv (Kd.V_apart_nil (by (with_reducible repeat (first|apply Kd.V_alloc|apply Kd.V_drewN|apply Kd.V_drew));exact HO_193002.out)) hg hat)
              have n3_:=Aside0.mk (blk_grown (g:=gb187) (o:=.cells #[.int .i64 a1_0,.int .i64 a1_1,.slice Ao12 y188.length co12] 39 (0,0)) (by (with_reducible repeat (first|refine blk_drewN ?_ _|refine blk_drew ?_|refine blk_alloc ?_ _));exact BK187.out) hg (by simp [Value.ownBlock]))
              have n4_:=Aside0.mk (blk_grown (g:=gb192) (o:=.cells #[.int .i64 ((rd_T39 l0 (ji5)).f0),.int .i64 ((rd_T39 l0 (ji5)).f1),.slice A191_2 ((rd_T39 l0 (ji5)).f2).length c191_2] 39 (0,0)) (by (with_reducible repeat (first|refine blk_drewN ?_ _|refine blk_drew ?_|refine blk_alloc ?_ _));exact BK192.out) hg (by simp [Value.ownBlock]))
              have n5_:=Aside0.mk (Kd.V_afterv (Kd.V_apart_nil (by (with_reducible repeat (first|apply Kd.V_alloc|apply Kd.V_drewN|apply Kd.V_drew));exact HO199.out)) hg hat)
              have n6_:=Aside0.mk (hb)
              have n7_:=Aside0.mk (ho)
              clear HO_0
              clear HO_188002
              clear HO_193002
              clear BK187
              clear BK192
              clear HO199
              clear HB
              have HO_0:=n0_
              have HO_188002:=n1_
              have HO_193002:=n2_
              have BK187:=n3_
              have BK192:=n4_
              have HO199:=n5_
              have HB:=n6_
              have HO202:=n7_
              clear n0_ n1_ n2_ n3_ n4_ n5_ n6_ n7_
              clear ho hb hg hat
              refine hK.out _ _ ⟨(blk_cell BK192.out 0).trans rfl,(blk_cell BK192.out 1).trans rfl,(blk_cell BK192.out 2).trans rfl,(blk_cell BK187.out 0).trans rfl,(blk_cell BK187.out 1).trans rfl,(blk_cell BK187.out 2).trans rfl⟩ (fun hHeld=>?_)
              clear hK K
              refine norm_ (a':=?_) ?_ ?_
              rotate_left
              ·show Act.put _ (some 29) _ = _
               simp only [Act.put,List.setIfInBounds_toArray,List.set_cons_zero,List.set_cons_succ,i64_w,i32_w]
               rfl
              refine one_ (i:=6) (N:=some 32) #[true,true,true,true,true,true,true,true,true,false,false,false,false,false] rfl rfl (one_of HT_.out (by kernel_rfl)) (by decide) (fun K hK=>?_)
              refine Kd.R_append_rows_step (Kd.int .u8) (w0:=w) w.heap.size (by rfl) (.const (.slice none 0 0)) (.tmp 31) 26 5 (.int .u8 0) 1 rfl Try.underlying26 info5 rfl (by decide) (by omega) (.slice none 0 0) ([]:List Int) ((rd_T39 l0 (ji5)).f2) _ _ _ (fun k_=>(w.heap.size ≤ k_) ∧ some k_ ≠ (.slice Ao12 y188.length co12:Value).ownBlock) (fun _=>False) rfl rfl ?aO ?aR (fun _ _ h=>h) (fun _ h=>h.elim) ?aF ?aB ?aS ?aL ?_
              (case aR=>repeat (first|exact (Kd.V_reads' HO_193002.out).2.2|(with_reducible refine Kd.C_alloc ?_ _)|(with_reducible refine Kd.C_drewN ?_ _)|(with_reducible refine Kd.C_drew ?_)))
              (case aB=>exact (by repeat (first|(with_reducible first|exact HB.out|apply below_alloc|apply pw_below_drewN|apply below_drew1|refine below_set ?_ GE187.out|refine below_set ?_ GE192.out)|exact HB.out)))
              (case aF=>exact (fun k_ hk=>⟨(Nat.le_trans (below_size (by repeat (first|(with_reducible first|exact HB.out|apply below_alloc|apply pw_below_drewN|apply below_drew1|refine below_set ?_ GE187.out|refine below_set ?_ GE192.out)|exact HB.out))) hk),Kd.fresh' (Kd.R_lt (by (with_reducible repeat (first|apply Kd.R_alloc|apply Kd.R_drewN|apply Kd.R_drew));exact HO_188002.out)) k_ hk⟩))
              (case aO=>exact ((Kd.R_nil _ _ _ _ (fun k_=>(w.heap.size ≤ k_) ∧ some k_ ≠ (.slice Ao12 y188.length co12:Value).ownBlock))))
              (case aS=>exact (below_size (by repeat (first|(with_reducible first|exact HB.out|apply below_alloc|apply pw_below_drewN|apply below_drew1|refine below_set ?_ GE187.out|refine below_set ?_ GE192.out)|exact HB.out))))
              (case aL=>have:=LMc33.out;omega)
              intro v204 w39 ho hb hg hat
              rw [← Ny203.out] at ho
              have n0_:=Aside0.mk (Kd.V_afterv (Kd.V_apart_nil (by (with_reducible repeat (first|apply Kd.V_alloc|apply Kd.V_drewN|apply Kd.V_drew));exact HO_0.out)) hg hat)
              have n1_:=Aside0.mk (Kd.R_after (Kd.R_apart_nil (by (with_reducible repeat (first|apply Kd.R_alloc|apply Kd.R_drewN|apply Kd.R_drew));exact HO_188002.out)) hg hat)
              have n2_:=Aside0.mk (Kd.V_afterv (Kd.V_apart_nil (by (with_reducible repeat (first|apply Kd.V_alloc|apply Kd.V_drewN|apply Kd.V_drew));exact HO_193002.out)) hg hat)
              have n3_:=Aside0.mk (blk_grown (g:=gb187) (o:=.cells #[.int .i64 a1_0,.int .i64 a1_1,.slice Ao12 y188.length co12] 39 (0,0)) (by (with_reducible repeat (first|refine blk_drewN ?_ _|refine blk_drew ?_|refine blk_alloc ?_ _));exact BK187.out) hg (by simp [Value.ownBlock]))
              have n4_:=Aside0.mk (blk_grown (g:=gb192) (o:=.cells #[.int .i64 ((rd_T39 l0 (ji5)).f0),.int .i64 ((rd_T39 l0 (ji5)).f1),.slice A191_2 ((rd_T39 l0 (ji5)).f2).length c191_2] 39 (0,0)) (by (with_reducible repeat (first|refine blk_drewN ?_ _|refine blk_drew ?_|refine blk_alloc ?_ _));exact BK192.out) hg (by simp [Value.ownBlock]))
              have n5_:=Aside0.mk (Kd.V_afterv (Kd.V_apart_nil (by (with_reducible repeat (first|apply Kd.V_alloc|apply Kd.V_drewN|apply Kd.V_drew));exact HO199.out)) hg hat)
              have n6_:=Aside0.mk (Kd.N_afterv (Kd.N_apart_nil (by (with_reducible repeat (first|apply Kd.N_alloc|apply Kd.N_drewN|apply Kd.N_drew));exact HO202.out)) hg hat)
              have n7_:=Aside0.mk (hb)
              have n8_:=Aside0.mk (ho)
              clear HO_0
              clear HO_188002
              clear HO_193002
              clear BK187
              clear BK192
              clear HO199
              clear HO202
              clear HB
              have HO_0:=n0_
              have HO_188002:=n1_
              have HO_193002:=n2_
              have BK187:=n3_
              have BK192:=n4_
              have HO199:=n5_
              have HO202:=n6_
              have HB:=n7_
              have HO205:=n8_
              clear n0_ n1_ n2_ n3_ n4_ n5_ n6_ n7_ n8_
              clear ho hb hg hat
              refine hK.out _ _ ⟨(blk_cell BK192.out 0).trans rfl,(blk_cell BK192.out 1).trans rfl,(blk_cell BK192.out 2).trans rfl,(blk_cell BK187.out 0).trans rfl,(blk_cell BK187.out 1).trans rfl,(blk_cell BK187.out 2).trans rfl⟩ (fun hHeld=>?_)
              clear hK K
              refine norm_ (a':=?_) ?_ ?_
              rotate_left
              ·show Act.put _ (some 32) _ = _
               simp only [Act.put,List.setIfInBounds_toArray,List.set_cons_zero,List.set_cons_succ,i64_w,i32_w]
               rfl
              refine one_ (i:=9) (N:=some 35) #[true,true,true,true,true,true,true,true,true,true,false,false,false,false] rfl rfl (one_of HT_.out (by kernel_rfl)) (by decide) (fun K hK=>?_)
              refine Kd.R_append_rows_step (Kd.int .u8) (w0:=w) w.heap.size (by rfl) (.tmp 32) (.tmp 34) 26 5 (.int .u8 0) 1 rfl Try.underlying26 info5 rfl (by decide) (by omega) v204 y203 y188 _ _ _ (fun k_=>(w.heap.size ≤ k_) ∧ some k_ ≠ (.slice Ao12 y188.length co12:Value).ownBlock) (fun _=>False) rfl rfl ?aO ?aR (fun _ _ h=>h) (fun _ h=>h.elim) ?aF ?aB ?aS ?aL ?_
              (case aR=>repeat (first|exact (Kd.R_reads' HO_188002.out).2.2|(with_reducible refine Kd.C_alloc ?_ _)|(with_reducible refine Kd.C_drewN ?_ _)|(with_reducible refine Kd.C_drew ?_)))
              (case aB=>exact (by repeat (first|(with_reducible first|exact HB.out|apply below_alloc|apply pw_below_drewN|apply below_drew1|refine below_set ?_ GE187.out|refine below_set ?_ GE192.out)|exact HB.out)))
              (case aF=>exact (fun k_ hk=>⟨(Nat.le_trans (below_size (by repeat (first|(with_reducible first|exact HB.out|apply below_alloc|apply pw_below_drewN|apply below_drew1|refine below_set ?_ GE187.out|refine below_set ?_ GE192.out)|exact HB.out))) hk),Kd.fresh' (Kd.R_lt (by (with_reducible repeat (first|apply Kd.R_alloc|apply Kd.R_drewN|apply Kd.R_drew));exact HO_188002.out)) k_ hk⟩))
              (case aO=>exact (by (with_reducible repeat (first|apply Kd.R_alloc|apply Kd.R_drewN|apply Kd.R_drew));exact HO205.out))
              (case aS=>exact (below_size (by repeat (first|(with_reducible first|exact HB.out|apply below_alloc|apply pw_below_drewN|apply below_drew1|refine below_set ?_ GE187.out|refine below_set ?_ GE192.out)|exact HB.out))))
              (case aL=>have:=LMc34.out;omega)
              intro v207 w40 ho hb hg hat
              rw [← Ny206.out] at ho
              have n0_:=Aside0.mk (Kd.V_afterv (ok:=(fun k_=>(P0_ k_ ∨ w.heap.size ≤ k_) ∧ some k_ ≠ (.slice Ao12 y188.length co12:Value).ownBlock ∧ some k_ ≠ (v201:Value).ownBlock ∧ k_ ≠ gb187 ∧ k_ ≠ gb192)) (by (with_reducible repeat (first|apply Kd.V_alloc|apply Kd.V_drewN|apply Kd.V_drew));exact Kd.V_mono HO_0.out (fun _ hk=>⟨⟨hk.1.1.1,⟨hk.1.1.2.1,⟨hk.1.2,⟨hk.1.1.2.2.1,hk.1.1.2.2.2⟩⟩⟩⟩,hk.2⟩)) hg hat)
              have n1_:=Aside0.mk (Kd.R_after (ok:=(fun k_=>(w.heap.size ≤ k_))) (by (with_reducible repeat (first|apply Kd.R_alloc|apply Kd.R_drewN|apply Kd.R_drew));exact HO_188002.out) hg hat)
              have n2_:=Aside0.mk (Kd.V_afterv (ok:=(fun k_=>(P0_ k_ ∨ w.heap.size ≤ k_) ∧ some k_ ≠ (.slice Ao12 y188.length co12:Value).ownBlock ∧ some k_ ≠ (v201:Value).ownBlock ∧ k_ ≠ gb187 ∧ k_ ≠ gb192)) (by (with_reducible repeat (first|apply Kd.V_alloc|apply Kd.V_drewN|apply Kd.V_drew));exact Kd.V_mono HO_193002.out (fun _ hk=>⟨⟨hk.1.1.1,⟨hk.1.1.2.1,⟨hk.1.2,⟨hk.1.1.2.2.1,hk.1.1.2.2.2⟩⟩⟩⟩,hk.2⟩)) hg hat)
              have n3_:=Aside0.mk (blk_grown (g:=gb187) (o:=.cells #[.int .i64 a1_0,.int .i64 a1_1,.slice Ao12 y188.length co12] 39 (0,0)) (by (with_reducible repeat (first|refine blk_drewN ?_ _|refine blk_drew ?_|refine blk_alloc ?_ _));exact BK187.out) hg (Kd.R_ne HO205.out BK187.out (by decide)))
              have n4_:=Aside0.mk (blk_grown (g:=gb192) (o:=.cells #[.int .i64 ((rd_T39 l0 (ji5)).f0),.int .i64 ((rd_T39 l0 (ji5)).f1),.slice A191_2 ((rd_T39 l0 (ji5)).f2).length c191_2] 39 (0,0)) (by (with_reducible repeat (first|refine blk_drewN ?_ _|refine blk_drew ?_|refine blk_alloc ?_ _));exact BK192.out) hg (Kd.R_ne HO205.out BK192.out (by decide)))
              have n5_:=Aside0.mk (Kd.V_afterv (ok:=(fun k_=>(P0_ k_ ∨ w.heap.size ≤ k_) ∧ some k_ ≠ (.slice Ao12 y188.length co12:Value).ownBlock ∧ some k_ ≠ (v201:Value).ownBlock ∧ k_ ≠ gb187 ∧ k_ ≠ gb192)) (by (with_reducible repeat (first|apply Kd.V_alloc|apply Kd.V_drewN|apply Kd.V_drew));exact Kd.V_mono HO199.out (fun _ hk=>⟨⟨hk.1.1.1,⟨hk.1.1.2.1,⟨hk.1.2,⟨hk.1.1.2.2.1,hk.1.1.2.2.2⟩⟩⟩⟩,hk.2⟩)) hg hat)
              have n6_:=Aside0.mk (Kd.N_afterv (ok:=(fun k_=>(P0_ k_ ∨ w.heap.size ≤ k_) ∧ some k_ ≠ (.slice Ao12 y188.length co12:Value).ownBlock ∧ k_ ≠ gb187 ∧ k_ ≠ gb192)) (by (with_reducible repeat (first|apply Kd.N_alloc|apply Kd.N_drewN|apply Kd.N_drew));exact HO202.out) hg hat)
              have n7_:=Aside0.mk (hb)
              have n8_:=Aside0.mk (ho)
              clear HO_0
              clear HO_188002
              clear HO_193002
              clear BK187
              clear BK192
              clear HO199
              clear HO202
              clear HB
              clear HO205
              have HO_0:=n0_
              have HO_188002:=n1_
              have HO_193002:=n2_
              have BK187:=n3_
              have BK192:=n4_
              have HO199:=n5_
              have HO202:=n6_
              have HB:=n7_
              have HO208:=n8_
              clear n0_ n1_ n2_ n3_ n4_ n5_ n6_ n7_ n8_
              clear ho hb hg hat
              obtain ⟨Ao41,co41,eo41⟩:=Kd.R_slice HO208.out
              (first|subst eo41|(injection eo41 with f1_ f2_ f3_;have f4_:=f1_.symm;have f5_:=f3_.symm;clear f1_ f2_ f3_;subst f4_;subst f5_))
              refine hK.out _ _ ⟨(blk_cell BK192.out 0).trans rfl,(blk_cell BK192.out 1).trans rfl,(blk_cell BK192.out 2).trans rfl,(blk_cell BK187.out 0).trans rfl,(blk_cell BK187.out 1).trans rfl,(blk_cell BK187.out 2).trans rfl⟩ (fun hHeld=>?_)
              clear hK K
              refine norm_ (a':=?_) ?_ ?_
              rotate_left
              ·show Act.put _ (some 35) _ = _
               simp only [Act.put,List.setIfInBounds_toArray,List.set_cons_zero,List.set_cons_succ,i64_w,i32_w]
               rfl
              refine pure_ (i:=10) (N:=some 36) (v:=?_) (a':=?_) #[true,true,true,true,true,true,true,true,true,true,true,false,false,false] rfl rfl (any_of HT_.out (by kernel_rfl)) (fun _ _ _ h=>h) (Or.inl ⟨by rfl,?_⟩) ?_ ?_
              rotate_left
              ·intro w'
               go_simp
               with_reducible rfl
              rotate_left
              ·simp only [Act.put,List.setIfInBounds_toArray,List.set_cons_zero,List.set_cons_succ,i64_w,i32_w]
               rfl
              refine one_ (i:=11) (N:=some 37) #[true,true,true,true,true,true,true,true,true,true,true,true,false,false] rfl rfl (one_of HT_.out (by kernel_rfl)) (by decide) (fun K hK=>?_)
              refine Kd.N_lit_step k39 _ 39 ?hg (N':=37) ?hd (xs:=([(⟨0,0,y206⟩:S39)]:List (S39))) (inner:=[.int .i64 0,.int .i64 0,.slice Ao41 y206.length co41]) (ok:=(fun k_=>(P0_ k_ ∨ w.heap.size ≤ k_) ∧ some k_ ≠ (.slice Ao12 y188.length co12:Value).ownBlock ∧ some k_ ≠ (v201:Value).ownBlock ∧ k_ ≠ gb187 ∧ k_ ≠ gb192)) (okp:=(fun k_=>(P0_ k_ ∨ w.heap.size ≤ k_) ∧ some k_ ≠ (.slice Ao12 y188.length co12:Value).ownBlock ∧ some k_ ≠ (v201:Value).ownBlock ∧ k_ ≠ gb187 ∧ k_ ≠ gb192)) ?hr ?hp (fun _ hk=>hk) ((show ∀ k_,w40.heap.size ≤ k_ → (fun k_=>(P0_ k_ ∨ w.heap.size ≤ k_) ∧ some k_ ≠ (.slice Ao12 y188.length co12:Value).ownBlock ∧ some k_ ≠ (v201:Value).ownBlock ∧ k_ ≠ gb187 ∧ k_ ≠ gb192) k_ from fun k_ hk=>⟨(.inr (Nat.le_trans (below_size (by repeat (first|(with_reducible first|exact HB.out|apply below_alloc|apply pw_below_drewN|apply below_drew1|refine below_set ?_ GE187.out|refine below_set ?_ GE192.out)|exact HB.out))) hk)),Kd.fresh' (Kd.R_lt (by (with_reducible repeat (first|apply Kd.R_alloc|apply Kd.R_drewN|apply Kd.R_drew));exact HO_188002.out)) k_ hk,Kd.fresh' (Kd.N_lt (by (with_reducible repeat (first|apply Kd.N_alloc|apply Kd.N_drewN|apply Kd.N_drew));exact HO202.out)) k_ hk,Kd.freshB (g:=gb187) (o:=.cells #[.int .i64 a1_0,.int .i64 a1_1,.slice Ao12 y188.length co12] 39 (0,0)) (by (with_reducible repeat (first|refine blk_drewN ?_ _|refine blk_drew ?_|refine blk_alloc ?_ _));exact BK187.out) k_ hk,Kd.freshB (g:=gb192) (o:=.cells #[.int .i64 ((rd_T39 l0 (ji5)).f0),.int .i64 ((rd_T39 l0 (ji5)).f1),.slice A191_2 ((rd_T39 l0 (ji5)).f2).length c191_2] 39 (0,0)) (by (with_reducible repeat (first|refine blk_drewN ?_ _|refine blk_drew ?_|refine blk_alloc ?_ _));exact BK192.out) k_ hk⟩) _ (Nat.le_refl _)) (Below.refl _ _) (Nat.le_refl _) (by simp) ?_;(case hd=>rfl);(case hg=>rfl);(case hr=>first|(go_simp;done)|(go_simp;rfl));(case hp=>exact (Reps.c3 (show Kd.FK k39 _ _ (⟨0,0,y206⟩:S39) [.int .i64 0,.int .i64 0,.slice Ao41 y206.length co41] from (k39_mkF _ _ (⟨0,0,y206⟩:S39) (Kd.R_reads' (Kd.R_mono (ok':=(fun k_=>(P0_ k_ ∨ w.heap.size ≤ k_) ∧ some k_ ≠ (.slice Ao12 y188.length co12:Value).ownBlock ∧ some k_ ≠ (v201:Value).ownBlock ∧ k_ ≠ gb187 ∧ k_ ≠ gb192)) (Kd.R_types (Kd.R_types (Kd.R_apart' (HO208.out) (Kd.N_typed HO202.out) (by decide)) BK187.out (by decide)) BK192.out (by decide)) (fun k_ hk=>⟨(.inr (hk.1.1.1.1)),⟨hk.1.1.1.2,⟨hk.1.1.2,⟨hk.1.2,hk.2⟩⟩⟩⟩))).2.1 (Kd.R_F (Kd.R_mono (ok':=(fun k_=>(P0_ k_ ∨ w.heap.size ≤ k_) ∧ some k_ ≠ (.slice Ao12 y188.length co12:Value).ownBlock ∧ some k_ ≠ (v201:Value).ownBlock ∧ k_ ≠ gb187 ∧ k_ ≠ gb192)) (Kd.R_types (Kd.R_types (Kd.R_apart' (HO208.out) (Kd.N_typed HO202.out) (by decide)) BK187.out (by decide)) BK192.out (by decide)) (fun k_ hk=>⟨(.inr (hk.1.1.1.1)),⟨hk.1.1.1.2,⟨hk.1.1.2,⟨hk.1.2,hk.2⟩⟩⟩⟩))))) (Reps.none _ _)))
              intro v210 w42 ho43 hb hg_ hnew_
              clear hg_ hnew_
              (first|rw [← Ny209.out] at ho43|(simp only [Int.reduceToNat] at ho43;rw [← Ny209.out] at ho43))
              have n0_:=Aside0.mk (Kd.V_elder' (by (with_reducible repeat (first|apply Kd.V_alloc|apply Kd.V_drewN|apply Kd.V_drew));exact HO_0.out) (by first|exact Kd.N_base ho43|exact Kd.S_base ho43) hb)
              have n1_:=Aside0.mk (Kd.R_below (by (with_reducible repeat (first|apply Kd.R_alloc|apply Kd.R_drewN|apply Kd.R_drew));exact HO_188002.out) hb)
              have n2_:=Aside0.mk (Kd.V_elder' (by (with_reducible repeat (first|apply Kd.V_alloc|apply Kd.V_drewN|apply Kd.V_drew));exact HO_193002.out) (by first|exact Kd.N_base ho43|exact Kd.S_base ho43) hb)
              have n3_:=Aside0.mk (Kd.V_elder' (by (with_reducible repeat (first|apply Kd.V_alloc|apply Kd.V_drewN|apply Kd.V_drew));exact HO199.out) (by first|exact Kd.N_base ho43|exact Kd.S_base ho43) hb)
              have n4_:=Aside0.mk (Kd.N_elder' (by (with_reducible repeat (first|apply Kd.N_alloc|apply Kd.N_drewN|apply Kd.N_drew));exact HO202.out) (by first|exact Kd.N_base ho43|exact Kd.S_base ho43) hb)
              have n5_:=Aside0.mk (Kd.N_lower ho43 (below_size (by repeat (first|(with_reducible first|exact HB.out|apply below_alloc|apply pw_below_drewN|apply below_drew1|refine below_set ?_ GE187.out|refine below_set ?_ GE192.out)|exact HB.out))))
              have n6_:=Aside0.mk (blk_below (g:=gb187) (o:=.cells #[.int .i64 a1_0,.int .i64 a1_1,.slice Ao12 y188.length co12] 39 (0,0)) (by (with_reducible repeat (first|refine blk_drewN ?_ _|refine blk_drew ?_|refine blk_alloc ?_ _));exact BK187.out) hb)
              have n7_:=Aside0.mk (blk_below (g:=gb192) (o:=.cells #[.int .i64 ((rd_T39 l0 (ji5)).f0),.int .i64 ((rd_T39 l0 (ji5)).f1),.slice A191_2 ((rd_T39 l0 (ji5)).f2).length c191_2] 39 (0,0)) (by (with_reducible repeat (first|refine blk_drewN ?_ _|refine blk_drew ?_|refine blk_alloc ?_ _));exact BK192.out) hb)
              have n8_:=Aside0.mk (below_step (by repeat (first|(with_reducible first|exact HB.out|apply below_alloc|apply pw_below_drewN|apply below_drew1|refine below_set ?_ GE187.out|refine below_set ?_ GE192.out)|exact HB.out)) hb)
              clear HO_0
              clear HO_188002
              clear HO_193002
              clear HO199
              clear HO202
              clear BK187
              clear BK192
              clear HB
              clear HO208
              have HO_0:=n0_
              have HO_188002:=n1_
              have HO_193002:=n2_
              have HO199:=n3_
              have HO202:=n4_
              have HO211:=n5_
              have BK187:=n6_
              have BK192:=n7_
              have HB:=n8_
              clear n0_ n1_ n2_ n3_ n4_ n5_ n6_ n7_ n8_
              clear hb ho43
              obtain ⟨Ao45,co45,eo45⟩:=Kd.N_slice HO211.out
              (first|subst eo45|(injection eo45 with f1_ f2_ f3_;have f4_:=f1_.symm;have f5_:=f3_.symm;clear f1_ f2_ f3_;subst f4_;subst f5_))
              refine hK.out _ _ ⟨(blk_cell BK192.out 0).trans rfl,(blk_cell BK192.out 1).trans rfl,(blk_cell BK192.out 2).trans rfl,(blk_cell BK187.out 0).trans rfl,(blk_cell BK187.out 1).trans rfl,(blk_cell BK187.out 2).trans rfl⟩ (fun hHeld=>?_)
              clear hK K
              refine norm_ (a':=?_) ?_ ?_
              rotate_left
              ·show Act.put _ (some 37) _ = _
               simp only [Act.put,List.setIfInBounds_toArray,List.set_cons_zero,List.set_cons_succ,i64_w,i32_w]
               rfl
              refine one_ (i:=12) (N:=some 38) #[true,true,true,true,true,true,true,true,true,true,true,true,true,false] rfl rfl (one_of HT_.out (by kernel_rfl)) (by decide) (fun K hK=>?_)
              refine Kd.N_append_rows_step k39 (w0:=w) w.heap.size (by rfl) (.tmp 29) (.tmp 37) 29 39 (.agg #[(.int .i64 0),(.int .i64 0),(.slice none 0 0)]) 40 rfl Try.underlying29 info39 rfl (by decide) (by omega) v201 y200 y209 _ _ _ (fun k_=>(P0_ k_ ∨ w.heap.size ≤ k_) ∧ some k_ ≠ (.slice Ao12 y188.length co12:Value).ownBlock ∧ k_ ≠ gb187 ∧ k_ ≠ gb192) (fun k_=>((fun k_=>(P0_ k_ ∨ w.heap.size ≤ k_) ∧ some k_ ≠ (.slice Ao12 y188.length co12:Value).ownBlock ∧ k_ ≠ gb187 ∧ k_ ≠ gb192)) k_ ∧ some k_ ≠ (v201:Value).ownBlock) rfl rfl ?aO ?aR (fun _ hk=>hk) ?aF ?aB ?aS ?aL ?_
              (case aR=>exact (by skip;exact Kd.N_F (Kd.N_mono (ok':=(fun k_=>((fun k_=>(P0_ k_ ∨ w.heap.size ≤ k_) ∧ some k_ ≠ (.slice Ao12 y188.length co12:Value).ownBlock ∧ k_ ≠ gb187 ∧ k_ ≠ gb192)) k_ ∧ some k_ ≠ (v201:Value).ownBlock)) (HO211.out) (fun k_ hk=>⟨⟨hk.1,⟨hk.2.1,⟨hk.2.2.2.1,hk.2.2.2.2⟩⟩⟩,hk.2.2.1⟩))))
              (case aB=>exact (by repeat (first|(with_reducible first|exact HB.out|apply below_alloc|apply pw_below_drewN|apply below_drew1|refine below_set ?_ GE187.out|refine below_set ?_ GE192.out)|exact HB.out)))
              (case aF=>exact (fun k_ hk=>⟨(.inr (Nat.le_trans (below_size (by repeat (first|(with_reducible first|exact HB.out|apply below_alloc|apply pw_below_drewN|apply below_drew1|refine below_set ?_ GE187.out|refine below_set ?_ GE192.out)|exact HB.out))) hk)),Kd.fresh' (Kd.R_lt (by (with_reducible repeat (first|apply Kd.R_alloc|apply Kd.R_drewN|apply Kd.R_drew));exact HO_188002.out)) k_ hk,Kd.freshB (g:=gb187) (o:=.cells #[.int .i64 a1_0,.int .i64 a1_1,.slice Ao12 y188.length co12] 39 (0,0)) (by (with_reducible repeat (first|refine blk_drewN ?_ _|refine blk_drew ?_|refine blk_alloc ?_ _));exact BK187.out) k_ hk,Kd.freshB (g:=gb192) (o:=.cells #[.int .i64 ((rd_T39 l0 (ji5)).f0),.int .i64 ((rd_T39 l0 (ji5)).f1),.slice A191_2 ((rd_T39 l0 (ji5)).f2).length c191_2] 39 (0,0)) (by (with_reducible repeat (first|refine blk_drewN ?_ _|refine blk_drew ?_|refine blk_alloc ?_ _));exact BK192.out) k_ hk⟩))
              (case aO=>exact (by (with_reducible repeat (first|apply Kd.N_alloc|apply Kd.N_drewN|apply Kd.N_drew));exact Kd.N_mono HO202.out (fun _ hk=>⟨hk.1.1.1,⟨hk.1.1.2.1,⟨hk.1.1.2.2.1,hk.1.1.2.2.2⟩⟩⟩)))
              (case aS=>exact (below_size (by repeat (first|(with_reducible first|exact HB.out|apply below_alloc|apply pw_below_drewN|apply below_drew1|refine below_set ?_ GE187.out|refine below_set ?_ GE192.out)|exact HB.out))))
              (case aL=>have:=LMc35.out;omega)
              intro v213 w44 ho hb hg hat
              rw [← Ny212.out] at ho
              have n0_:=Aside0.mk (Kd.V_afterv (ok:=(fun k_=>(P0_ k_ ∨ w.heap.size ≤ k_) ∧ some k_ ≠ (.slice Ao12 y188.length co12:Value).ownBlock ∧ some k_ ≠ (.slice Ao45 y209.length co45:Value).ownBlock ∧ k_ ≠ gb187 ∧ k_ ≠ gb192)) (by (with_reducible repeat (first|apply Kd.V_alloc|apply Kd.V_drewN|apply Kd.V_drew));exact Kd.V_mono HO_0.out (fun _ hk=>⟨⟨hk.1.1.1,⟨hk.1.1.2.1,⟨hk.2,⟨hk.1.1.2.2.2.1,hk.1.1.2.2.2.2⟩⟩⟩⟩,hk.1.1.2.2.1⟩)) hg hat)
              have n1_:=Aside0.mk (Kd.R_over' (by (with_reducible repeat (first|apply Kd.R_alloc|apply Kd.R_drewN|apply Kd.R_drew));exact HO_188002.out) (Kd.N_typed (by (with_reducible repeat (first|apply Kd.N_alloc|apply Kd.N_drewN|apply Kd.N_drew));exact HO202.out)) (by decide) hg)
              have n2_:=Aside0.mk (Kd.V_afterv (ok:=(fun k_=>(P0_ k_ ∨ w.heap.size ≤ k_) ∧ some k_ ≠ (.slice Ao12 y188.length co12:Value).ownBlock ∧ some k_ ≠ (.slice Ao45 y209.length co45:Value).ownBlock ∧ k_ ≠ gb187 ∧ k_ ≠ gb192)) (by (with_reducible repeat (first|apply Kd.V_alloc|apply Kd.V_drewN|apply Kd.V_drew));exact Kd.V_mono HO_193002.out (fun _ hk=>⟨⟨hk.1.1.1,⟨hk.1.1.2.1,⟨hk.2,⟨hk.1.1.2.2.2.1,hk.1.1.2.2.2.2⟩⟩⟩⟩,hk.1.1.2.2.1⟩)) hg hat)
              have n3_:=Aside0.mk (blk_grown (g:=gb187) (o:=.cells #[.int .i64 a1_0,.int .i64 a1_1,.slice Ao12 y188.length co12] 39 (0,0)) (by (with_reducible repeat (first|refine blk_drewN ?_ _|refine blk_drew ?_|refine blk_alloc ?_ _));exact BK187.out) hg (Kd.N_away HO202.out (fun _ hk=>hk.1.1.2.2.1)))
              have n4_:=Aside0.mk (blk_grown (g:=gb192) (o:=.cells #[.int .i64 ((rd_T39 l0 (ji5)).f0),.int .i64 ((rd_T39 l0 (ji5)).f1),.slice A191_2 ((rd_T39 l0 (ji5)).f2).length c191_2] 39 (0,0)) (by (with_reducible repeat (first|refine blk_drewN ?_ _|refine blk_drew ?_|refine blk_alloc ?_ _));exact BK192.out) hg (Kd.N_away HO202.out (fun _ hk=>hk.1.1.2.2.2)))
              have n5_:=Aside0.mk (Kd.V_afterv (ok:=(fun k_=>(P0_ k_ ∨ w.heap.size ≤ k_) ∧ some k_ ≠ (.slice Ao12 y188.length co12:Value).ownBlock ∧ some k_ ≠ (.slice Ao45 y209.length co45:Value).ownBlock ∧ k_ ≠ gb187 ∧ k_ ≠ gb192)) (by (with_reducible repeat (first|apply Kd.V_alloc|apply Kd.V_drewN|apply Kd.V_drew));exact Kd.V_mono HO199.out (fun _ hk=>⟨⟨hk.1.1.1,⟨hk.1.1.2.1,⟨hk.2,⟨hk.1.1.2.2.2.1,hk.1.1.2.2.2.2⟩⟩⟩⟩,hk.1.1.2.2.1⟩)) hg hat)
              have n6_:=Aside0.mk (Kd.N_afterv (ok:=(fun k_=>(P0_ k_ ∨ w.heap.size ≤ k_) ∧ some k_ ≠ (.slice Ao12 y188.length co12:Value).ownBlock ∧ k_ ≠ gb187 ∧ k_ ≠ gb192)) (by (with_reducible repeat (first|apply Kd.N_alloc|apply Kd.N_drewN|apply Kd.N_drew));exact Kd.N_mono HO211.out (fun _ hk=>⟨⟨hk.1,⟨hk.2.1,⟨hk.2.2.2.1,hk.2.2.2.2⟩⟩⟩,hk.2.2.1⟩)) hg hat)
              have n7_:=Aside0.mk (hb)
              have n8_:=Aside0.mk (ho)
              clear HO_0
              clear HO_188002
              clear HO_193002
              clear BK187
              clear BK192
              clear HO199
              clear HO211
              clear HB
              clear HO202
              have HO_0:=n0_
              have HO_188002:=n1_
              have HO_193002:=n2_
              have BK187:=n3_
              have BK192:=n4_
              have HO199:=n5_
              have HO211:=n6_
              have HB:=n7_
              have HO214:=n8_
              clear n0_ n1_ n2_ n3_ n4_ n5_ n6_ n7_ n8_
              clear ho hb hg hat
              refine hK.out _ _ ⟨(blk_cell BK192.out 0).trans rfl,(blk_cell BK192.out 1).trans rfl,(blk_cell BK192.out 2).trans rfl,(blk_cell BK187.out 0).trans rfl,(blk_cell BK187.out 1).trans rfl,(blk_cell BK187.out 2).trans rfl⟩ (fun hHeld=>?_)
              clear hK K
              refine norm_ (a':=?_) ?_ ?_
              rotate_left
              ·show Act.put _ (some 38) _ = _
               simp only [Act.put,List.setIfInBounds_toArray,List.set_cons_zero,List.set_cons_succ,i64_w,i32_w]
               rfl
              refine pure_ (i:=13) (N:=some 4) (v:=?_) (a':=?_) #[true,true,true,true,true,true,true,true,true,true,true,true,true,true] rfl rfl (any_of HT_.out (by kernel_rfl)) (fun _ _ _ h=>h) (Or.inl ⟨by rfl,?_⟩) ?_ ?_
              rotate_left
              ·intro w'
               go_simp
               with_reducible rfl
              rotate_left
              ·simp only [Act.put,List.setIfInBounds_toArray,List.set_cons_zero,List.set_cons_succ,i64_w,i32_w]
               rfl
              refine done_ (done_of HT_.out (by kernel_rfl)) ?_
              try go_wp2
              go_ret
              exact ⟨_,by first|rfl|(simp [errW_none,errW_some] <;> rfl)|(simp only [← hji5];first|rfl|(simp [errW_none,errW_some] <;> rfl))|(simp [*,errW_none,errW_some] <;> rfl),by (with_reducible repeat (first|apply Kd.N_alloc|apply Kd.N_drewN|apply Kd.N_drew));exact Kd.N_mono HO214.out (fun _ hk=>hk.1),by repeat (first|(with_reducible first|exact HB.out|apply below_alloc|apply pw_below_drewN|apply below_drew1|refine below_set ?_ GE187.out|refine below_set ?_ GE192.out)|exact HB.out)⟩
             ·rw [if_neg c35] at H
              exact absurd H (by simp)
            ·rw [if_neg c34] at H
             exact absurd H (by simp)
           ·rw [if_neg c33] at H
            exact absurd H (by simp)
          ·rw [if_neg c32] at H
           exact absurd H (by simp)
         ·rw [if_neg c31] at H
          exact absurd H (by simp)
        ·rw [if_neg c30] at H
         exact absurd H (by simp)
       ·replace c29:=Bool.eq_false_iff.mpr c29
        subst c29
        have H1:((ref26_Copies.f ((rd_T39 l0 (ji5)).f0) ((rd_T39 l0 (ji5)).f1) ((rd_T39 l0 (ji5)).f2)).bind fun t215=>(if t215 = true then ((ref26_Copies.f a1_0 a1_1 y188).bind fun t216=>(if t216 = true then (ref26_Add.j1 kj7 l0 ji5 ((wrap64 (((rd_T39 l0 (ji5)).f0) + ((rd_T39 l0 (ji5)).f1))) == a1_0) a1_0 a1_1 y188 ((rd_T39 l0 (ji5)).f0) ((rd_T39 l0 (ji5)).f1) ((rd_T39 l0 (ji5)).f2)) else (ref26_Add.j1 kj7 l0 ji5 false a1_0 a1_1 y188 ((rd_T39 l0 (ji5)).f0) ((rd_T39 l0 (ji5)).f1) ((rd_T39 l0 (ji5)).f2)))) else (ref26_Add.j1 kj7 l0 ji5 false a1_0 a1_1 y188 ((rd_T39 l0 (ji5)).f0) ((rd_T39 l0 (ji5)).f1) ((rd_T39 l0 (ji5)).f2)))) = some r:=by rw [if_neg (show ¬ (false = true) by decide)] at H;exact H
        clear H
        have H:=H1
        clear H1
        have HC46:=Aside0.mk H
        clear H
        go_upto_region 7 with (fail)
        go_cut [54] (fun v54 wc=>∃ (kq:Nat) (x54_45:Bool),v54 = .bool x54_45 ∧ Aside0 (ref26_Add.j1 kq l0 ji5 x54_45 a1_0 a1_1 y188 ((rd_T39 l0 (ji5)).f0) ((rd_T39 l0 (ji5)).f1) ((rd_T39 l0 (ji5)).f2) = some r) ∧ Aside0 (kq ≤ kj7) ∧ Aside0 (Kd.V k39 39 wc w.heap.size (fun k_=>(P0_ k_ ∨ w.heap.size ≤ k_) ∧ some k_ ≠ ((.slice Ao12 y188.length co12):Value).ownBlock ∧ k_ ≠ gb187 ∧ k_ ≠ gb192) (.slice (some ad191) l0.length c0) l0) ∧ Aside0 (Kd.R (Kd.int .u8) 5 wc w.heap.size (fun k_=>(w.heap.size ≤ k_)) (.slice Ao12 y188.length co12) y188) ∧ Aside0 (Kd.V (Kd.int .u8) 5 wc w.heap.size (fun k_=>(P0_ k_ ∨ w.heap.size ≤ k_) ∧ some k_ ≠ ((.slice Ao12 y188.length co12):Value).ownBlock ∧ k_ ≠ gb187 ∧ k_ ≠ gb192) (.slice A191_2 ((rd_T39 l0 (ji5)).f2).length c191_2) ((rd_T39 l0 (ji5)).f2)) ∧ Aside0 (wc.heap[gb187]? = some (.cells #[.int .i64 a1_0,.int .i64 a1_1,(.slice Ao12 y188.length co12)] 39 (0,0))) ∧ Aside0 (wc.heap[gb192]? = some (.cells #[.int .i64 ((rd_T39 l0 (ji5)).f0),.int .i64 ((rd_T39 l0 (ji5)).f1),(.slice A191_2 ((rd_T39 l0 (ji5)).f2).length c191_2)] 39 (0,0))) ∧ Aside0 (Kd.C (Kd.int .u8) wc A191_2 ((rd_T39 l0 (ji5)).f2).length ((rd_T39 l0 (ji5)).f2)) ∧ Aside0 (Below w.heap.size w wc))
        case first =>
         have H:=HC46.out
         clear HC46
         replace H:=Option.bind_eq_some_iff.mp H
         obtain ⟨t215,A470,H⟩:=H
         replace H:(if t215 = true then ((ref26_Copies.f a1_0 a1_1 y188).bind fun t216=>(if t216 = true then (ref26_Add.j1 kj7 l0 ji5 ((wrap64 (((rd_T39 l0 (ji5)).f0) + ((rd_T39 l0 (ji5)).f1))) == a1_0) a1_0 a1_1 y188 ((rd_T39 l0 (ji5)).f0) ((rd_T39 l0 (ji5)).f1) ((rd_T39 l0 (ji5)).f2)) else (ref26_Add.j1 kj7 l0 ji5 false a1_0 a1_1 y188 ((rd_T39 l0 (ji5)).f0) ((rd_T39 l0 (ji5)).f1) ((rd_T39 l0 (ji5)).f2)))) else (ref26_Add.j1 kj7 l0 ji5 false a1_0 a1_1 y188 ((rd_T39 l0 (ji5)).f0) ((rd_T39 l0 (ji5)).f1) ((rd_T39 l0 (ji5)).f2))) = some r:=H
         have A47:=Aside0.mk A470
         clear A470
         by_cases c48:t215 = true
         ·subst c48
          have H1:((ref26_Copies.f a1_0 a1_1 y188).bind fun t216=>(if t216 = true then (ref26_Add.j1 kj7 l0 ji5 ((wrap64 (((rd_T39 l0 (ji5)).f0) + ((rd_T39 l0 (ji5)).f1))) == a1_0) a1_0 a1_1 y188 ((rd_T39 l0 (ji5)).f0) ((rd_T39 l0 (ji5)).f1) ((rd_T39 l0 (ji5)).f2)) else (ref26_Add.j1 kj7 l0 ji5 false a1_0 a1_1 y188 ((rd_T39 l0 (ji5)).f0) ((rd_T39 l0 (ji5)).f1) ((rd_T39 l0 (ji5)).f2)))) = some r:=by rw [if_pos rfl] at H;exact H
          clear H
          have H:=H1
          clear H1
          replace H:=Option.bind_eq_some_iff.mp H
          obtain ⟨t216,A490,H⟩:=H
          replace H:(if t216 = true then (ref26_Add.j1 kj7 l0 ji5 ((wrap64 (((rd_T39 l0 (ji5)).f0) + ((rd_T39 l0 (ji5)).f1))) == a1_0) a1_0 a1_1 y188 ((rd_T39 l0 (ji5)).f0) ((rd_T39 l0 (ji5)).f1) ((rd_T39 l0 (ji5)).f2)) else (ref26_Add.j1 kj7 l0 ji5 false a1_0 a1_1 y188 ((rd_T39 l0 (ji5)).f0) ((rd_T39 l0 (ji5)).f1) ((rd_T39 l0 (ji5)).f2))) = some r:=H
          have A49:=Aside0.mk A490
          clear A490
          by_cases c50:t216 = true
          ·subst c50
           have H1:(ref26_Add.j1 kj7 l0 ji5 ((wrap64 (((rd_T39 l0 (ji5)).f0) + ((rd_T39 l0 (ji5)).f1))) == a1_0) a1_0 a1_1 y188 ((rd_T39 l0 (ji5)).f0) ((rd_T39 l0 (ji5)).f1) ((rd_T39 l0 (ji5)).f2)) = some r:=by rw [if_pos rfl] at H;exact H
           clear H
           have H:=H1
           clear H1
           have H':=Aside0.mk H
           clear H
           have hnb51:=NB192_187.out
           have hnc51:=NB187_192.out
           have hcz52_0:wc.cell? ⟨gb192,0,none⟩ = some (.int .i64 ((rd_T39 l0 (ji5)).f0)):=(blk_cell BK192.out 0).trans rfl
           have hcz52_1:wc.cell? ⟨gb192,1,none⟩ = some (.int .i64 ((rd_T39 l0 (ji5)).f1)):=(blk_cell BK192.out 1).trans rfl
           have hcz52_2:wc.cell? ⟨gb192,2,none⟩ = some (.slice A191_2 ((rd_T39 l0 (ji5)).f2).length c191_2):=(blk_cell BK192.out 2).trans rfl
           have hfz52_0:=blk_frozen BK192.out 0
           have hfz52_1:=blk_frozen BK192.out 1
           have hfz52_2:=blk_frozen BK192.out 2
           go_wp2_with (first|((with_reducible refine gate_callee (f:=48) rfl ?_);refine goesL_ (some 40) rfl rfl Try.func48 (by kernel_rfl) rfl #[.agg #[.int .i64 ((rd_T39 l0 (ji5)).f0),.int .i64 ((rd_T39 l0 (ji5)).f1),.slice A191_2 ((rd_T39 l0 (ji5)).f2).length c191_2]] rfl (by (try simp only [List.map_toArray,List.map_cons,List.map_nil]);first|done|(simp only [hji5];rfl)|rfl|(simp only [List.length_drop,List.length_take];rfl)) ?_;(with_reducible refine (ref26_Copies.calls ((rd_T39 l0 (ji5)).f0) ((rd_T39 l0 (ji5)).f1) _ _ ((rd_T39 l0 (ji5)).f2) true _ ?side1 ?side2 A47.out).mono ?_);(case side1=>repeat (first|exact (Kd.V_reads' HO_193002.out).2.2|(with_reducible refine Kd.C_alloc ?_ _)|(with_reducible refine Kd.C_drewN ?_ _)|(with_reducible refine Kd.C_drew ?_)));(case side2=>exact (Kd.V_reads' HO_193002.out).2.1);rintro e w53 ⟨rfl,hb⟩;refine ⟨_,rfl,?_⟩;have n0_:=Aside0.mk (Kd.V_below (by (with_reducible repeat (first|apply Kd.V_alloc|apply Kd.V_drewN|apply Kd.V_drew));exact HO_0.out) hb);have n1_:=Aside0.mk (Kd.R_below (by (with_reducible repeat (first|apply Kd.R_alloc|apply Kd.R_drewN|apply Kd.R_drew));exact HO_188002.out) hb);have n2_:=Aside0.mk (Kd.V_below (by (with_reducible repeat (first|apply Kd.V_alloc|apply Kd.V_drewN|apply Kd.V_drew));exact HO_193002.out) hb);have n3_:=Aside0.mk (blk_below (g:=gb187) (o:=.cells #[.int .i64 a1_0,.int .i64 a1_1,.slice Ao12 y188.length co12] 39 (0,0)) (by (with_reducible repeat (first|refine blk_drewN ?_ _|refine blk_drew ?_|refine blk_alloc ?_ _));exact BK187.out) hb);have n4_:=Aside0.mk (blk_below (g:=gb192) (o:=.cells #[.int .i64 ((rd_T39 l0 (ji5)).f0),.int .i64 ((rd_T39 l0 (ji5)).f1),.slice A191_2 ((rd_T39 l0 (ji5)).f2).length c191_2] 39 (0,0)) (by (with_reducible repeat (first|refine blk_drewN ?_ _|refine blk_drew ?_|refine blk_alloc ?_ _));exact BK192.out) hb);have n5_:=Aside0.mk (Kd.C_below (by repeat (first|(with_reducible exact HR191_2.out)|(with_reducible refine Kd.C_alloc ?_ _)|(with_reducible refine Kd.C_drewN ?_ _)|(with_reducible refine Kd.C_drew ?_)|exact HR191_2.out)) hb);have n6_:=Aside0.mk (below_step (by repeat (first|(with_reducible first|exact HB.out|apply below_alloc|apply pw_below_drewN|apply below_drew1|refine below_set ?_ GE187.out|refine below_set ?_ GE192.out)|exact HB.out)) hb);clear HO_0;clear HO_188002;clear HO_193002;clear BK187;clear BK192;clear HR191_2;clear HB;have HO_0:=n0_;have HO_188002:=n1_;have HO_193002:=n2_;have BK187:=n3_;have BK192:=n4_;have HR191_2:=n5_;have HB:=n6_;clear n0_ n1_ n2_ n3_ n4_ n5_ n6_;(try clear hb);(try clear hb2);(try clear hk);(try clear hi);have hcz54_0:w53.cell? ⟨gb187,0,none⟩ = some (.int .i64 a1_0):=(blk_cell BK187.out 0).trans rfl;have hcz54_1:w53.cell? ⟨gb187,1,none⟩ = some (.int .i64 a1_1):=(blk_cell BK187.out 1).trans rfl;have hcz54_2:w53.cell? ⟨gb187,2,none⟩ = some (.slice Ao12 y188.length co12):=(blk_cell BK187.out 2).trans rfl;have hfz54_0:=blk_frozen BK187.out 0;have hfz54_1:=blk_frozen BK187.out 1;have hfz54_2:=blk_frozen BK187.out 2)|(go_at_call 48;(with_reducible refine (ref26_Copies.calls a1_0 a1_1 _ _ y188 true _ ?side1 ?side2 A49.out).mono ?_);(case side1=>repeat (first|exact (Kd.R_reads' HO_188002.out).2.2|(with_reducible refine Kd.C_alloc ?_ _)|(with_reducible refine Kd.C_drewN ?_ _)|(with_reducible refine Kd.C_drew ?_)));(case side2=>exact (Kd.R_reads' HO_188002.out).2.1);rintro e w55 ⟨rfl,hb⟩;have n0_:=Aside0.mk (Kd.V_below (by (with_reducible repeat (first|apply Kd.V_alloc|apply Kd.V_drewN|apply Kd.V_drew));exact HO_0.out) hb);have n1_:=Aside0.mk (Kd.R_below (by (with_reducible repeat (first|apply Kd.R_alloc|apply Kd.R_drewN|apply Kd.R_drew));exact HO_188002.out) hb);have n2_:=Aside0.mk (Kd.V_below (by (with_reducible repeat (first|apply Kd.V_alloc|apply Kd.V_drewN|apply Kd.V_drew));exact HO_193002.out) hb);have n3_:=Aside0.mk (blk_below (g:=gb187) (o:=.cells #[.int .i64 a1_0,.int .i64 a1_1,.slice Ao12 y188.length co12] 39 (0,0)) (by (with_reducible repeat (first|refine blk_drewN ?_ _|refine blk_drew ?_|refine blk_alloc ?_ _));exact BK187.out) hb);have n4_:=Aside0.mk (blk_below (g:=gb192) (o:=.cells #[.int .i64 ((rd_T39 l0 (ji5)).f0),.int .i64 ((rd_T39 l0 (ji5)).f1),.slice A191_2 ((rd_T39 l0 (ji5)).f2).length c191_2] 39 (0,0)) (by (with_reducible repeat (first|refine blk_drewN ?_ _|refine blk_drew ?_|refine blk_alloc ?_ _));exact BK192.out) hb);have n5_:=Aside0.mk (Kd.C_below (by repeat (first|(with_reducible exact HR191_2.out)|(with_reducible refine Kd.C_alloc ?_ _)|(with_reducible refine Kd.C_drewN ?_ _)|(with_reducible refine Kd.C_drew ?_)|exact HR191_2.out)) hb);have n6_:=Aside0.mk (below_step (by repeat (first|(with_reducible first|exact HB.out|apply below_alloc|apply pw_below_drewN|apply below_drew1|refine below_set ?_ GE187.out|refine below_set ?_ GE192.out)|exact HB.out)) hb);clear HO_0;clear HO_188002;clear HO_193002;clear BK187;clear BK192;clear HR191_2;clear HB;have HO_0:=n0_;have HO_188002:=n1_;have HO_193002:=n2_;have BK187:=n3_;have BK192:=n4_;have HR191_2:=n5_;have HB:=n6_;clear n0_ n1_ n2_ n3_ n4_ n5_ n6_;(try clear hb);(try clear hb2);(try clear hk);(try clear hi);have hcz56_0:w55.cell? ⟨gb192,0,none⟩ = some (.int .i64 ((rd_T39 l0 (ji5)).f0)):=(blk_cell BK192.out 0).trans rfl;have hcz56_1:w55.cell? ⟨gb192,1,none⟩ = some (.int .i64 ((rd_T39 l0 (ji5)).f1)):=(blk_cell BK192.out 1).trans rfl;have hcz56_2:w55.cell? ⟨gb192,2,none⟩ = some (.slice A191_2 ((rd_T39 l0 (ji5)).f2).length c191_2):=(blk_cell BK192.out 2).trans rfl;have hfz56_0:=blk_frozen BK192.out 0;have hfz56_1:=blk_frozen BK192.out 1;have hfz56_2:=blk_frozen BK192.out 2;have hcz57_0:w55.cell? ⟨gb187,0,none⟩ = some (.int .i64 a1_0):=(blk_cell BK187.out 0).trans rfl;have hcz57_1:w55.cell? ⟨gb187,1,none⟩ = some (.int .i64 a1_1):=(blk_cell BK187.out 1).trans rfl;have hcz57_2:w55.cell? ⟨gb187,2,none⟩ = some (.slice Ao12 y188.length co12):=(blk_cell BK187.out 2).trans rfl;have hfz57_0:=blk_frozen BK187.out 0;have hfz57_1:=blk_frozen BK187.out 1;have hfz57_2:=blk_frozen BK187.out 2))
           go_meet
           case rel=>exact ⟨_,(((wrap64 (((rd_T39 l0 (ji5)).f0) + ((rd_T39 l0 (ji5)).f1))) == a1_0)),(by first|rfl|(simp;done)|(simp only [← hji5] <;> (first|rfl|simp))|(simp [*];done)),H',⟨by have:=HJ7.out;first|omega|exact Nat.le_refl _⟩,⟨by (with_reducible repeat (first|apply Kd.V_alloc|apply Kd.V_drewN|apply Kd.V_drew));exact HO_0.out⟩,⟨by (with_reducible repeat (first|apply Kd.R_alloc|apply Kd.R_drewN|apply Kd.R_drew));exact HO_188002.out⟩,⟨by (with_reducible repeat (first|apply Kd.V_alloc|apply Kd.V_drewN|apply Kd.V_drew));exact HO_193002.out⟩,⟨by (with_reducible repeat (first|refine blk_drewN ?_ _|refine blk_drew ?_|refine blk_alloc ?_ _));exact BK187.out⟩,⟨by (with_reducible repeat (first|refine blk_drewN ?_ _|refine blk_drew ?_|refine blk_alloc ?_ _));exact BK192.out⟩,⟨by repeat (first|(with_reducible exact HR191_2.out)|(with_reducible refine Kd.C_alloc ?_ _)|(with_reducible refine Kd.C_drewN ?_ _)|(with_reducible refine Kd.C_drew ?_)|exact HR191_2.out)⟩,⟨by repeat (first|(with_reducible first|exact HB.out|apply below_alloc|apply pw_below_drewN|apply below_drew1|refine below_set ?_ GE187.out|refine below_set ?_ GE192.out)|exact HB.out)⟩⟩
          ·replace c50:=Bool.eq_false_iff.mpr c50
           subst c50
           have H1:(ref26_Add.j1 kj7 l0 ji5 false a1_0 a1_1 y188 ((rd_T39 l0 (ji5)).f0) ((rd_T39 l0 (ji5)).f1) ((rd_T39 l0 (ji5)).f2)) = some r:=by rw [if_neg (show ¬ (false = true) by decide)] at H;exact H
           clear H
           have H:=H1
           clear H1
           have H':=Aside0.mk H
           clear H
           have hnb58:=NB192_187.out
           have hnc58:=NB187_192.out
           have hcz59_0:wc.cell? ⟨gb192,0,none⟩ = some (.int .i64 ((rd_T39 l0 (ji5)).f0)):=(blk_cell BK192.out 0).trans rfl
           have hcz59_1:wc.cell? ⟨gb192,1,none⟩ = some (.int .i64 ((rd_T39 l0 (ji5)).f1)):=(blk_cell BK192.out 1).trans rfl
           have hcz59_2:wc.cell? ⟨gb192,2,none⟩ = some (.slice A191_2 ((rd_T39 l0 (ji5)).f2).length c191_2):=(blk_cell BK192.out 2).trans rfl
           have hfz59_0:=blk_frozen BK192.out 0
           have hfz59_1:=blk_frozen BK192.out 1
           have hfz59_2:=blk_frozen BK192.out 2
           go_wp2_with (first|((with_reducible refine gate_callee (f:=48) rfl ?_);refine goesL_ (some 40) rfl rfl Try.func48 (by kernel_rfl) rfl #[.agg #[.int .i64 ((rd_T39 l0 (ji5)).f0),.int .i64 ((rd_T39 l0 (ji5)).f1),.slice A191_2 ((rd_T39 l0 (ji5)).f2).length c191_2]] rfl (by (try simp only [List.map_toArray,List.map_cons,List.map_nil]);first|done|(simp only [hji5];rfl)|rfl|(simp only [List.length_drop,List.length_take];rfl)) ?_;(with_reducible refine (ref26_Copies.calls ((rd_T39 l0 (ji5)).f0) ((rd_T39 l0 (ji5)).f1) _ _ ((rd_T39 l0 (ji5)).f2) true _ ?side1 ?side2 A47.out).mono ?_);(case side1=>repeat (first|exact (Kd.V_reads' HO_193002.out).2.2|(with_reducible refine Kd.C_alloc ?_ _)|(with_reducible refine Kd.C_drewN ?_ _)|(with_reducible refine Kd.C_drew ?_)));(case side2=>exact (Kd.V_reads' HO_193002.out).2.1);rintro e w60 ⟨rfl,hb⟩;refine ⟨_,rfl,?_⟩;have n0_:=Aside0.mk (Kd.V_below (by (with_reducible repeat (first|apply Kd.V_alloc|apply Kd.V_drewN|apply Kd.V_drew));exact HO_0.out) hb);have n1_:=Aside0.mk (Kd.R_below (by (with_reducible repeat (first|apply Kd.R_alloc|apply Kd.R_drewN|apply Kd.R_drew));exact HO_188002.out) hb);have n2_:=Aside0.mk (Kd.V_below (by (with_reducible repeat (first|apply Kd.V_alloc|apply Kd.V_drewN|apply Kd.V_drew));exact HO_193002.out) hb);have n3_:=Aside0.mk (blk_below (g:=gb187) (o:=.cells #[.int .i64 a1_0,.int .i64 a1_1,.slice Ao12 y188.length co12] 39 (0,0)) (by (with_reducible repeat (first|refine blk_drewN ?_ _|refine blk_drew ?_|refine blk_alloc ?_ _));exact BK187.out) hb);have n4_:=Aside0.mk (blk_below (g:=gb192) (o:=.cells #[.int .i64 ((rd_T39 l0 (ji5)).f0),.int .i64 ((rd_T39 l0 (ji5)).f1),.slice A191_2 ((rd_T39 l0 (ji5)).f2).length c191_2] 39 (0,0)) (by (with_reducible repeat (first|refine blk_drewN ?_ _|refine blk_drew ?_|refine blk_alloc ?_ _));exact BK192.out) hb);have n5_:=Aside0.mk (Kd.C_below (by repeat (first|(with_reducible exact HR191_2.out)|(with_reducible refine Kd.C_alloc ?_ _)|(with_reducible refine Kd.C_drewN ?_ _)|(with_reducible refine Kd.C_drew ?_)|exact HR191_2.out)) hb);have n6_:=Aside0.mk (below_step (by repeat (first|(with_reducible first|exact HB.out|apply below_alloc|apply pw_below_drewN|apply below_drew1|refine below_set ?_ GE187.out|refine below_set ?_ GE192.out)|exact HB.out)) hb);clear HO_0;clear HO_188002;clear HO_193002;clear BK187;clear BK192;clear HR191_2;clear HB;have HO_0:=n0_;have HO_188002:=n1_;have HO_193002:=n2_;have BK187:=n3_;have BK192:=n4_;have HR191_2:=n5_;have HB:=n6_;clear n0_ n1_ n2_ n3_ n4_ n5_ n6_;(try clear hb);(try clear hb2);(try clear hk);(try clear hi);have hcz61_0:w60.cell? ⟨gb187,0,none⟩ = some (.int .i64 a1_0):=(blk_cell BK187.out 0).trans rfl;have hcz61_1:w60.cell? ⟨gb187,1,none⟩ = some (.int .i64 a1_1):=(blk_cell BK187.out 1).trans rfl;have hcz61_2:w60.cell? ⟨gb187,2,none⟩ = some (.slice Ao12 y188.length co12):=(blk_cell BK187.out 2).trans rfl;have hfz61_0:=blk_frozen BK187.out 0;have hfz61_1:=blk_frozen BK187.out 1;have hfz61_2:=blk_frozen BK187.out 2)|(go_at_call 48;(with_reducible refine (ref26_Copies.calls a1_0 a1_1 _ _ y188 false _ ?side1 ?side2 A49.out).mono ?_);(case side1=>repeat (first|exact (Kd.R_reads' HO_188002.out).2.2|(with_reducible refine Kd.C_alloc ?_ _)|(with_reducible refine Kd.C_drewN ?_ _)|(with_reducible refine Kd.C_drew ?_)));(case side2=>exact (Kd.R_reads' HO_188002.out).2.1);rintro e w62 ⟨rfl,hb⟩;have n0_:=Aside0.mk (Kd.V_below (by (with_reducible repeat (first|apply Kd.V_alloc|apply Kd.V_drewN|apply Kd.V_drew));exact HO_0.out) hb);have n1_:=Aside0.mk (Kd.R_below (by (with_reducible repeat (first|apply Kd.R_alloc|apply Kd.R_drewN|apply Kd.R_drew));exact HO_188002.out) hb);have n2_:=Aside0.mk (Kd.V_below (by (with_reducible repeat (first|apply Kd.V_alloc|apply Kd.V_drewN|apply Kd.V_drew));exact HO_193002.out) hb);have n3_:=Aside0.mk (blk_below (g:=gb187) (o:=.cells #[.int .i64 a1_0,.int .i64 a1_1,.slice Ao12 y188.length co12] 39 (0,0)) (by (with_reducible repeat (first|refine blk_drewN ?_ _|refine blk_drew ?_|refine blk_alloc ?_ _));exact BK187.out) hb);have n4_:=Aside0.mk (blk_below (g:=gb192) (o:=.cells #[.int .i64 ((rd_T39 l0 (ji5)).f0),.int .i64 ((rd_T39 l0 (ji5)).f1),.slice A191_2 ((rd_T39 l0 (ji5)).f2).length c191_2] 39 (0,0)) (by (with_reducible repeat (first|refine blk_drewN ?_ _|refine blk_drew ?_|refine blk_alloc ?_ _));exact BK192.out) hb);have n5_:=Aside0.mk (Kd.C_below (by repeat (first|(with_reducible exact HR191_2.out)|(with_reducible refine Kd.C_alloc ?_ _)|(with_reducible refine Kd.C_drewN ?_ _)|(with_reducible refine Kd.C_drew ?_)|exact HR191_2.out)) hb);have n6_:=Aside0.mk (below_step (by repeat (first|(with_reducible first|exact HB.out|apply below_alloc|apply pw_below_drewN|apply below_drew1|refine below_set ?_ GE187.out|refine below_set ?_ GE192.out)|exact HB.out)) hb);clear HO_0;clear HO_188002;clear HO_193002;clear BK187;clear BK192;clear HR191_2;clear HB;have HO_0:=n0_;have HO_188002:=n1_;have HO_193002:=n2_;have BK187:=n3_;have BK192:=n4_;have HR191_2:=n5_;have HB:=n6_;clear n0_ n1_ n2_ n3_ n4_ n5_ n6_;(try clear hb);(try clear hb2);(try clear hk);(try clear hi)))
           go_meet
           case rel=>exact ⟨_,(false),(by first|rfl|(simp;done)|(simp [*];done)),H',⟨by have:=HJ7.out;first|omega|exact Nat.le_refl _⟩,⟨by (with_reducible repeat (first|apply Kd.V_alloc|apply Kd.V_drewN|apply Kd.V_drew));exact HO_0.out⟩,⟨by (with_reducible repeat (first|apply Kd.R_alloc|apply Kd.R_drewN|apply Kd.R_drew));exact HO_188002.out⟩,⟨by (with_reducible repeat (first|apply Kd.V_alloc|apply Kd.V_drewN|apply Kd.V_drew));exact HO_193002.out⟩,⟨by (with_reducible repeat (first|refine blk_drewN ?_ _|refine blk_drew ?_|refine blk_alloc ?_ _));exact BK187.out⟩,⟨by (with_reducible repeat (first|refine blk_drewN ?_ _|refine blk_drew ?_|refine blk_alloc ?_ _));exact BK192.out⟩,⟨by repeat (first|(with_reducible exact HR191_2.out)|(with_reducible refine Kd.C_alloc ?_ _)|(with_reducible refine Kd.C_drewN ?_ _)|(with_reducible refine Kd.C_drew ?_)|exact HR191_2.out)⟩,⟨by repeat (first|(with_reducible first|exact HB.out|apply below_alloc|apply pw_below_drewN|apply below_drew1|refine below_set ?_ GE187.out|refine below_set ?_ GE192.out)|exact HB.out)⟩⟩
         ·replace c48:=Bool.eq_false_iff.mpr c48
          subst c48
          have H1:(ref26_Add.j1 kj7 l0 ji5 false a1_0 a1_1 y188 ((rd_T39 l0 (ji5)).f0) ((rd_T39 l0 (ji5)).f1) ((rd_T39 l0 (ji5)).f2)) = some r:=by rw [if_neg (show ¬ (false = true) by decide)] at H;exact H
          clear H
          have H:=H1
          clear H1
          have H':=Aside0.mk H
          clear H
          have hnb63:=NB192_187.out
          have hnc63:=NB187_192.out
          have hcz64_0:wc.cell? ⟨gb192,0,none⟩ = some (.int .i64 ((rd_T39 l0 (ji5)).f0)):=(blk_cell BK192.out 0).trans rfl
          have hcz64_1:wc.cell? ⟨gb192,1,none⟩ = some (.int .i64 ((rd_T39 l0 (ji5)).f1)):=(blk_cell BK192.out 1).trans rfl
          have hcz64_2:wc.cell? ⟨gb192,2,none⟩ = some (.slice A191_2 ((rd_T39 l0 (ji5)).f2).length c191_2):=(blk_cell BK192.out 2).trans rfl
          have hfz64_0:=blk_frozen BK192.out 0
          have hfz64_1:=blk_frozen BK192.out 1
          have hfz64_2:=blk_frozen BK192.out 2
          go_wp2_with (first|((with_reducible refine gate_callee (f:=48) rfl ?_);refine goesL_ (some 40) rfl rfl Try.func48 (by kernel_rfl) rfl #[.agg #[.int .i64 ((rd_T39 l0 (ji5)).f0),.int .i64 ((rd_T39 l0 (ji5)).f1),.slice A191_2 ((rd_T39 l0 (ji5)).f2).length c191_2]] rfl (by (try simp only [List.map_toArray,List.map_cons,List.map_nil]);first|done|(simp only [hji5];rfl)|rfl|(simp only [List.length_drop,List.length_take];rfl)) ?_;(with_reducible refine (ref26_Copies.calls ((rd_T39 l0 (ji5)).f0) ((rd_T39 l0 (ji5)).f1) _ _ ((rd_T39 l0 (ji5)).f2) false _ ?side1 ?side2 A47.out).mono ?_);(case side1=>repeat (first|exact (Kd.V_reads' HO_193002.out).2.2|(with_reducible refine Kd.C_alloc ?_ _)|(with_reducible refine Kd.C_drewN ?_ _)|(with_reducible refine Kd.C_drew ?_)));(case side2=>exact (Kd.V_reads' HO_193002.out).2.1);rintro e w65 ⟨rfl,hb⟩;refine ⟨_,rfl,?_⟩;have n0_:=Aside0.mk (Kd.V_below (by (with_reducible repeat (first|apply Kd.V_alloc|apply Kd.V_drewN|apply Kd.V_drew));exact HO_0.out) hb);have n1_:=Aside0.mk (Kd.R_below (by (with_reducible repeat (first|apply Kd.R_alloc|apply Kd.R_drewN|apply Kd.R_drew));exact HO_188002.out) hb);have n2_:=Aside0.mk (Kd.V_below (by (with_reducible repeat (first|apply Kd.V_alloc|apply Kd.V_drewN|apply Kd.V_drew));exact HO_193002.out) hb);have n3_:=Aside0.mk (blk_below (g:=gb187) (o:=.cells #[.int .i64 a1_0,.int .i64 a1_1,.slice Ao12 y188.length co12] 39 (0,0)) (by (with_reducible repeat (first|refine blk_drewN ?_ _|refine blk_drew ?_|refine blk_alloc ?_ _));exact BK187.out) hb);have n4_:=Aside0.mk (blk_below (g:=gb192) (o:=.cells #[.int .i64 ((rd_T39 l0 (ji5)).f0),.int .i64 ((rd_T39 l0 (ji5)).f1),.slice A191_2 ((rd_T39 l0 (ji5)).f2).length c191_2] 39 (0,0)) (by (with_reducible repeat (first|refine blk_drewN ?_ _|refine blk_drew ?_|refine blk_alloc ?_ _));exact BK192.out) hb);have n5_:=Aside0.mk (Kd.C_below (by repeat (first|(with_reducible exact HR191_2.out)|(with_reducible refine Kd.C_alloc ?_ _)|(with_reducible refine Kd.C_drewN ?_ _)|(with_reducible refine Kd.C_drew ?_)|exact HR191_2.out)) hb);have n6_:=Aside0.mk (below_step (by repeat (first|(with_reducible first|exact HB.out|apply below_alloc|apply pw_below_drewN|apply below_drew1|refine below_set ?_ GE187.out|refine below_set ?_ GE192.out)|exact HB.out)) hb);clear HO_0;clear HO_188002;clear HO_193002;clear BK187;clear BK192;clear HR191_2;clear HB;have HO_0:=n0_;have HO_188002:=n1_;have HO_193002:=n2_;have BK187:=n3_;have BK192:=n4_;have HR191_2:=n5_;have HB:=n6_;clear n0_ n1_ n2_ n3_ n4_ n5_ n6_;(try clear hb);(try clear hb2);(try clear hk);(try clear hi)))
          go_meet
          case rel=>exact ⟨_,(false),(by first|rfl|(simp;done)|(simp [*];done)),H',⟨by have:=HJ7.out;first|omega|exact Nat.le_refl _⟩,⟨by (with_reducible repeat (first|apply Kd.V_alloc|apply Kd.V_drewN|apply Kd.V_drew));exact HO_0.out⟩,⟨by (with_reducible repeat (first|apply Kd.R_alloc|apply Kd.R_drewN|apply Kd.R_drew));exact HO_188002.out⟩,⟨by (with_reducible repeat (first|apply Kd.V_alloc|apply Kd.V_drewN|apply Kd.V_drew));exact HO_193002.out⟩,⟨by (with_reducible repeat (first|refine blk_drewN ?_ _|refine blk_drew ?_|refine blk_alloc ?_ _));exact BK187.out⟩,⟨by (with_reducible repeat (first|refine blk_drewN ?_ _|refine blk_drew ?_|refine blk_alloc ?_ _));exact BK192.out⟩,⟨by repeat (first|(with_reducible exact HR191_2.out)|(with_reducible refine Kd.C_alloc ?_ _)|(with_reducible refine Kd.C_drewN ?_ _)|(with_reducible refine Kd.C_drew ?_)|exact HR191_2.out)⟩,⟨by repeat (first|(with_reducible first|exact HB.out|apply below_alloc|apply pw_below_drewN|apply below_drew1|refine below_set ?_ GE187.out|refine below_set ?_ GE192.out)|exact HB.out)⟩⟩
        case rest =>
         clear HC46
         try clear c1
         try clear p1
         try clear q1
         try clear hx1
         try clear c2
         try clear p2
         try clear c3
         try clear q3
         try clear c4
         try clear c4b0
         try clear c5
         try clear c6
         try clear c6b0
         try clear p6
         try clear c7
         try clear c7b0
         try clear c16
         try clear c19
         try clear p19
         try clear q19
         try clear hx19
         try clear c21
         try clear c26
         try clear c29
         try clear c30
         try clear c30b0
         try clear c30b1
         try clear c31
         try clear c31b0
         try clear c31b1
         try clear c32
         try clear c33
         try clear c34
         try clear c35
         try clear q37
         try clear c48
         try clear c49
         try clear c50
         try clear c51
         try clear c58
         try clear c63
         try clear p64
         try clear hcz10_0
         try clear hcz10_1
         try clear hcz10_2
         try clear hcz13_0
         try clear hcz13_1
         try clear hcz13_2
         try clear hcz17_0
         try clear hcz17_1
         try clear hcz17_2
         try clear hcz22_0
         try clear hcz22_1
         try clear hcz22_2
         try clear hcz24_0
         try clear hcz24_1
         try clear hcz24_2
         try clear hcz27_0
         try clear hcz27_1
         try clear hcz27_2
         try clear hcz52_0
         try clear hcz52_1
         try clear hcz52_2
         try clear hcz54_0
         try clear hcz54_1
         try clear hcz54_2
         try clear hcz56_0
         try clear hcz56_1
         try clear hcz56_2
         try clear hcz57_0
         try clear hcz57_1
         try clear hcz57_2
         try clear hcz59_0
         try clear hcz59_1
         try clear hcz59_2
         try clear hcz61_0
         try clear hcz61_1
         try clear hcz61_2
         try clear hcz64_0
         try clear hcz64_1
         try clear hcz64_2
         try clear hfz10_0
         try clear hfz10_1
         try clear hfz10_2
         try clear hfz13_0
         try clear hfz13_1
         try clear hfz13_2
         try clear hfz17_0
         try clear hfz17_1
         try clear hfz17_2
         try clear hfz22_0
         try clear hfz22_1
         try clear hfz22_2
         try clear hfz24_0
         try clear hfz24_1
         try clear hfz24_2
         try clear hfz27_0
         try clear hfz27_1
         try clear hfz27_2
         try clear hfz52_0
         try clear hfz52_1
         try clear hfz52_2
         try clear hfz54_0
         try clear hfz54_1
         try clear hfz54_2
         try clear hfz56_0
         try clear hfz56_1
         try clear hfz56_2
         try clear hfz57_0
         try clear hfz57_1
         try clear hfz57_2
         try clear hfz59_0
         try clear hfz59_1
         try clear hfz59_2
         try clear hfz61_0
         try clear hfz61_1
         try clear hfz61_2
         try clear hfz64_0
         try clear hfz64_1
         try clear hfz64_2
         try clear hx191_0
         try clear hx191_1
         try clear hx191_2
         try clear p1
         try clear p19
         try clear p191
         try clear p2
         try clear p6
         try clear q1
         try clear q19
         try clear q191
         try clear q37
         obtain ⟨kq,x54_45,rfl,HA,HJ45,HO_0,HO_188002,HO_193002,BK187,BK192,HR191_2,HB⟩:=hcut
         cases kq with
         | zero=>exact absurd HA.out (by simp [ref26_Add.j1])
         | succ kj45 =>
          have H:=HA.out
          clear HA
          simp only [ref26_Add.j1] at H
          by_cases c66:x54_45 = true
          ·subst c66
           have H1:(if 0 ≤ ji5 then (if ji5 ≤ (l0.length:Int) then ((some (l0.take (ji5:Int).toNat:List (S39))).bind fun y217=>(if ([]:List (S39)).length + y217.length < 3518437208883 then ((some (([]:List (S39)) ++ y217:List (S39))).bind fun y222=>((some (([(⟨((rd_T39 l0 (ji5)).f0),wrap64 (((rd_T39 l0 (ji5)).f1) + a1_1),([]:List Int)⟩:S39)]:List (S39)):List (S39))).bind fun y225=>(if y222.length + y225.length < 3518437208883 then (some (y222 ++ y225)) else (none)))) else (none))) else (none)) else (none)) = some r:=by rw [if_pos rfl] at H;exact H
           clear H
           have H:=H1
           clear H1
           by_cases c67:0 ≤ ji5
           ·rw [if_pos c67] at H
            have c67b0:=eq_true c67
            have c67b1:decide (0 ≤ ji5) = true:=decide_eq_true c67
            clear c67
            by_cases c68:ji5 ≤ (l0.length:Int)
            ·rw [if_pos c68] at H
             have c68b0:=eq_true c68
             have c68b1:decide (ji5 ≤ (l0.length:Int)) = true:=decide_eq_true c68
             clear c68
             obtain ⟨y217,hy217⟩:∃ y_:List (S39),y_ = (l0.take (ji5:Int).toNat):=⟨_,rfl⟩
             replace H:(if ([]:List (S39)).length + y217.length < 3518437208883 then ((some (([]:List (S39)) ++ y217:List (S39))).bind fun y222=>((some (([(⟨((rd_T39 l0 (ji5)).f0),wrap64 (((rd_T39 l0 (ji5)).f1) + a1_1),([]:List Int)⟩:S39)]:List (S39)):List (S39))).bind fun y225=>(if y222.length + y225.length < 3518437208883 then (some (y222 ++ y225)) else (none)))) else (none)) = some r:=by first|(rw [hy217];with_reducible exact H)|(have H2_:=(Option.bind_some _ _).symm.trans H;rw [hy217];with_reducible exact H2_)|(have H2_:=(Option.bind_some _ _).symm.trans H;with_reducible exact H2_)|with_reducible exact H|(rw [hy217];exact H)|exact H
             have Ny217:=Aside0.mk hy217
             clear hy217
             by_cases c69:([]:List (S39)).length + y217.length < 3518437208883
             ·rw [if_pos c69] at H
              have LMc69:=Aside0.mk c69
              clear c69
              obtain ⟨y222,hy222⟩:∃ y_:List (S39),y_ = (([]:List (S39)) ++ y217):=⟨_,rfl⟩
              replace H:((some (([(⟨((rd_T39 l0 (ji5)).f0),wrap64 (((rd_T39 l0 (ji5)).f1) + a1_1),([]:List Int)⟩:S39)]:List (S39)):List (S39))).bind fun y225=>(if y222.length + y225.length < 3518437208883 then (some (y222 ++ y225)) else (none))) = some r:=by first|(rw [hy222];with_reducible exact H)|(have H2_:=(Option.bind_some _ _).symm.trans H;rw [hy222];with_reducible exact H2_)|(have H2_:=(Option.bind_some _ _).symm.trans H;with_reducible exact H2_)|with_reducible exact H|(rw [hy222];exact H)|exact H
              have Ny222:=Aside0.mk hy222
              clear hy222
              obtain ⟨y225,hy225⟩:∃ y_:List (S39),y_ = (([(⟨((rd_T39 l0 (ji5)).f0),wrap64 (((rd_T39 l0 (ji5)).f1) + a1_1),([]:List Int)⟩:S39)]:List (S39))):=⟨_,rfl⟩
              replace H:(if y222.length + y225.length < 3518437208883 then (some (y222 ++ y225)) else (none)) = some r:=by first|(rw [hy225];with_reducible exact H)|(have H2_:=(Option.bind_some _ _).symm.trans H;rw [hy225];with_reducible exact H2_)|(have H2_:=(Option.bind_some _ _).symm.trans H;with_reducible exact H2_)|with_reducible exact H|(rw [hy225];exact H)|exact H
              have Ny225:=Aside0.mk hy225
              clear hy225
              by_cases c70:y222.length + y225.length < 3518437208883
              ·rw [if_pos c70] at H
               have LMc70:=Aside0.mk c70
               clear c70
               obtain ⟨y228,hy228⟩:∃ y_:List (S39),y_ = (y222 ++ y225):=⟨_,rfl⟩
               replace H:(some y228) = some r:=by first|(rw [hy228];with_reducible exact H)|(have H2_:=(Option.bind_some _ _).symm.trans H;rw [hy228];with_reducible exact H2_)|(have H2_:=(Option.bind_some _ _).symm.trans H;with_reducible exact H2_)|with_reducible exact H|(rw [hy228];exact H)|exact H
               have Ny228:=Aside0.mk hy228
               clear hy228
               obtain rfl:=Option.some.inj H
               try go_wp2
               have n0_:=Aside0.mk (Kd.V_drew HO_0.out)
               have n1_:=Aside0.mk (Kd.R_drew HO_188002.out)
               have n2_:=Aside0.mk (Kd.V_drew HO_193002.out)
               have n3_:=Aside0.mk (blk_drew BK187.out)
               have n4_:=Aside0.mk (blk_drew BK192.out)
               have n5_:=Aside0.mk (Kd.C_drew HR191_2.out)
               have n6_:=Aside0.mk (below_drew1 HB.out)
               clear HO_0
               clear HO_188002
               clear HO_193002
               clear BK187
               clear BK192
               clear HR191_2
               clear HB
               have HO_0:=n0_
               have HO_188002:=n1_
               have HO_193002:=n2_
               have BK187:=n3_
               have BK192:=n4_
               have HR191_2:=n5_
               have HB:=n6_
               clear n0_ n1_ n2_ n3_ n4_ n5_ n6_
               have q72:(ji5:Int) ≤ ((l0.length:Int):Int):=of_decide_eq_true (by first|(with_reducible assumption)|assumption)
               obtain ⟨i072,hi072,_,hsz72,_⟩:=info_parts info39
               have hroom72:l0.length ≤ c0:=(Kd.V_reads' HO_0.out).2.1
               have hC72:Kd.F k39 _ _ (some ad191) l0.length l0:=(Kd.V_at (base:=w.heap.size) HO_0.out).2.2
               have hcut72:=cut_to (P:=Try.prog) 29 39 .i64 Try.underlying29 hi072 (some ad191) l0.length c0 ji5 (of_decide_eq_true (by first|(with_reducible assumption)|assumption)) q72 hroom72
               have hr72:=Kd.F_take (m:=(ji5:Int).toNat) hC72 (by omega)
               have hy72:y217.length = (ji5:Int).toNat:=(by rw [Ny217.out,List.length_take];omega)
               rw [← Ny217.out] at hr72
               rw [← hy72] at hcut72
               have HO221:=Aside0.mk (show Kd.V k39 39 _ w.heap.size _ (.slice (some ad191) y217.length c0) y217 from Kd.V_mk (by omega) hr72)
               have HC221:=Aside0.mk (show y217.length ≤ c0 from by omega)
               clear hr72 hC72 hroom72 hi072 hsz72
               have KY72:=Aside0.mk hy72
               clear hy72
               replace q72:=eq_true q72
               refine start_ (n:=15) (S:=fun w'=>w'.cell? ⟨gb192,0,none⟩ = some (.int .i64 ((rd_T39 l0 (ji5)).f0)) ∧ w'.cell? ⟨gb192,1,none⟩ = some (.int .i64 ((rd_T39 l0 (ji5)).f1)) ∧ w'.cell? ⟨gb192,2,none⟩ = some (.slice A191_2 ((rd_T39 l0 (ji5)).f2).length c191_2) ∧ w'.cell? ⟨gb187,0,none⟩ = some (.int .i64 a1_0) ∧ w'.cell? ⟨gb187,1,none⟩ = some (.int .i64 a1_1) ∧ w'.cell? ⟨gb187,2,none⟩ = some (.slice Ao12 y188.length co12)) (ds:=[]) #[false,false,false,false,false,false,false,false,false,false,false,false,false,false,false] (by kernel_rfl) rfl rfl ⟨(blk_cell BK192.out 0).trans rfl,(blk_cell BK192.out 1).trans rfl,(blk_cell BK192.out 2).trans rfl,(blk_cell BK187.out 0).trans rfl,(blk_cell BK187.out 1).trans rfl,(blk_cell BK187.out 2).trans rfl⟩ (fun hHeld=>?_);refine with_tabW ref26_Add.tab8 ref26_Add.bits8 (fun HT_ HW_=>?_)
               generalize wc.drew = w71 at HO_0 HO_188002 HO_193002 BK187 BK192 HR191_2 HB HO221 hHeld ⊢
               refine pure_ (i:=0) (N:=some 55) (v:=?_) (a':=?_) #[true,false,false,false,false,false,false,false,false,false,false,false,false,false,false] rfl rfl (any_of HT_.out (by kernel_rfl)) (fun _ _ _ h=>h) (Or.inl ⟨by rfl,?_⟩) ?_ ?_
               rotate_left
               ·intro w'
                go_simp
                with_reducible rfl
               rotate_left
               ·simp only [Act.put,List.setIfInBounds_toArray,List.set_cons_zero,List.set_cons_succ,i64_w,i32_w]
                rfl
               refine pure_ (i:=1) (N:=some 56) (v:=?_) (a':=?_) #[true,true,false,false,false,false,false,false,false,false,false,false,false,false,false] rfl rfl (any_of HT_.out (by kernel_rfl)) (fun _ _ _ h=>h) (Or.inl ⟨by rfl,?_⟩) ?_ ?_
               rotate_left
               ·intro w'
                go_simp
                with_reducible rfl
               rotate_left
               ·simp only [Act.put,List.setIfInBounds_toArray,List.set_cons_zero,List.set_cons_succ,i64_w,i32_w]
                rfl
               refine pure_ (i:=2) (N:=some 57) (v:=?_) (a':=?_) #[true,true,true,false,false,false,false,false,false,false,false,false,false,false,false] rfl rfl (any_of HT_.out (by kernel_rfl)) (fun _ _ _ h=>h) (Or.inl ⟨by rfl,?_⟩) ?_ ?_
               rotate_left
               ·intro w'
                go_simp
                with_reducible rfl
               rotate_left
               ·simp only [Act.put,List.setIfInBounds_toArray,List.set_cons_zero,List.set_cons_succ,i64_w,i32_w]
                rfl
               refine pure_ (i:=4) (N:=some 59) (v:=?_) (a':=?_) #[true,true,true,false,true,false,false,false,false,false,false,false,false,false,false] rfl rfl (any_of HT_.out (by kernel_rfl)) (fun _ _ _ h=>h) (Or.inl ⟨by rfl,?_⟩) ?_ ?_
               rotate_left
               ·intro w'
                go_simp
                with_reducible rfl
               rotate_left
               ·simp only [Act.put,List.setIfInBounds_toArray,List.set_cons_zero,List.set_cons_succ,i64_w,i32_w]
                rfl
               refine pure_ (i:=6) (N:=some 61) (v:=?_) (a':=?_) #[true,true,true,false,true,false,true,false,false,false,false,false,false,false,false] rfl rfl (any_of HT_.out (by kernel_rfl)) (fun _ _ _ h=>h) (Or.inl ⟨by rfl,?_⟩) ?_ ?_
               rotate_left
               ·intro w'
                go_simp
                with_reducible rfl
               rotate_left
               ·simp only [Act.put,List.setIfInBounds_toArray,List.set_cons_zero,List.set_cons_succ,i64_w,i32_w]
                rfl
               refine pure_ (i:=8) (N:=some 63) (v:=?_) (a':=?_) #[true,true,true,false,true,false,true,false,true,false,false,false,false,false,false] rfl rfl (any_of HT_.out (by kernel_rfl)) (fun _ _ _ h=>h) (Or.inl ⟨by rfl,?_⟩) ?_ ?_
               rotate_left
               ·intro w'
                go_simp
                with_reducible rfl
               rotate_left
               ·simp only [Act.put,List.setIfInBounds_toArray,List.set_cons_zero,List.set_cons_succ,i64_w,i32_w]
                rfl
               refine take_ (i:=5) (N:=some 60) (v:=?_) (a':=?_) #[true,true,true,false,true,true,true,false,true,false,false,false,false,false,false] rfl rfl (take_ofW HT_.out HW_.out (by kernel_rfl)) (fun _ _ _ h=>h) (Or.inl ⟨by rfl,?_⟩) hHeld ?_ ?_
               rotate_left
               ·rintro w' ⟨s0,s1,s2,s3,s4,s5⟩
                go_simp
                with_reducible rfl
               rotate_left
               ·simp only [Act.put,List.setIfInBounds_toArray,List.set_cons_zero,List.set_cons_succ,i64_w,i32_w]
                rfl
               refine take_ (i:=7) (N:=some 62) (v:=?_) (a':=?_) #[true,true,true,false,true,true,true,true,true,false,false,false,false,false,false] rfl rfl (take_ofW HT_.out HW_.out (by kernel_rfl)) (fun _ _ _ h=>h) (Or.inl ⟨by rfl,?_⟩) hHeld ?_ ?_
               rotate_left
               ·rintro w' ⟨s0,s1,s2,s3,s4,s5⟩
                go_simp
                with_reducible rfl
               rotate_left
               ·simp only [Act.put,List.setIfInBounds_toArray,List.set_cons_zero,List.set_cons_succ,i64_w,i32_w]
                rfl
               refine take_ (i:=9) (N:=some 64) (v:=?_) (a':=?_) #[true,true,true,false,true,true,true,true,true,true,false,false,false,false,false] rfl rfl (take_ofW HT_.out HW_.out (by kernel_rfl)) (fun _ _ _ h=>h) (Or.inl ⟨by rfl,?_⟩) hHeld ?_ ?_
               rotate_left
               ·rintro w' ⟨s0,s1,s2,s3,s4,s5⟩
                go_simp
                with_reducible rfl
               rotate_left
               ·simp only [Act.put,List.setIfInBounds_toArray,List.set_cons_zero,List.set_cons_succ,i64_w,i32_w]
                rfl
               refine pure_ (i:=10) (N:=some 65) (v:=?_) (a':=?_) #[true,true,true,false,true,true,true,true,true,true,true,false,false,false,false] rfl rfl (any_of HT_.out (by kernel_rfl)) (fun _ _ _ h=>h) (Or.inl ⟨by rfl,?_⟩) ?_ ?_
               rotate_left
               ·intro w'
                go_simp
                with_reducible rfl
               rotate_left
               ·simp only [Act.put,List.setIfInBounds_toArray,List.set_cons_zero,List.set_cons_succ,i64_w,i32_w]
                rfl
               refine pure_ (i:=11) (N:=some 66) (v:=?_) (a':=?_) #[true,true,true,false,true,true,true,true,true,true,true,true,false,false,false] rfl rfl (any_of HT_.out (by kernel_rfl)) (fun _ _ _ h=>h) (Or.inl ⟨by rfl,?_⟩) ?_ ?_
               rotate_left
               ·intro w'
                go_simp
                with_reducible rfl
               rotate_left
               ·simp only [Act.put,List.setIfInBounds_toArray,List.set_cons_zero,List.set_cons_succ,i64_w,i32_w]
                rfl
               refine join_ (σ:=Value × Value) 2 #[true,true,true,true,true,true,true,true,true,true,true,true,true,false,false] (fun s_=>[(58,s_.1),(67,s_.2)]) (fun s_ w'=>(w'.cell? ⟨gb192,0,none⟩ = some (.int .i64 ((rd_T39 l0 (ji5)).f0)) ∧ w'.cell? ⟨gb192,1,none⟩ = some (.int .i64 ((rd_T39 l0 (ji5)).f1)) ∧ w'.cell? ⟨gb192,2,none⟩ = some (.slice A191_2 ((rd_T39 l0 (ji5)).f2).length c191_2) ∧ w'.cell? ⟨gb187,0,none⟩ = some (.int .i64 a1_0) ∧ w'.cell? ⟨gb187,1,none⟩ = some (.int .i64 a1_1) ∧ w'.cell? ⟨gb187,2,none⟩ = some (.slice Ao12 y188.length co12)) ∧ (Kd.V k39 39 w' w.heap.size (fun k_=>(P0_ k_ ∨ w.heap.size ≤ k_) ∧ some k_ ≠ (s_.1:Value).ownBlock ∧ some k_ ≠ (s_.2:Value).ownBlock ∧ some k_ ≠ (.slice Ao12 y188.length co12:Value).ownBlock ∧ k_ ≠ gb187 ∧ k_ ≠ gb192) (.slice (some ad191) y217.length c0) y217) ∧ (Kd.N k39 39 w' w.heap.size (fun k_=>(P0_ k_ ∨ w.heap.size ≤ k_) ∧ some k_ ≠ (s_.2:Value).ownBlock ∧ some k_ ≠ (.slice Ao12 y188.length co12:Value).ownBlock ∧ k_ ≠ gb187 ∧ k_ ≠ gb192) s_.1 y222) ∧ (Kd.N k39 39 w' w.heap.size (fun k_=>(P0_ k_ ∨ w.heap.size ≤ k_) ∧ some k_ ≠ (s_.1:Value).ownBlock ∧ some k_ ≠ (.slice Ao12 y188.length co12:Value).ownBlock ∧ k_ ≠ gb187 ∧ k_ ≠ gb192) s_.2 y225) ∧ (Kd.V k39 39 w' w.heap.size (fun k_=>(P0_ k_ ∨ w.heap.size ≤ k_) ∧ some k_ ≠ (s_.1:Value).ownBlock ∧ some k_ ≠ (s_.2:Value).ownBlock ∧ some k_ ≠ (.slice Ao12 y188.length co12:Value).ownBlock ∧ k_ ≠ gb187 ∧ k_ ≠ gb192) (.slice (some ad191) l0.length c0) l0) ∧ (Kd.R (Kd.int .u8) 5 w' w.heap.size (fun k_=>(w.heap.size ≤ k_)) (.slice Ao12 y188.length co12) y188) ∧ (Kd.V (Kd.int .u8) 5 w' w.heap.size (fun k_=>(P0_ k_ ∨ w.heap.size ≤ k_) ∧ some k_ ≠ (s_.1:Value).ownBlock ∧ some k_ ≠ (s_.2:Value).ownBlock ∧ some k_ ≠ (.slice Ao12 y188.length co12:Value).ownBlock ∧ k_ ≠ gb187 ∧ k_ ≠ gb192) (.slice A191_2 ((rd_T39 l0 (ji5)).f2).length c191_2) ((rd_T39 l0 (ji5)).f2)) ∧ (w'.heap[gb187]? = some (.cells #[.int .i64 a1_0,.int .i64 a1_1,.slice Ao12 y188.length co12] 39 (0,0))) ∧ (w'.heap[gb192]? = some (.cells #[.int .i64 ((rd_T39 l0 (ji5)).f0),.int .i64 ((rd_T39 l0 (ji5)).f1),.slice A191_2 ((rd_T39 l0 (ji5)).f2).length c191_2] 39 (0,0))) ∧ (Below w.heap.size w w')) ?_ ?_
               rotate_left
               ·intro hCont
                refine two_ (i:=3) (j:=12) (Ni:=some 58) (Nj:=some 67) #[true,true,true,true,true,true,true,true,true,true,true,true,false,false,false] #[true,true,true,false,true,true,true,true,true,true,true,true,true,false,false] rfl rfl rfl rfl (two_of HT_.out (by kernel_rfl)) (by decide) (by decide) (fun K hK=>?_) (fun K hK=>?_)
                ·skip
                 refine Kd.N_append_rows_step k39 (w0:=w) w.heap.size (by rfl) (.const (.slice none 0 0)) (.tmp 57) 29 39 (.agg #[(.int .i64 0),(.int .i64 0),(.slice none 0 0)]) 40 rfl Try.underlying29 info39 rfl (by decide) (by omega) (.slice none 0 0) ([]:List (S39)) y217 _ _ _ (fun k_=>(P0_ k_ ∨ w.heap.size ≤ k_) ∧ some k_ ≠ (.slice Ao12 y188.length co12:Value).ownBlock ∧ k_ ≠ gb187 ∧ k_ ≠ gb192) (fun k_=>((fun k_=>(P0_ k_ ∨ w.heap.size ≤ k_) ∧ some k_ ≠ (.slice Ao12 y188.length co12:Value).ownBlock ∧ k_ ≠ gb187 ∧ k_ ≠ gb192)) k_ ∧ some k_ ≠ (.slice none 0 0:Value).ownBlock) rfl rfl ?aO ?aR (fun _ hk=>hk) ?aF ?aB ?aS ?aL ?_
                 (case aR=>exact (by skip;exact Kd.V_F (Kd.V_mono (ok':=(fun k_=>((fun k_=>(P0_ k_ ∨ w.heap.size ≤ k_) ∧ some k_ ≠ (.slice Ao12 y188.length co12:Value).ownBlock ∧ k_ ≠ gb187 ∧ k_ ≠ gb192)) k_ ∧ some k_ ≠ (.slice none 0 0:Value).ownBlock)) (HO221.out) (fun k_ hk=>⟨⟨hk.1,⟨hk.2.1,⟨hk.2.2.1,hk.2.2.2⟩⟩⟩,(by simp [Value.ownBlock])⟩))))
                 (case aB=>exact (by repeat (first|(with_reducible first|exact HB.out|apply below_alloc|apply pw_below_drewN|apply below_drew1|refine below_set ?_ GE187.out|refine below_set ?_ GE192.out)|exact HB.out)))
                 (case aF=>exact (fun k_ hk=>⟨(.inr (Nat.le_trans (below_size (by repeat (first|(with_reducible first|exact HB.out|apply below_alloc|apply pw_below_drewN|apply below_drew1|refine below_set ?_ GE187.out|refine below_set ?_ GE192.out)|exact HB.out))) hk)),Kd.fresh' (Kd.R_lt (by (with_reducible repeat (first|apply Kd.R_alloc|apply Kd.R_drewN|apply Kd.R_drew));exact HO_188002.out)) k_ hk,Kd.freshB (g:=gb187) (o:=.cells #[.int .i64 a1_0,.int .i64 a1_1,.slice Ao12 y188.length co12] 39 (0,0)) (by (with_reducible repeat (first|refine blk_drewN ?_ _|refine blk_drew ?_|refine blk_alloc ?_ _));exact BK187.out) k_ hk,Kd.freshB (g:=gb192) (o:=.cells #[.int .i64 ((rd_T39 l0 (ji5)).f0),.int .i64 ((rd_T39 l0 (ji5)).f1),.slice A191_2 ((rd_T39 l0 (ji5)).f2).length c191_2] 39 (0,0)) (by (with_reducible repeat (first|refine blk_drewN ?_ _|refine blk_drew ?_|refine blk_alloc ?_ _));exact BK192.out) k_ hk⟩))
                 (case aO=>exact ((Kd.N_nil _ _ _ _ (fun k_=>(P0_ k_ ∨ w.heap.size ≤ k_) ∧ some k_ ≠ (.slice Ao12 y188.length co12:Value).ownBlock ∧ k_ ≠ gb187 ∧ k_ ≠ gb192))))
                 (case aS=>exact (below_size (by repeat (first|(with_reducible first|exact HB.out|apply below_alloc|apply pw_below_drewN|apply below_drew1|refine below_set ?_ GE187.out|refine below_set ?_ GE192.out)|exact HB.out))))
                 (case aL=>have:=LMc69.out;omega)
                 intro v223 w73 ho hb hg hat
                 rw [← Ny222.out] at ho
                 have n0_:=Aside0.mk (Kd.V_afterv (Kd.V_apart_nil (by (with_reducible repeat (first|apply Kd.V_alloc|apply Kd.V_drewN|apply Kd.V_drew));exact HO_0.out)) hg hat)
                 have n1_:=Aside0.mk (Kd.R_grown (by (with_reducible repeat (first|apply Kd.R_alloc|apply Kd.R_drewN|apply Kd.R_drew));exact HO_188002.out) hg (fun _ _=>by simp [Value.ownBlock]))
                 have n2_:=Aside0.mk (Kd.V_afterv (Kd.V_apart_nil (by (with_reducible repeat (first|apply Kd.V_alloc|apply Kd.V_drewN|apply Kd.V_drew));exact HO_193002.out)) hg hat)
                 have n3_:=Aside0.mk (blk_grown (g:=gb187) (o:=.cells #[.int .i64 a1_0,.int .i64 a1_1,.slice Ao12 y188.length co12] 39 (0,0)) (by (with_reducible repeat (first|refine blk_drewN ?_ _|refine blk_drew ?_|refine blk_alloc ?_ _));exact BK187.out) hg (by simp [Value.ownBlock]))
                 have n4_:=Aside0.mk (blk_grown (g:=gb192) (o:=.cells #[.int .i64 ((rd_T39 l0 (ji5)).f0),.int .i64 ((rd_T39 l0 (ji5)).f1),.slice A191_2 ((rd_T39 l0 (ji5)).f2).length c191_2] 39 (0,0)) (by (with_reducible repeat (first|refine blk_drewN ?_ _|refine blk_drew ?_|refine blk_alloc ?_ _));exact BK192.out) hg (by simp [Value.ownBlock]))
                 have n5_:=Aside0.mk (Kd.V_afterv (Kd.V_apart_nil (by (with_reducible repeat (first|apply Kd.V_alloc|apply Kd.V_drewN|apply Kd.V_drew));exact HO221.out)) hg hat)
                 have n6_:=Aside0.mk (hb)
                 have n7_:=Aside0.mk (ho)
                 clear HO_0
                 clear HO_188002
                 clear HO_193002
                 clear BK187
                 clear BK192
                 clear HO221
                 clear HB
                 have HO_0:=n0_
                 have HO_188002:=n1_
                 have HO_193002:=n2_
                 have BK187:=n3_
                 have BK192:=n4_
                 have HO221:=n5_
                 have HB:=n6_
                 have HO224:=n7_
                 clear n0_ n1_ n2_ n3_ n4_ n5_ n6_ n7_
                 clear ho hb hg hat
                 refine hK.out _ _ ⟨(blk_cell BK192.out 0).trans rfl,(blk_cell BK192.out 1).trans rfl,(blk_cell BK192.out 2).trans rfl,(blk_cell BK187.out 0).trans rfl,(blk_cell BK187.out 1).trans rfl,(blk_cell BK187.out 2).trans rfl⟩ (fun hHeld=>?_)
                 clear hK K
                 refine norm_ (a':=?_) ?_ ?_
                 rotate_left
                 ·show Act.put _ (some 58) _ = _
                  simp only [Act.put,List.setIfInBounds_toArray,List.set_cons_zero,List.set_cons_succ,i64_w,i32_w]
                  rfl
                 refine one_ (i:=12) (N:=some 67) #[true,true,true,true,true,true,true,true,true,true,true,true,true,false,false] rfl rfl (one_of HT_.out (by kernel_rfl)) (by decide) (fun K hK=>?_)
                 refine Kd.N_lit_step k39 _ 39 ?hg (N':=67) ?hd (xs:=([(⟨((rd_T39 l0 (ji5)).f0),wrap64 (((rd_T39 l0 (ji5)).f1) + a1_1),([]:List Int)⟩:S39)]:List (S39))) (inner:=[.int .i64 ((rd_T39 l0 (ji5)).f0),.int .i64 (wrap64 (((rd_T39 l0 (ji5)).f1) + a1_1)),.slice none 0 0]) (ok:=(fun k_=>(P0_ k_ ∨ w.heap.size ≤ k_) ∧ some k_ ≠ (.slice Ao12 y188.length co12:Value).ownBlock ∧ some k_ ≠ (v223:Value).ownBlock ∧ k_ ≠ gb187 ∧ k_ ≠ gb192)) (okp:=(fun k_=>(P0_ k_ ∨ w.heap.size ≤ k_) ∧ some k_ ≠ (.slice Ao12 y188.length co12:Value).ownBlock ∧ some k_ ≠ (v223:Value).ownBlock ∧ k_ ≠ gb187 ∧ k_ ≠ gb192)) ?hr ?hp (fun _ hk=>hk) ((show ∀ k_,w73.heap.size ≤ k_ → (fun k_=>(P0_ k_ ∨ w.heap.size ≤ k_) ∧ some k_ ≠ (.slice Ao12 y188.length co12:Value).ownBlock ∧ some k_ ≠ (v223:Value).ownBlock ∧ k_ ≠ gb187 ∧ k_ ≠ gb192) k_ from fun k_ hk=>⟨(.inr (Nat.le_trans (below_size (by repeat (first|(with_reducible first|exact HB.out|apply below_alloc|apply pw_below_drewN|apply below_drew1|refine below_set ?_ GE187.out|refine below_set ?_ GE192.out)|exact HB.out))) hk)),Kd.fresh' (Kd.R_lt (by (with_reducible repeat (first|apply Kd.R_alloc|apply Kd.R_drewN|apply Kd.R_drew));exact HO_188002.out)) k_ hk,Kd.fresh' (Kd.N_lt (by (with_reducible repeat (first|apply Kd.N_alloc|apply Kd.N_drewN|apply Kd.N_drew));exact HO224.out)) k_ hk,Kd.freshB (g:=gb187) (o:=.cells #[.int .i64 a1_0,.int .i64 a1_1,.slice Ao12 y188.length co12] 39 (0,0)) (by (with_reducible repeat (first|refine blk_drewN ?_ _|refine blk_drew ?_|refine blk_alloc ?_ _));exact BK187.out) k_ hk,Kd.freshB (g:=gb192) (o:=.cells #[.int .i64 ((rd_T39 l0 (ji5)).f0),.int .i64 ((rd_T39 l0 (ji5)).f1),.slice A191_2 ((rd_T39 l0 (ji5)).f2).length c191_2] 39 (0,0)) (by (with_reducible repeat (first|refine blk_drewN ?_ _|refine blk_drew ?_|refine blk_alloc ?_ _));exact BK192.out) k_ hk⟩) _ (Nat.le_refl _)) (Below.refl _ _) (Nat.le_refl _) (by simp) ?_;(case hd=>rfl);(case hg=>rfl);(case hr=>first|(go_simp;done)|(go_simp;rfl));(case hp=>exact (Reps.c3 (show Kd.FK k39 _ _ (⟨((rd_T39 l0 (ji5)).f0),wrap64 (((rd_T39 l0 (ji5)).f1) + a1_1),([]:List Int)⟩:S39) [.int .i64 ((rd_T39 l0 (ji5)).f0),.int .i64 (wrap64 (((rd_T39 l0 (ji5)).f1) + a1_1)),.slice none 0 0] from (k39_mkF _ _ (⟨((rd_T39 l0 (ji5)).f0),wrap64 (((rd_T39 l0 (ji5)).f1) + a1_1),([]:List Int)⟩:S39) (Nat.le_refl _) (Kd.F_nil _ _ _))) (Reps.none _ _)))
                 intro v226 w74 ho75 hb hg_ hnew_
                 clear hg_ hnew_
                 (first|rw [← Ny225.out] at ho75|(simp only [Int.reduceToNat] at ho75;rw [← Ny225.out] at ho75))
                 have n0_:=Aside0.mk (Kd.V_elder' (by (with_reducible repeat (first|apply Kd.V_alloc|apply Kd.V_drewN|apply Kd.V_drew));exact HO_0.out) (by first|exact Kd.N_base ho75|exact Kd.S_base ho75) hb)
                 have n1_:=Aside0.mk (Kd.R_below (by (with_reducible repeat (first|apply Kd.R_alloc|apply Kd.R_drewN|apply Kd.R_drew));exact HO_188002.out) hb)
                 have n2_:=Aside0.mk (Kd.V_elder' (by (with_reducible repeat (first|apply Kd.V_alloc|apply Kd.V_drewN|apply Kd.V_drew));exact HO_193002.out) (by first|exact Kd.N_base ho75|exact Kd.S_base ho75) hb)
                 have n3_:=Aside0.mk (Kd.V_elder' (by (with_reducible repeat (first|apply Kd.V_alloc|apply Kd.V_drewN|apply Kd.V_drew));exact HO221.out) (by first|exact Kd.N_base ho75|exact Kd.S_base ho75) hb)
                 have n4_:=Aside0.mk (Kd.N_elder' (by (with_reducible repeat (first|apply Kd.N_alloc|apply Kd.N_drewN|apply Kd.N_drew));exact HO224.out) (by first|exact Kd.N_base ho75|exact Kd.S_base ho75) hb)
                 have n5_:=Aside0.mk (Kd.N_lower ho75 (below_size (by repeat (first|(with_reducible first|exact HB.out|apply below_alloc|apply pw_below_drewN|apply below_drew1|refine below_set ?_ GE187.out|refine below_set ?_ GE192.out)|exact HB.out))))
                 have n6_:=Aside0.mk (blk_below (g:=gb187) (o:=.cells #[.int .i64 a1_0,.int .i64 a1_1,.slice Ao12 y188.length co12] 39 (0,0)) (by (with_reducible repeat (first|refine blk_drewN ?_ _|refine blk_drew ?_|refine blk_alloc ?_ _));exact BK187.out) hb)
                 have n7_:=Aside0.mk (blk_below (g:=gb192) (o:=.cells #[.int .i64 ((rd_T39 l0 (ji5)).f0),.int .i64 ((rd_T39 l0 (ji5)).f1),.slice A191_2 ((rd_T39 l0 (ji5)).f2).length c191_2] 39 (0,0)) (by (with_reducible repeat (first|refine blk_drewN ?_ _|refine blk_drew ?_|refine blk_alloc ?_ _));exact BK192.out) hb)
                 have n8_:=Aside0.mk (below_step (by repeat (first|(with_reducible first|exact HB.out|apply below_alloc|apply pw_below_drewN|apply below_drew1|refine below_set ?_ GE187.out|refine below_set ?_ GE192.out)|exact HB.out)) hb)
                 clear HO_0
                 clear HO_188002
                 clear HO_193002
                 clear HO221
                 clear HO224
                 clear BK187
                 clear BK192
                 clear HB
                 have HO_0:=n0_
                 have HO_188002:=n1_
                 have HO_193002:=n2_
                 have HO221:=n3_
                 have HO224:=n4_
                 have HO227:=n5_
                 have BK187:=n6_
                 have BK192:=n7_
                 have HB:=n8_
                 clear n0_ n1_ n2_ n3_ n4_ n5_ n6_ n7_ n8_
                 clear hb ho75
                 refine hK.out _ _ ⟨(blk_cell BK192.out 0).trans rfl,(blk_cell BK192.out 1).trans rfl,(blk_cell BK192.out 2).trans rfl,(blk_cell BK187.out 0).trans rfl,(blk_cell BK187.out 1).trans rfl,(blk_cell BK187.out 2).trans rfl⟩ (fun hHeld=>?_)
                 clear hK K
                 refine norm_ (a':=?_) ?_ ?_
                 rotate_left
                 ·show Act.put _ (some 67) _ = _
                  simp only [Act.put,List.setIfInBounds_toArray,List.set_cons_zero,List.set_cons_succ,i64_w,i32_w]
                  rfl
                 exact norm_ (by simp only [putAll,Act.put,List.setIfInBounds_toArray,List.set_cons_zero,List.set_cons_succ]) (hCont (v223,v226) _ ⟨hHeld,(by (with_reducible repeat (first|apply Kd.V_alloc|apply Kd.V_drewN|apply Kd.V_drew));exact Kd.V_mono HO221.out (fun _ hk=>⟨hk.1.1.1,⟨hk.1.2,⟨hk.2,⟨hk.1.1.2.1,⟨hk.1.1.2.2.1,hk.1.1.2.2.2⟩⟩⟩⟩⟩)),(by (with_reducible repeat (first|apply Kd.N_alloc|apply Kd.N_drewN|apply Kd.N_drew));exact Kd.N_mono HO224.out (fun _ hk=>⟨hk.1.1,⟨hk.2,⟨hk.1.2.1,⟨hk.1.2.2.1,hk.1.2.2.2⟩⟩⟩⟩)),(by (with_reducible repeat (first|apply Kd.N_alloc|apply Kd.N_drewN|apply Kd.N_drew));exact Kd.N_mono HO227.out (fun _ hk=>⟨hk.1,⟨hk.2.2.1,⟨hk.2.1,⟨hk.2.2.2.1,hk.2.2.2.2⟩⟩⟩⟩)),(by (with_reducible repeat (first|apply Kd.V_alloc|apply Kd.V_drewN|apply Kd.V_drew));exact Kd.V_mono HO_0.out (fun _ hk=>⟨hk.1.1.1,⟨hk.1.2,⟨hk.2,⟨hk.1.1.2.1,⟨hk.1.1.2.2.1,hk.1.1.2.2.2⟩⟩⟩⟩⟩)),(by (with_reducible repeat (first|apply Kd.R_alloc|apply Kd.R_drewN|apply Kd.R_drew));exact HO_188002.out),(by (with_reducible repeat (first|apply Kd.V_alloc|apply Kd.V_drewN|apply Kd.V_drew));exact Kd.V_mono HO_193002.out (fun _ hk=>⟨hk.1.1.1,⟨hk.1.2,⟨hk.2,⟨hk.1.1.2.1,⟨hk.1.1.2.2.1,hk.1.1.2.2.2⟩⟩⟩⟩⟩)),(by (with_reducible repeat (first|refine blk_drewN ?_ _|refine blk_drew ?_|refine blk_alloc ?_ _));exact BK187.out),(by (with_reducible repeat (first|refine blk_drewN ?_ _|refine blk_drew ?_|refine blk_alloc ?_ _));exact BK192.out),(by repeat (first|(with_reducible first|exact HB.out|apply below_alloc|apply pw_below_drewN|apply below_drew1|refine below_set ?_ GE187.out|refine below_set ?_ GE192.out)|exact HB.out))⟩)
                ·skip
                 refine Kd.N_lit_step k39 _ 39 ?hg (N':=67) ?hd (xs:=([(⟨((rd_T39 l0 (ji5)).f0),wrap64 (((rd_T39 l0 (ji5)).f1) + a1_1),([]:List Int)⟩:S39)]:List (S39))) (inner:=[.int .i64 ((rd_T39 l0 (ji5)).f0),.int .i64 (wrap64 (((rd_T39 l0 (ji5)).f1) + a1_1)),.slice none 0 0]) (ok:=(fun k_=>(P0_ k_ ∨ w.heap.size ≤ k_) ∧ some k_ ≠ (.slice Ao12 y188.length co12:Value).ownBlock ∧ k_ ≠ gb187 ∧ k_ ≠ gb192)) (okp:=(fun k_=>(P0_ k_ ∨ w.heap.size ≤ k_) ∧ some k_ ≠ (.slice Ao12 y188.length co12:Value).ownBlock ∧ k_ ≠ gb187 ∧ k_ ≠ gb192)) ?hr ?hp (fun _ hk=>hk) ((show ∀ k_,w71.heap.size ≤ k_ → (fun k_=>(P0_ k_ ∨ w.heap.size ≤ k_) ∧ some k_ ≠ (.slice Ao12 y188.length co12:Value).ownBlock ∧ k_ ≠ gb187 ∧ k_ ≠ gb192) k_ from fun k_ hk=>⟨(.inr (Nat.le_trans (below_size (by repeat (first|(with_reducible first|exact HB.out|apply below_alloc|apply pw_below_drewN|apply below_drew1|refine below_set ?_ GE187.out|refine below_set ?_ GE192.out)|exact HB.out))) hk)),Kd.fresh' (Kd.R_lt (by (with_reducible repeat (first|apply Kd.R_alloc|apply Kd.R_drewN|apply Kd.R_drew));exact HO_188002.out)) k_ hk,Kd.freshB (g:=gb187) (o:=.cells #[.int .i64 a1_0,.int .i64 a1_1,.slice Ao12 y188.length co12] 39 (0,0)) (by (with_reducible repeat (first|refine blk_drewN ?_ _|refine blk_drew ?_|refine blk_alloc ?_ _));exact BK187.out) k_ hk,Kd.freshB (g:=gb192) (o:=.cells #[.int .i64 ((rd_T39 l0 (ji5)).f0),.int .i64 ((rd_T39 l0 (ji5)).f1),.slice A191_2 ((rd_T39 l0 (ji5)).f2).length c191_2] 39 (0,0)) (by (with_reducible repeat (first|refine blk_drewN ?_ _|refine blk_drew ?_|refine blk_alloc ?_ _));exact BK192.out) k_ hk⟩) _ (Nat.le_refl _)) (Below.refl _ _) (Nat.le_refl _) (by simp) ?_;(case hd=>rfl);(case hg=>rfl);(case hr=>first|(go_simp;done)|(go_simp;rfl));(case hp=>exact (Reps.c3 (show Kd.FK k39 _ _ (⟨((rd_T39 l0 (ji5)).f0),wrap64 (((rd_T39 l0 (ji5)).f1) + a1_1),([]:List Int)⟩:S39) [.int .i64 ((rd_T39 l0 (ji5)).f0),.int .i64 (wrap64 (((rd_T39 l0 (ji5)).f1) + a1_1)),.slice none 0 0] from (k39_mkF _ _ (⟨((rd_T39 l0 (ji5)).f0),wrap64 (((rd_T39 l0 (ji5)).f1) + a1_1),([]:List Int)⟩:S39) (Nat.le_refl _) (Kd.F_nil _ _ _))) (Reps.none _ _)))
                 intro v226 w73 ho74 hb hg_ hnew_
                 clear hg_ hnew_
                 (first|rw [← Ny225.out] at ho74|(simp only [Int.reduceToNat] at ho74;rw [← Ny225.out] at ho74))
                 have n0_:=Aside0.mk (Kd.V_elder' (by (with_reducible repeat (first|apply Kd.V_alloc|apply Kd.V_drewN|apply Kd.V_drew));exact HO_0.out) (by first|exact Kd.N_base ho74|exact Kd.S_base ho74) hb)
                 have n1_:=Aside0.mk (Kd.R_below (by (with_reducible repeat (first|apply Kd.R_alloc|apply Kd.R_drewN|apply Kd.R_drew));exact HO_188002.out) hb)
                 have n2_:=Aside0.mk (Kd.V_elder' (by (with_reducible repeat (first|apply Kd.V_alloc|apply Kd.V_drewN|apply Kd.V_drew));exact HO_193002.out) (by first|exact Kd.N_base ho74|exact Kd.S_base ho74) hb)
                 have n3_:=Aside0.mk (Kd.V_elder' (by (with_reducible repeat (first|apply Kd.V_alloc|apply Kd.V_drewN|apply Kd.V_drew));exact HO221.out) (by first|exact Kd.N_base ho74|exact Kd.S_base ho74) hb)
                 have n4_:=Aside0.mk (Kd.N_lower ho74 (below_size (by repeat (first|(with_reducible first|exact HB.out|apply below_alloc|apply pw_below_drewN|apply below_drew1|refine below_set ?_ GE187.out|refine below_set ?_ GE192.out)|exact HB.out))))
                 have n5_:=Aside0.mk (blk_below (g:=gb187) (o:=.cells #[.int .i64 a1_0,.int .i64 a1_1,.slice Ao12 y188.length co12] 39 (0,0)) (by (with_reducible repeat (first|refine blk_drewN ?_ _|refine blk_drew ?_|refine blk_alloc ?_ _));exact BK187.out) hb)
                 have n6_:=Aside0.mk (blk_below (g:=gb192) (o:=.cells #[.int .i64 ((rd_T39 l0 (ji5)).f0),.int .i64 ((rd_T39 l0 (ji5)).f1),.slice A191_2 ((rd_T39 l0 (ji5)).f2).length c191_2] 39 (0,0)) (by (with_reducible repeat (first|refine blk_drewN ?_ _|refine blk_drew ?_|refine blk_alloc ?_ _));exact BK192.out) hb)
                 have n7_:=Aside0.mk (Kd.C_below (by repeat (first|(with_reducible exact HR191_2.out)|(with_reducible refine Kd.C_alloc ?_ _)|(with_reducible refine Kd.C_drewN ?_ _)|(with_reducible refine Kd.C_drew ?_)|exact HR191_2.out)) hb)
                 have n8_:=Aside0.mk (below_step (by repeat (first|(with_reducible first|exact HB.out|apply below_alloc|apply pw_below_drewN|apply below_drew1|refine below_set ?_ GE187.out|refine below_set ?_ GE192.out)|exact HB.out)) hb)
                 clear HO_0
                 clear HO_188002
                 clear HO_193002
                 clear HO221
                 clear BK187
                 clear BK192
                 clear HR191_2
                 clear HB
                 have HO_0:=n0_
                 have HO_188002:=n1_
                 have HO_193002:=n2_
                 have HO221:=n3_
                 have HO227:=n4_
                 have BK187:=n5_
                 have BK192:=n6_
                 have HR191_2:=n7_
                 have HB:=n8_
                 clear n0_ n1_ n2_ n3_ n4_ n5_ n6_ n7_ n8_
                 clear hb ho74
                 refine hK.out _ _ ⟨(blk_cell BK192.out 0).trans rfl,(blk_cell BK192.out 1).trans rfl,(blk_cell BK192.out 2).trans rfl,(blk_cell BK187.out 0).trans rfl,(blk_cell BK187.out 1).trans rfl,(blk_cell BK187.out 2).trans rfl⟩ (fun hHeld=>?_)
                 clear hK K
                 refine norm_ (a':=?_) ?_ ?_
                 rotate_left
                 ·show Act.put _ (some 67) _ = _
                  simp only [Act.put,List.setIfInBounds_toArray,List.set_cons_zero,List.set_cons_succ,i64_w,i32_w]
                  rfl
                 refine one_ (i:=3) (N:=some 58) #[true,true,true,true,true,true,true,true,true,true,true,true,true,false,false] rfl rfl (one_of HT_.out (by kernel_rfl)) (by decide) (fun K hK=>?_)
                 refine Kd.N_append_rows_step k39 (w0:=w) w.heap.size (by rfl) (.const (.slice none 0 0)) (.tmp 57) 29 39 (.agg #[(.int .i64 0),(.int .i64 0),(.slice none 0 0)]) 40 rfl Try.underlying29 info39 rfl (by decide) (by omega) (.slice none 0 0) ([]:List (S39)) y217 _ _ _ (fun k_=>(P0_ k_ ∨ w.heap.size ≤ k_) ∧ some k_ ≠ (.slice Ao12 y188.length co12:Value).ownBlock ∧ some k_ ≠ (v226:Value).ownBlock ∧ k_ ≠ gb187 ∧ k_ ≠ gb192) (fun k_=>((fun k_=>(P0_ k_ ∨ w.heap.size ≤ k_) ∧ some k_ ≠ (.slice Ao12 y188.length co12:Value).ownBlock ∧ some k_ ≠ (v226:Value).ownBlock ∧ k_ ≠ gb187 ∧ k_ ≠ gb192)) k_ ∧ some k_ ≠ (.slice none 0 0:Value).ownBlock) rfl rfl ?aO ?aR (fun _ hk=>hk) ?aF ?aB ?aS ?aL ?_
                 (case aR=>exact (by skip;exact Kd.V_F (Kd.V_mono (ok':=(fun k_=>((fun k_=>(P0_ k_ ∨ w.heap.size ≤ k_) ∧ some k_ ≠ (.slice Ao12 y188.length co12:Value).ownBlock ∧ some k_ ≠ (v226:Value).ownBlock ∧ k_ ≠ gb187 ∧ k_ ≠ gb192)) k_ ∧ some k_ ≠ (.slice none 0 0:Value).ownBlock)) (HO221.out) (fun k_ hk=>⟨⟨hk.1.1,⟨hk.1.2.1,⟨hk.2,⟨hk.1.2.2.1,hk.1.2.2.2⟩⟩⟩⟩,(by simp [Value.ownBlock])⟩))))
                 (case aB=>exact (by repeat (first|(with_reducible first|exact HB.out|apply below_alloc|apply pw_below_drewN|apply below_drew1|refine below_set ?_ GE187.out|refine below_set ?_ GE192.out)|exact HB.out)))
                 (case aF=>exact (fun k_ hk=>⟨(.inr (Nat.le_trans (below_size (by repeat (first|(with_reducible first|exact HB.out|apply below_alloc|apply pw_below_drewN|apply below_drew1|refine below_set ?_ GE187.out|refine below_set ?_ GE192.out)|exact HB.out))) hk)),Kd.fresh' (Kd.R_lt (by (with_reducible repeat (first|apply Kd.R_alloc|apply Kd.R_drewN|apply Kd.R_drew));exact HO_188002.out)) k_ hk,Kd.fresh' (Kd.N_lt (by (with_reducible repeat (first|apply Kd.N_alloc|apply Kd.N_drewN|apply Kd.N_drew));exact HO227.out)) k_ hk,Kd.freshB (g:=gb187) (o:=.cells #[.int .i64 a1_0,.int .i64 a1_1,.slice Ao12 y188.length co12] 39 (0,0)) (by (with_reducible repeat (first|refine blk_drewN ?_ _|refine blk_drew ?_|refine blk_alloc ?_ _));exact BK187.out) k_ hk,Kd.freshB (g:=gb192) (o:=.cells #[.int .i64 ((rd_T39 l0 (ji5)).f0),.int .i64 ((rd_T39 l0 (ji5)).f1),.slice A191_2 ((rd_T39 l0 (ji5)).f2).length c191_2] 39 (0,0)) (by (with_reducible repeat (first|refine blk_drewN ?_ _|refine blk_drew ?_|refine blk_alloc ?_ _));exact BK192.out) k_ hk⟩))
                 (case aO=>exact ((Kd.N_nil _ _ _ _ (fun k_=>(P0_ k_ ∨ w.heap.size ≤ k_) ∧ some k_ ≠ (.slice Ao12 y188.length co12:Value).ownBlock ∧ some k_ ≠ (v226:Value).ownBlock ∧ k_ ≠ gb187 ∧ k_ ≠ gb192))))
                 (case aS=>exact (below_size (by repeat (first|(with_reducible first|exact HB.out|apply below_alloc|apply pw_below_drewN|apply below_drew1|refine below_set ?_ GE187.out|refine below_set ?_ GE192.out)|exact HB.out))))
                 (case aL=>have:=LMc69.out;omega)
                 intro v223 w75 ho hb hg hat
                 rw [← Ny222.out] at ho
                 have n0_:=Aside0.mk (Kd.V_afterv (Kd.V_apart_nil (by (with_reducible repeat (first|apply Kd.V_alloc|apply Kd.V_drewN|apply Kd.V_drew));exact HO_0.out)) hg hat)
                 have n1_:=Aside0.mk (Kd.R_grown (by (with_reducible repeat (first|apply Kd.R_alloc|apply Kd.R_drewN|apply Kd.R_drew));exact HO_188002.out) hg (fun _ _=>by simp [Value.ownBlock]))
                 have n2_:=Aside0.mk (Kd.V_afterv (Kd.V_apart_nil (by (with_reducible repeat (first|apply Kd.V_alloc|apply Kd.V_drewN|apply Kd.V_drew));exact HO_193002.out)) hg hat)
                 have n3_:=Aside0.mk (blk_grown (g:=gb187) (o:=.cells #[.int .i64 a1_0,.int .i64 a1_1,.slice Ao12 y188.length co12] 39 (0,0)) (by (with_reducible repeat (first|refine blk_drewN ?_ _|refine blk_drew ?_|refine blk_alloc ?_ _));exact BK187.out) hg (by simp [Value.ownBlock]))
                 have n4_:=Aside0.mk (blk_grown (g:=gb192) (o:=.cells #[.int .i64 ((rd_T39 l0 (ji5)).f0),.int .i64 ((rd_T39 l0 (ji5)).f1),.slice A191_2 ((rd_T39 l0 (ji5)).f2).length c191_2] 39 (0,0)) (by (with_reducible repeat (first|refine blk_drewN ?_ _|refine blk_drew ?_|refine blk_alloc ?_ _));exact BK192.out) hg (by simp [Value.ownBlock]))
                 have n5_:=Aside0.mk (Kd.V_afterv (Kd.V_apart_nil (by (with_reducible repeat (first|apply Kd.V_alloc|apply Kd.V_drewN|apply Kd.V_drew));exact HO221.out)) hg hat)
                 have n6_:=Aside0.mk (Kd.N_afterv (Kd.N_apart_nil (by (with_reducible repeat (first|apply Kd.N_alloc|apply Kd.N_drewN|apply Kd.N_drew));exact HO227.out)) hg hat)
                 have n7_:=Aside0.mk (hb)
                 have n8_:=Aside0.mk (ho)
                 clear HO_0
                 clear HO_188002
                 clear HO_193002
                 clear BK187
                 clear BK192
                 clear HO221
                 clear HO227
                 clear HB
                 have HO_0:=n0_
                 have HO_188002:=n1_
                 have HO_193002:=n2_
                 have BK187:=n3_
                 have BK192:=n4_
                 have HO221:=n5_
                 have HO227:=n6_
                 have HB:=n7_
                 have HO224:=n8_
                 clear n0_ n1_ n2_ n3_ n4_ n5_ n6_ n7_ n8_
                 clear ho hb hg hat
                 refine hK.out _ _ ⟨(blk_cell BK192.out 0).trans rfl,(blk_cell BK192.out 1).trans rfl,(blk_cell BK192.out 2).trans rfl,(blk_cell BK187.out 0).trans rfl,(blk_cell BK187.out 1).trans rfl,(blk_cell BK187.out 2).trans rfl⟩ (fun hHeld=>?_)
                 clear hK K
                 refine norm_ (a':=?_) ?_ ?_
                 rotate_left
                 ·show Act.put _ (some 58) _ = _
                  simp only [Act.put,List.setIfInBounds_toArray,List.set_cons_zero,List.set_cons_succ,i64_w,i32_w]
                  rfl
                 exact norm_ (by simp only [putAll,Act.put,List.setIfInBounds_toArray,List.set_cons_zero,List.set_cons_succ]) (hCont (v223,v226) _ ⟨hHeld,(by (with_reducible repeat (first|apply Kd.V_alloc|apply Kd.V_drewN|apply Kd.V_drew));exact Kd.V_mono HO221.out (fun _ hk=>⟨hk.1.1.1,⟨hk.2,⟨hk.1.2,⟨hk.1.1.2.1,⟨hk.1.1.2.2.1,hk.1.1.2.2.2⟩⟩⟩⟩⟩)),(by (with_reducible repeat (first|apply Kd.N_alloc|apply Kd.N_drewN|apply Kd.N_drew));exact Kd.N_mono HO224.out (fun _ hk=>⟨hk.1,⟨hk.2.2.1,⟨hk.2.1,⟨hk.2.2.2.1,hk.2.2.2.2⟩⟩⟩⟩)),(by (with_reducible repeat (first|apply Kd.N_alloc|apply Kd.N_drewN|apply Kd.N_drew));exact Kd.N_mono HO227.out (fun _ hk=>⟨hk.1.1,⟨hk.2,⟨hk.1.2.1,⟨hk.1.2.2.1,hk.1.2.2.2⟩⟩⟩⟩)),(by (with_reducible repeat (first|apply Kd.V_alloc|apply Kd.V_drewN|apply Kd.V_drew));exact Kd.V_mono HO_0.out (fun _ hk=>⟨hk.1.1.1,⟨hk.2,⟨hk.1.2,⟨hk.1.1.2.1,⟨hk.1.1.2.2.1,hk.1.1.2.2.2⟩⟩⟩⟩⟩)),(by (with_reducible repeat (first|apply Kd.R_alloc|apply Kd.R_drewN|apply Kd.R_drew));exact HO_188002.out),(by (with_reducible repeat (first|apply Kd.V_alloc|apply Kd.V_drewN|apply Kd.V_drew));exact Kd.V_mono HO_193002.out (fun _ hk=>⟨hk.1.1.1,⟨hk.2,⟨hk.1.2,⟨hk.1.1.2.1,⟨hk.1.1.2.2.1,hk.1.1.2.2.2⟩⟩⟩⟩⟩)),(by (with_reducible repeat (first|refine blk_drewN ?_ _|refine blk_drew ?_|refine blk_alloc ?_ _));exact BK187.out),(by (with_reducible repeat (first|refine blk_drewN ?_ _|refine blk_drew ?_|refine blk_alloc ?_ _));exact BK192.out),(by repeat (first|(with_reducible first|exact HB.out|apply below_alloc|apply pw_below_drewN|apply below_drew1|refine below_set ?_ GE187.out|refine below_set ?_ GE192.out)|exact HB.out))⟩)
               rintro ⟨v223,v226⟩ w76 ⟨hS_,h0_,h1_,h2_,h3_,h4_,h5_,h6_,h7_,h8_⟩
               have n0_:Aside0 (Kd.V k39 39 w76 w.heap.size (fun k_=>(P0_ k_ ∨ w.heap.size ≤ k_) ∧ some k_ ≠ (v223:Value).ownBlock ∧ some k_ ≠ (v226:Value).ownBlock ∧ some k_ ≠ (.slice Ao12 y188.length co12:Value).ownBlock ∧ k_ ≠ gb187 ∧ k_ ≠ gb192) (.slice (some ad191) y217.length c0) y217):=⟨h0_⟩
               have n1_:Aside0 (Kd.N k39 39 w76 w.heap.size (fun k_=>(P0_ k_ ∨ w.heap.size ≤ k_) ∧ some k_ ≠ (v226:Value).ownBlock ∧ some k_ ≠ (.slice Ao12 y188.length co12:Value).ownBlock ∧ k_ ≠ gb187 ∧ k_ ≠ gb192) v223 y222):=⟨h1_⟩
               have n2_:Aside0 (Kd.N k39 39 w76 w.heap.size (fun k_=>(P0_ k_ ∨ w.heap.size ≤ k_) ∧ some k_ ≠ (v223:Value).ownBlock ∧ some k_ ≠ (.slice Ao12 y188.length co12:Value).ownBlock ∧ k_ ≠ gb187 ∧ k_ ≠ gb192) v226 y225):=⟨h2_⟩
               have n3_:Aside0 (Kd.V k39 39 w76 w.heap.size (fun k_=>(P0_ k_ ∨ w.heap.size ≤ k_) ∧ some k_ ≠ (v223:Value).ownBlock ∧ some k_ ≠ (v226:Value).ownBlock ∧ some k_ ≠ (.slice Ao12 y188.length co12:Value).ownBlock ∧ k_ ≠ gb187 ∧ k_ ≠ gb192) (.slice (some ad191) l0.length c0) l0):=⟨h3_⟩
               have n4_:Aside0 (Kd.R (Kd.int .u8) 5 w76 w.heap.size (fun k_=>(w.heap.size ≤ k_)) (.slice Ao12 y188.length co12) y188):=⟨h4_⟩
               have n5_:Aside0 (Kd.V (Kd.int .u8) 5 w76 w.heap.size (fun k_=>(P0_ k_ ∨ w.heap.size ≤ k_) ∧ some k_ ≠ (v223:Value).ownBlock ∧ some k_ ≠ (v226:Value).ownBlock ∧ some k_ ≠ (.slice Ao12 y188.length co12:Value).ownBlock ∧ k_ ≠ gb187 ∧ k_ ≠ gb192) (.slice A191_2 ((rd_T39 l0 (ji5)).f2).length c191_2) ((rd_T39 l0 (ji5)).f2)):=⟨h5_⟩
               have n6_:Aside0 (w76.heap[gb187]? = some (.cells #[.int .i64 a1_0,.int .i64 a1_1,.slice Ao12 y188.length co12] 39 (0,0))):=⟨h6_⟩
               have n7_:Aside0 (w76.heap[gb192]? = some (.cells #[.int .i64 ((rd_T39 l0 (ji5)).f0),.int .i64 ((rd_T39 l0 (ji5)).f1),.slice A191_2 ((rd_T39 l0 (ji5)).f2).length c191_2] 39 (0,0))):=⟨h7_⟩
               have n8_:Aside0 (Below w.heap.size w w76):=⟨h8_⟩
               clear HO_0
               clear HO_188002
               clear HO_193002
               clear BK187
               clear BK192
               clear HR191_2
               clear HB
               clear h0_ h1_ h2_ h3_ h4_ h5_ h6_ h7_ h8_
               have HO221:=n0_
               have HO224:=n1_
               have HO227:=n2_
               have HO_0:=n3_
               have HO_188002:=n4_
               have HO_193002:=n5_
               have BK187:=n6_
               have BK192:=n7_
               have HB:=n8_
               clear n0_ n1_ n2_ n3_ n4_ n5_ n6_ n7_ n8_
               have hHeld:w76.cell? ⟨gb192,0,none⟩ = some (.int .i64 ((rd_T39 l0 (ji5)).f0)) ∧ w76.cell? ⟨gb192,1,none⟩ = some (.int .i64 ((rd_T39 l0 (ji5)).f1)) ∧ w76.cell? ⟨gb192,2,none⟩ = some (.slice A191_2 ((rd_T39 l0 (ji5)).f2).length c191_2) ∧ w76.cell? ⟨gb187,0,none⟩ = some (.int .i64 a1_0) ∧ w76.cell? ⟨gb187,1,none⟩ = some (.int .i64 a1_1) ∧ w76.cell? ⟨gb187,2,none⟩ = some (.slice Ao12 y188.length co12):=hS_
               obtain ⟨Ao78,co78,eo78⟩:=Kd.N_slice HO227.out
               (first|subst eo78|(injection eo78 with f1_ f2_ f3_;have f4_:=f1_.symm;have f5_:=f3_.symm;clear f1_ f2_ f3_;subst f4_;subst f5_))
               refine norm_ (a':=?_) ?_ ?_
               rotate_left
               ·simp only [putAll,Act.put,List.setIfInBounds_toArray,List.set_cons_zero,List.set_cons_succ]
                rfl
               refine one_ (i:=13) (N:=some 68) #[true,true,true,true,true,true,true,true,true,true,true,true,true,true,false] rfl rfl (one_of HT_.out (by kernel_rfl)) (by decide) (fun K hK=>?_)
               refine Kd.N_append_rows_step k39 (w0:=w) w.heap.size (by rfl) (.tmp 58) (.tmp 67) 29 39 (.agg #[(.int .i64 0),(.int .i64 0),(.slice none 0 0)]) 40 rfl Try.underlying29 info39 rfl (by decide) (by omega) v223 y222 y225 _ _ _ (fun k_=>(P0_ k_ ∨ w.heap.size ≤ k_) ∧ some k_ ≠ (.slice Ao12 y188.length co12:Value).ownBlock ∧ k_ ≠ gb187 ∧ k_ ≠ gb192) (fun k_=>((fun k_=>(P0_ k_ ∨ w.heap.size ≤ k_) ∧ some k_ ≠ (.slice Ao12 y188.length co12:Value).ownBlock ∧ k_ ≠ gb187 ∧ k_ ≠ gb192)) k_ ∧ some k_ ≠ (v223:Value).ownBlock) rfl rfl ?aO ?aR (fun _ hk=>hk) ?aF ?aB ?aS ?aL ?_
               (case aR=>exact (by skip;exact Kd.N_F (Kd.N_mono (ok':=(fun k_=>((fun k_=>(P0_ k_ ∨ w.heap.size ≤ k_) ∧ some k_ ≠ (.slice Ao12 y188.length co12:Value).ownBlock ∧ k_ ≠ gb187 ∧ k_ ≠ gb192)) k_ ∧ some k_ ≠ (v223:Value).ownBlock)) (HO227.out) (fun k_ hk=>⟨⟨hk.1,⟨hk.2.2.1,⟨hk.2.2.2.1,hk.2.2.2.2⟩⟩⟩,hk.2.1⟩))))
               (case aB=>exact (by repeat (first|(with_reducible first|exact HB.out|apply below_alloc|apply pw_below_drewN|apply below_drew1|refine below_set ?_ GE187.out|refine below_set ?_ GE192.out)|exact HB.out)))
               (case aF=>exact (fun k_ hk=>⟨(.inr (Nat.le_trans (below_size (by repeat (first|(with_reducible first|exact HB.out|apply below_alloc|apply pw_below_drewN|apply below_drew1|refine below_set ?_ GE187.out|refine below_set ?_ GE192.out)|exact HB.out))) hk)),Kd.fresh' (Kd.R_lt (by (with_reducible repeat (first|apply Kd.R_alloc|apply Kd.R_drewN|apply Kd.R_drew));exact HO_188002.out)) k_ hk,Kd.freshB (g:=gb187) (o:=.cells #[.int .i64 a1_0,.int .i64 a1_1,.slice Ao12 y188.length co12] 39 (0,0)) (by (with_reducible repeat (first|refine blk_drewN ?_ _|refine blk_drew ?_|refine blk_alloc ?_ _));exact BK187.out) k_ hk,Kd.freshB (g:=gb192) (o:=.cells #[.int .i64 ((rd_T39 l0 (ji5)).f0),.int .i64 ((rd_T39 l0 (ji5)).f1),.slice A191_2 ((rd_T39 l0 (ji5)).f2).length c191_2] 39 (0,0)) (by (with_reducible repeat (first|refine blk_drewN ?_ _|refine blk_drew ?_|refine blk_alloc ?_ _));exact BK192.out) k_ hk⟩))
               (case aO=>exact (by (with_reducible repeat (first|apply Kd.N_alloc|apply Kd.N_drewN|apply Kd.N_drew));exact Kd.N_mono HO224.out (fun _ hk=>⟨hk.1,⟨hk.2.2.1,⟨hk.2.2.2.1,hk.2.2.2.2⟩⟩⟩)))
               (case aS=>exact (below_size (by repeat (first|(with_reducible first|exact HB.out|apply below_alloc|apply pw_below_drewN|apply below_drew1|refine below_set ?_ GE187.out|refine below_set ?_ GE192.out)|exact HB.out))))
               (case aL=>have:=LMc70.out;omega)
               intro v229 w77 ho hb hg hat
               rw [← Ny228.out] at ho
               have n0_:=Aside0.mk (Kd.V_afterv (ok:=(fun k_=>(P0_ k_ ∨ w.heap.size ≤ k_) ∧ some k_ ≠ (.slice Ao12 y188.length co12:Value).ownBlock ∧ some k_ ≠ (.slice Ao78 y225.length co78:Value).ownBlock ∧ k_ ≠ gb187 ∧ k_ ≠ gb192)) (by (with_reducible repeat (first|apply Kd.V_alloc|apply Kd.V_drewN|apply Kd.V_drew));exact Kd.V_mono HO_0.out (fun _ hk=>⟨⟨hk.1,⟨hk.2.2.2.1,⟨hk.2.2.1,⟨hk.2.2.2.2.1,hk.2.2.2.2.2⟩⟩⟩⟩,hk.2.1⟩)) hg hat)
               have n1_:=Aside0.mk (Kd.R_over' (by (with_reducible repeat (first|apply Kd.R_alloc|apply Kd.R_drewN|apply Kd.R_drew));exact HO_188002.out) (Kd.N_typed (by (with_reducible repeat (first|apply Kd.N_alloc|apply Kd.N_drewN|apply Kd.N_drew));exact HO224.out)) (by decide) hg)
               have n2_:=Aside0.mk (Kd.V_afterv (ok:=(fun k_=>(P0_ k_ ∨ w.heap.size ≤ k_) ∧ some k_ ≠ (.slice Ao12 y188.length co12:Value).ownBlock ∧ some k_ ≠ (.slice Ao78 y225.length co78:Value).ownBlock ∧ k_ ≠ gb187 ∧ k_ ≠ gb192)) (by (with_reducible repeat (first|apply Kd.V_alloc|apply Kd.V_drewN|apply Kd.V_drew));exact Kd.V_mono HO_193002.out (fun _ hk=>⟨⟨hk.1,⟨hk.2.2.2.1,⟨hk.2.2.1,⟨hk.2.2.2.2.1,hk.2.2.2.2.2⟩⟩⟩⟩,hk.2.1⟩)) hg hat)
               have n3_:=Aside0.mk (blk_grown (g:=gb187) (o:=.cells #[.int .i64 a1_0,.int .i64 a1_1,.slice Ao12 y188.length co12] 39 (0,0)) (by (with_reducible repeat (first|refine blk_drewN ?_ _|refine blk_drew ?_|refine blk_alloc ?_ _));exact BK187.out) hg (Kd.N_away HO224.out (fun _ hk=>hk.2.2.2.1)))
               have n4_:=Aside0.mk (blk_grown (g:=gb192) (o:=.cells #[.int .i64 ((rd_T39 l0 (ji5)).f0),.int .i64 ((rd_T39 l0 (ji5)).f1),.slice A191_2 ((rd_T39 l0 (ji5)).f2).length c191_2] 39 (0,0)) (by (with_reducible repeat (first|refine blk_drewN ?_ _|refine blk_drew ?_|refine blk_alloc ?_ _));exact BK192.out) hg (Kd.N_away HO224.out (fun _ hk=>hk.2.2.2.2)))
               have n5_:=Aside0.mk (Kd.V_afterv (ok:=(fun k_=>(P0_ k_ ∨ w.heap.size ≤ k_) ∧ some k_ ≠ (.slice Ao12 y188.length co12:Value).ownBlock ∧ some k_ ≠ (.slice Ao78 y225.length co78:Value).ownBlock ∧ k_ ≠ gb187 ∧ k_ ≠ gb192)) (by (with_reducible repeat (first|apply Kd.V_alloc|apply Kd.V_drewN|apply Kd.V_drew));exact Kd.V_mono HO221.out (fun _ hk=>⟨⟨hk.1,⟨hk.2.2.2.1,⟨hk.2.2.1,⟨hk.2.2.2.2.1,hk.2.2.2.2.2⟩⟩⟩⟩,hk.2.1⟩)) hg hat)
               have n6_:=Aside0.mk (Kd.N_afterv (ok:=(fun k_=>(P0_ k_ ∨ w.heap.size ≤ k_) ∧ some k_ ≠ (.slice Ao12 y188.length co12:Value).ownBlock ∧ k_ ≠ gb187 ∧ k_ ≠ gb192)) (by (with_reducible repeat (first|apply Kd.N_alloc|apply Kd.N_drewN|apply Kd.N_drew));exact Kd.N_mono HO227.out (fun _ hk=>⟨⟨hk.1,⟨hk.2.2.1,⟨hk.2.2.2.1,hk.2.2.2.2⟩⟩⟩,hk.2.1⟩)) hg hat)
               have n7_:=Aside0.mk (hb)
               have n8_:=Aside0.mk (ho)
               clear HO_0
               clear HO_188002
               clear HO_193002
               clear BK187
               clear BK192
               clear HO221
               clear HO227
               clear HB
               clear HO224
               have HO_0:=n0_
               have HO_188002:=n1_
               have HO_193002:=n2_
               have BK187:=n3_
               have BK192:=n4_
               have HO221:=n5_
               have HO227:=n6_
               have HB:=n7_
               have HO230:=n8_
               clear n0_ n1_ n2_ n3_ n4_ n5_ n6_ n7_ n8_
               clear ho hb hg hat
               refine hK.out _ _ ⟨(blk_cell BK192.out 0).trans rfl,(blk_cell BK192.out 1).trans rfl,(blk_cell BK192.out 2).trans rfl,(blk_cell BK187.out 0).trans rfl,(blk_cell BK187.out 1).trans rfl,(blk_cell BK187.out 2).trans rfl⟩ (fun hHeld=>?_)
               clear hK K
               refine norm_ (a':=?_) ?_ ?_
               rotate_left
               ·show Act.put _ (some 68) _ = _
                simp only [Act.put,List.setIfInBounds_toArray,List.set_cons_zero,List.set_cons_succ,i64_w,i32_w]
                rfl
               refine pure_ (i:=14) (N:=some 4) (v:=?_) (a':=?_) #[true,true,true,true,true,true,true,true,true,true,true,true,true,true,true] rfl rfl (any_of HT_.out (by kernel_rfl)) (fun _ _ _ h=>h) (Or.inl ⟨by rfl,?_⟩) ?_ ?_
               rotate_left
               ·intro w'
                go_simp
                with_reducible rfl
               rotate_left
               ·simp only [Act.put,List.setIfInBounds_toArray,List.set_cons_zero,List.set_cons_succ,i64_w,i32_w]
                rfl
               refine done_ (done_of HT_.out (by kernel_rfl)) ?_
               try go_wp2
               go_ret
               exact ⟨_,by first|rfl|(simp [errW_none,errW_some] <;> rfl)|(simp only [← hji5];first|rfl|(simp [errW_none,errW_some] <;> rfl))|(simp [*,errW_none,errW_some] <;> rfl),by (with_reducible repeat (first|apply Kd.N_alloc|apply Kd.N_drewN|apply Kd.N_drew));exact Kd.N_mono HO230.out (fun _ hk=>hk.1),by repeat (first|(with_reducible first|exact HB.out|apply below_alloc|apply pw_below_drewN|apply below_drew1|refine below_set ?_ GE187.out|refine below_set ?_ GE192.out)|exact HB.out)⟩
              ·rw [if_neg c70] at H
               exact absurd H (by simp)
             ·rw [if_neg c69] at H
              exact absurd H (by simp)
            ·rw [if_neg c68] at H
             exact absurd H (by simp)
           ·rw [if_neg c67] at H
            exact absurd H (by simp)
          ·replace c66:=Bool.eq_false_iff.mpr c66
           subst c66
           have H1:(if ([]:List (S39)).length + l0.length < 3518437208883 then ((some (([]:List (S39)) ++ l0:List (S39))).bind fun y231=>((some (([(⟨a1_0,a1_1,y188⟩:S39)]:List (S39)):List (S39))).bind fun y234=>(if y231.length + y234.length < 3518437208883 then (some (y231 ++ y234)) else (none)))) else (none)) = some r:=by rw [if_neg (show ¬ (false = true) by decide)] at H;exact H
           clear H
           have H:=H1
           clear H1
           by_cases c79:([]:List (S39)).length + l0.length < 3518437208883
           ·rw [if_pos c79] at H
            have LMc79:=Aside0.mk c79
            clear c79
            obtain ⟨y231,hy231⟩:∃ y_:List (S39),y_ = (([]:List (S39)) ++ l0):=⟨_,rfl⟩
            replace H:((some (([(⟨a1_0,a1_1,y188⟩:S39)]:List (S39)):List (S39))).bind fun y234=>(if y231.length + y234.length < 3518437208883 then (some (y231 ++ y234)) else (none))) = some r:=by first|(rw [hy231];with_reducible exact H)|(have H2_:=(Option.bind_some _ _).symm.trans H;rw [hy231];with_reducible exact H2_)|(have H2_:=(Option.bind_some _ _).symm.trans H;with_reducible exact H2_)|with_reducible exact H|(rw [hy231];exact H)|exact H
            have Ny231:=Aside0.mk hy231
            clear hy231
            obtain ⟨y234,hy234⟩:∃ y_:List (S39),y_ = (([(⟨a1_0,a1_1,y188⟩:S39)]:List (S39))):=⟨_,rfl⟩
            replace H:(if y231.length + y234.length < 3518437208883 then (some (y231 ++ y234)) else (none)) = some r:=by first|(rw [hy234];with_reducible exact H)|(have H2_:=(Option.bind_some _ _).symm.trans H;rw [hy234];with_reducible exact H2_)|(have H2_:=(Option.bind_some _ _).symm.trans H;with_reducible exact H2_)|with_reducible exact H|(rw [hy234];exact H)|exact H
            have Ny234:=Aside0.mk hy234
            clear hy234
            by_cases c80:y231.length + y234.length < 3518437208883
            ·rw [if_pos c80] at H
             have LMc80:=Aside0.mk c80
             clear c80
             obtain ⟨y237,hy237⟩:∃ y_:List (S39),y_ = (y231 ++ y234):=⟨_,rfl⟩
             replace H:(some y237) = some r:=by first|(rw [hy237];with_reducible exact H)|(have H2_:=(Option.bind_some _ _).symm.trans H;rw [hy237];with_reducible exact H2_)|(have H2_:=(Option.bind_some _ _).symm.trans H;with_reducible exact H2_)|with_reducible exact H|(rw [hy237];exact H)|exact H
             have Ny237:=Aside0.mk hy237
             clear hy237
             obtain rfl:=Option.some.inj H
             try go_wp2
             have n0_:=Aside0.mk (Kd.V_drew HO_0.out)
             have n1_:=Aside0.mk (Kd.R_drew HO_188002.out)
             have n2_:=Aside0.mk (Kd.V_drew HO_193002.out)
             have n3_:=Aside0.mk (blk_drew BK187.out)
             have n4_:=Aside0.mk (blk_drew BK192.out)
             have n5_:=Aside0.mk (Kd.C_drew HR191_2.out)
             have n6_:=Aside0.mk (below_drew1 HB.out)
             clear HO_0
             clear HO_188002
             clear HO_193002
             clear BK187
             clear BK192
             clear HR191_2
             clear HB
             have HO_0:=n0_
             have HO_188002:=n1_
             have HO_193002:=n2_
             have BK187:=n3_
             have BK192:=n4_
             have HR191_2:=n5_
             have HB:=n6_
             clear n0_ n1_ n2_ n3_ n4_ n5_ n6_
             refine start_ (n:=6) (S:=fun w'=>w'.cell? ⟨gb187,0,none⟩ = some (.int .i64 a1_0) ∧ w'.cell? ⟨gb187,1,none⟩ = some (.int .i64 a1_1) ∧ w'.cell? ⟨gb187,2,none⟩ = some (.slice Ao12 y188.length co12)) (ds:=[]) #[false,false,false,false,false,false] (by kernel_rfl) rfl rfl ⟨(blk_cell BK187.out 0).trans rfl,(blk_cell BK187.out 1).trans rfl,(blk_cell BK187.out 2).trans rfl⟩ (fun hHeld=>?_)
             generalize wc.drew = w81 at HO_0 HO_188002 HO_193002 BK187 BK192 HR191_2 HB hHeld ⊢
             refine pure_ (i:=0) (N:=some 69) (v:=?_) (a':=?_) #[true,false,false,false,false,false] rfl rfl (by kernel_rfl) (fun _ _ _ h=>h) (Or.inl ⟨by rfl,?_⟩) ?_ ?_
             rotate_left
             ·intro w'
              go_simp
              with_reducible rfl
             rotate_left
             ·simp only [Act.put,List.setIfInBounds_toArray,List.set_cons_zero,List.set_cons_succ,i64_w,i32_w]
              rfl
             refine take_ (i:=2) (N:=some 71) (v:=?_) (a':=?_) #[true,false,true,false,false,false] rfl rfl (by kernel_rfl) (fun _ _ _ h=>h) (Or.inl ⟨by rfl,?_⟩) hHeld ?_ ?_
             rotate_left
             ·rintro w' ⟨s0,s1,s2⟩
              go_simp
              with_reducible rfl
             rotate_left
             ·simp only [Act.put,List.setIfInBounds_toArray,List.set_cons_zero,List.set_cons_succ,i64_w,i32_w]
              rfl
             refine join_ (σ:=Value × Value) 2 #[true,true,true,true,false,false] (fun s_=>[(70,s_.1),(72,s_.2)]) (fun s_ w'=>(w'.cell? ⟨gb187,0,none⟩ = some (.int .i64 a1_0) ∧ w'.cell? ⟨gb187,1,none⟩ = some (.int .i64 a1_1) ∧ w'.cell? ⟨gb187,2,none⟩ = some (.slice Ao12 y188.length co12)) ∧ (Kd.N k39 39 w' w.heap.size (fun k_=>(P0_ k_ ∨ w.heap.size ≤ k_) ∧ some k_ ≠ (s_.2:Value).ownBlock ∧ k_ ≠ gb187 ∧ k_ ≠ gb192) s_.1 y231) ∧ (Kd.N k39 39 w' w.heap.size (fun k_=>(P0_ k_ ∨ w.heap.size ≤ k_) ∧ some k_ ≠ (s_.1:Value).ownBlock ∧ k_ ≠ gb187 ∧ k_ ≠ gb192) s_.2 y234) ∧ (Kd.V k39 39 w' w.heap.size (fun k_=>(P0_ k_ ∨ w.heap.size ≤ k_) ∧ some k_ ≠ (s_.1:Value).ownBlock ∧ some k_ ≠ (s_.2:Value).ownBlock ∧ k_ ≠ gb187 ∧ k_ ≠ gb192) (.slice (some ad191) l0.length c0) l0) ∧ (Kd.V (Kd.int .u8) 5 w' w.heap.size (fun k_=>(P0_ k_ ∨ w.heap.size ≤ k_) ∧ some k_ ≠ (s_.1:Value).ownBlock ∧ some k_ ≠ (s_.2:Value).ownBlock ∧ k_ ≠ gb187 ∧ k_ ≠ gb192) (.slice A191_2 ((rd_T39 l0 (ji5)).f2).length c191_2) ((rd_T39 l0 (ji5)).f2)) ∧ (w'.heap[gb187]? = some (.cells #[.int .i64 a1_0,.int .i64 a1_1,.slice Ao12 y188.length co12] 39 (0,0))) ∧ (w'.heap[gb192]? = some (.cells #[.int .i64 ((rd_T39 l0 (ji5)).f0),.int .i64 ((rd_T39 l0 (ji5)).f1),.slice A191_2 ((rd_T39 l0 (ji5)).f2).length c191_2] 39 (0,0))) ∧ (Below w.heap.size w w')) ?_ ?_
             rotate_left
             ·intro hCont
              refine two_ (i:=1) (j:=3) (Ni:=some 70) (Nj:=some 72) #[true,true,true,false,false,false] #[true,false,true,true,false,false] rfl rfl rfl rfl (by kernel_rfl) (by decide) (by decide) (fun K hK=>?_) (fun K hK=>?_)
              ·skip
               refine Kd.N_append_rows_step k39 (w0:=w) w.heap.size (by rfl) (.const (.slice none 0 0)) (.tmp 69) 29 39 (.agg #[(.int .i64 0),(.int .i64 0),(.slice none 0 0)]) 40 rfl Try.underlying29 info39 rfl (by decide) (by omega) (.slice none 0 0) ([]:List (S39)) l0 _ _ _ (fun k_=>(P0_ k_ ∨ w.heap.size ≤ k_) ∧ some k_ ≠ (.slice Ao12 y188.length co12:Value).ownBlock ∧ k_ ≠ gb187 ∧ k_ ≠ gb192) (fun k_=>((fun k_=>(P0_ k_ ∨ w.heap.size ≤ k_) ∧ some k_ ≠ (.slice Ao12 y188.length co12:Value).ownBlock ∧ k_ ≠ gb187 ∧ k_ ≠ gb192)) k_ ∧ some k_ ≠ (.slice none 0 0:Value).ownBlock) rfl rfl ?aO ?aR (fun _ hk=>hk) ?aF ?aB ?aS ?aL ?_
               (case aR=>exact (by skip;exact Kd.V_F (Kd.V_mono (ok':=(fun k_=>((fun k_=>(P0_ k_ ∨ w.heap.size ≤ k_) ∧ some k_ ≠ (.slice Ao12 y188.length co12:Value).ownBlock ∧ k_ ≠ gb187 ∧ k_ ≠ gb192)) k_ ∧ some k_ ≠ (.slice none 0 0:Value).ownBlock)) (HO_0.out) (fun k_ hk=>⟨⟨hk.1,⟨hk.2.1,⟨hk.2.2.1,hk.2.2.2⟩⟩⟩,(by simp [Value.ownBlock])⟩))))
               (case aB=>exact (by repeat (first|(with_reducible first|exact HB.out|apply below_alloc|apply pw_below_drewN|apply below_drew1|refine below_set ?_ GE187.out|refine below_set ?_ GE192.out)|exact HB.out)))
               (case aF=>exact (fun k_ hk=>⟨(.inr (Nat.le_trans (below_size (by repeat (first|(with_reducible first|exact HB.out|apply below_alloc|apply pw_below_drewN|apply below_drew1|refine below_set ?_ GE187.out|refine below_set ?_ GE192.out)|exact HB.out))) hk)),Kd.fresh' (Kd.R_lt (by (with_reducible repeat (first|apply Kd.R_alloc|apply Kd.R_drewN|apply Kd.R_drew));exact HO_188002.out)) k_ hk,Kd.freshB (g:=gb187) (o:=.cells #[.int .i64 a1_0,.int .i64 a1_1,.slice Ao12 y188.length co12] 39 (0,0)) (by (with_reducible repeat (first|refine blk_drewN ?_ _|refine blk_drew ?_|refine blk_alloc ?_ _));exact BK187.out) k_ hk,Kd.freshB (g:=gb192) (o:=.cells #[.int .i64 ((rd_T39 l0 (ji5)).f0),.int .i64 ((rd_T39 l0 (ji5)).f1),.slice A191_2 ((rd_T39 l0 (ji5)).f2).length c191_2] 39 (0,0)) (by (with_reducible repeat (first|refine blk_drewN ?_ _|refine blk_drew ?_|refine blk_alloc ?_ _));exact BK192.out) k_ hk⟩))
               (case aO=>exact ((Kd.N_nil _ _ _ _ (fun k_=>(P0_ k_ ∨ w.heap.size ≤ k_) ∧ some k_ ≠ (.slice Ao12 y188.length co12:Value).ownBlock ∧ k_ ≠ gb187 ∧ k_ ≠ gb192))))
               (case aS=>exact (below_size (by repeat (first|(with_reducible first|exact HB.out|apply below_alloc|apply pw_below_drewN|apply below_drew1|refine below_set ?_ GE187.out|refine below_set ?_ GE192.out)|exact HB.out))))
               (case aL=>have:=LMc79.out;omega)
               intro v232 w82 ho hb hg hat
               rw [← Ny231.out] at ho
               have n0_:=Aside0.mk (Kd.V_afterv (Kd.V_apart_nil (by (with_reducible repeat (first|apply Kd.V_alloc|apply Kd.V_drewN|apply Kd.V_drew));exact HO_0.out)) hg hat)
               have n1_:=Aside0.mk (Kd.R_grown (by (with_reducible repeat (first|apply Kd.R_alloc|apply Kd.R_drewN|apply Kd.R_drew));exact HO_188002.out) hg (fun _ _=>by simp [Value.ownBlock]))
               have n2_:=Aside0.mk (Kd.V_afterv (Kd.V_apart_nil (by (with_reducible repeat (first|apply Kd.V_alloc|apply Kd.V_drewN|apply Kd.V_drew));exact HO_193002.out)) hg hat)
               have n3_:=Aside0.mk (blk_grown (g:=gb187) (o:=.cells #[.int .i64 a1_0,.int .i64 a1_1,.slice Ao12 y188.length co12] 39 (0,0)) (by (with_reducible repeat (first|refine blk_drewN ?_ _|refine blk_drew ?_|refine blk_alloc ?_ _));exact BK187.out) hg (by simp [Value.ownBlock]))
               have n4_:=Aside0.mk (blk_grown (g:=gb192) (o:=.cells #[.int .i64 ((rd_T39 l0 (ji5)).f0),.int .i64 ((rd_T39 l0 (ji5)).f1),.slice A191_2 ((rd_T39 l0 (ji5)).f2).length c191_2] 39 (0,0)) (by (with_reducible repeat (first|refine blk_drewN ?_ _|refine blk_drew ?_|refine blk_alloc ?_ _));exact BK192.out) hg (by simp [Value.ownBlock]))
               have n5_:=Aside0.mk (hb)
               have n6_:=Aside0.mk (ho)
               clear HO_0
               clear HO_188002
               clear HO_193002
               clear BK187
               clear BK192
               clear HB
               have HO_0:=n0_
               have HO_188002:=n1_
               have HO_193002:=n2_
               have BK187:=n3_
               have BK192:=n4_
               have HB:=n5_
               have HO233:=n6_
               clear n0_ n1_ n2_ n3_ n4_ n5_ n6_
               clear ho hb hg hat
               refine hK.out _ _ ⟨(blk_cell BK187.out 0).trans rfl,(blk_cell BK187.out 1).trans rfl,(blk_cell BK187.out 2).trans rfl⟩ (fun hHeld=>?_)
               clear hK K
               refine norm_ (a':=?_) ?_ ?_
               rotate_left
               ·show Act.put _ (some 70) _ = _
                simp only [Act.put,List.setIfInBounds_toArray,List.set_cons_zero,List.set_cons_succ,i64_w,i32_w]
                rfl
               refine one_ (i:=3) (N:=some 72) #[true,true,true,true,false,false] rfl rfl (by kernel_rfl) (by decide) (fun K hK=>?_)
               refine Kd.N_lit_step k39 _ 39 ?hg (N':=72) ?hd (xs:=([(⟨a1_0,a1_1,y188⟩:S39)]:List (S39))) (inner:=[.int .i64 a1_0,.int .i64 a1_1,.slice Ao12 y188.length co12]) (ok:=(fun k_=>(P0_ k_ ∨ w.heap.size ≤ k_) ∧ some k_ ≠ (v232:Value).ownBlock ∧ k_ ≠ gb187 ∧ k_ ≠ gb192)) (okp:=(fun k_=>(P0_ k_ ∨ w.heap.size ≤ k_) ∧ some k_ ≠ (v232:Value).ownBlock ∧ k_ ≠ gb187 ∧ k_ ≠ gb192)) ?hr ?hp (fun _ hk=>hk) ((show ∀ k_,w82.heap.size ≤ k_ → (fun k_=>(P0_ k_ ∨ w.heap.size ≤ k_) ∧ some k_ ≠ (v232:Value).ownBlock ∧ k_ ≠ gb187 ∧ k_ ≠ gb192) k_ from fun k_ hk=>⟨(.inr (Nat.le_trans (below_size (by repeat (first|(with_reducible first|exact HB.out|apply below_alloc|apply pw_below_drewN|apply below_drew1|refine below_set ?_ GE187.out|refine below_set ?_ GE192.out)|exact HB.out))) hk)),Kd.fresh' (Kd.N_lt (by (with_reducible repeat (first|apply Kd.N_alloc|apply Kd.N_drewN|apply Kd.N_drew));exact HO233.out)) k_ hk,Kd.freshB (g:=gb187) (o:=.cells #[.int .i64 a1_0,.int .i64 a1_1,.slice Ao12 y188.length co12] 39 (0,0)) (by (with_reducible repeat (first|refine blk_drewN ?_ _|refine blk_drew ?_|refine blk_alloc ?_ _));exact BK187.out) k_ hk,Kd.freshB (g:=gb192) (o:=.cells #[.int .i64 ((rd_T39 l0 (ji5)).f0),.int .i64 ((rd_T39 l0 (ji5)).f1),.slice A191_2 ((rd_T39 l0 (ji5)).f2).length c191_2] 39 (0,0)) (by (with_reducible repeat (first|refine blk_drewN ?_ _|refine blk_drew ?_|refine blk_alloc ?_ _));exact BK192.out) k_ hk⟩) _ (Nat.le_refl _)) (Below.refl _ _) (Nat.le_refl _) (by simp) ?_;(case hd=>rfl);(case hg=>rfl);(case hr=>first|(go_simp;done)|(go_simp;rfl));(case hp=>exact (Reps.c3 (show Kd.FK k39 _ _ (⟨a1_0,a1_1,y188⟩:S39) [.int .i64 a1_0,.int .i64 a1_1,.slice Ao12 y188.length co12] from (k39_mkF _ _ (⟨a1_0,a1_1,y188⟩:S39) (Kd.R_reads' (Kd.R_mono (ok':=(fun k_=>(P0_ k_ ∨ w.heap.size ≤ k_) ∧ some k_ ≠ (v232:Value).ownBlock ∧ k_ ≠ gb187 ∧ k_ ≠ gb192)) (Kd.R_types (Kd.R_types (Kd.R_apart' (HO_188002.out) (Kd.N_typed HO233.out) (by decide)) BK187.out (by decide)) BK192.out (by decide)) (fun k_ hk=>⟨(.inr (hk.1.1.1)),⟨hk.1.1.2,⟨hk.1.2,hk.2⟩⟩⟩))).2.1 (Kd.R_F (Kd.R_mono (ok':=(fun k_=>(P0_ k_ ∨ w.heap.size ≤ k_) ∧ some k_ ≠ (v232:Value).ownBlock ∧ k_ ≠ gb187 ∧ k_ ≠ gb192)) (Kd.R_types (Kd.R_types (Kd.R_apart' (HO_188002.out) (Kd.N_typed HO233.out) (by decide)) BK187.out (by decide)) BK192.out (by decide)) (fun k_ hk=>⟨(.inr (hk.1.1.1)),⟨hk.1.1.2,⟨hk.1.2,hk.2⟩⟩⟩))))) (Reps.none _ _)))
               intro v235 w83 ho84 hb hg_ hnew_
               clear hg_ hnew_
               (first|rw [← Ny234.out] at ho84|(simp only [Int.reduceToNat] at ho84;rw [← Ny234.out] at ho84))
               have n0_:=Aside0.mk (Kd.V_elder' (by (with_reducible repeat (first|apply Kd.V_alloc|apply Kd.V_drewN|apply Kd.V_drew));exact HO_0.out) (by first|exact Kd.N_base ho84|exact Kd.S_base ho84) hb)
               have n1_:=Aside0.mk (Kd.V_elder' (by (with_reducible repeat (first|apply Kd.V_alloc|apply Kd.V_drewN|apply Kd.V_drew));exact HO_193002.out) (by first|exact Kd.N_base ho84|exact Kd.S_base ho84) hb)
               have n2_:=Aside0.mk (Kd.N_elder' (by (with_reducible repeat (first|apply Kd.N_alloc|apply Kd.N_drewN|apply Kd.N_drew));exact HO233.out) (by first|exact Kd.N_base ho84|exact Kd.S_base ho84) hb)
               have n3_:=Aside0.mk (Kd.N_lower ho84 (below_size (by repeat (first|(with_reducible first|exact HB.out|apply below_alloc|apply pw_below_drewN|apply below_drew1|refine below_set ?_ GE187.out|refine below_set ?_ GE192.out)|exact HB.out))))
               have n4_:=Aside0.mk (blk_below (g:=gb187) (o:=.cells #[.int .i64 a1_0,.int .i64 a1_1,.slice Ao12 y188.length co12] 39 (0,0)) (by (with_reducible repeat (first|refine blk_drewN ?_ _|refine blk_drew ?_|refine blk_alloc ?_ _));exact BK187.out) hb)
               have n5_:=Aside0.mk (blk_below (g:=gb192) (o:=.cells #[.int .i64 ((rd_T39 l0 (ji5)).f0),.int .i64 ((rd_T39 l0 (ji5)).f1),.slice A191_2 ((rd_T39 l0 (ji5)).f2).length c191_2] 39 (0,0)) (by (with_reducible repeat (first|refine blk_drewN ?_ _|refine blk_drew ?_|refine blk_alloc ?_ _));exact BK192.out) hb)
               have n6_:=Aside0.mk (below_step (by repeat (first|(with_reducible first|exact HB.out|apply below_alloc|apply pw_below_drewN|apply below_drew1|refine below_set ?_ GE187.out|refine below_set ?_ GE192.out)|exact HB.out)) hb)
               clear HO_0
               clear HO_193002
               clear HO233
               clear BK187
               clear BK192
               clear HB
               clear HO_188002
               have HO_0:=n0_
               have HO_193002:=n1_
               have HO233:=n2_
               have HO236:=n3_
               have BK187:=n4_
               have BK192:=n5_
               have HB:=n6_
               clear n0_ n1_ n2_ n3_ n4_ n5_ n6_
               clear hb ho84
               refine hK.out _ _ ⟨(blk_cell BK187.out 0).trans rfl,(blk_cell BK187.out 1).trans rfl,(blk_cell BK187.out 2).trans rfl⟩ (fun hHeld=>?_)
               clear hK K
               refine norm_ (a':=?_) ?_ ?_
               rotate_left
               ·show Act.put _ (some 72) _ = _
                simp only [Act.put,List.setIfInBounds_toArray,List.set_cons_zero,List.set_cons_succ,i64_w,i32_w]
                rfl
               exact norm_ (by simp only [putAll,Act.put,List.setIfInBounds_toArray,List.set_cons_zero,List.set_cons_succ]) (hCont (v232,v235) _ ⟨hHeld,(by (with_reducible repeat (first|apply Kd.N_alloc|apply Kd.N_drewN|apply Kd.N_drew));exact Kd.N_mono HO233.out (fun _ hk=>⟨hk.1.1,⟨hk.2,⟨hk.1.2.2.1,hk.1.2.2.2⟩⟩⟩)),(by (with_reducible repeat (first|apply Kd.N_alloc|apply Kd.N_drewN|apply Kd.N_drew));exact HO236.out),(by (with_reducible repeat (first|apply Kd.V_alloc|apply Kd.V_drewN|apply Kd.V_drew));exact Kd.V_mono HO_0.out (fun _ hk=>⟨hk.1.1.1,⟨hk.1.2,⟨hk.2,⟨hk.1.1.2.2.1,hk.1.1.2.2.2⟩⟩⟩⟩)),(by (with_reducible repeat (first|apply Kd.V_alloc|apply Kd.V_drewN|apply Kd.V_drew));exact Kd.V_mono HO_193002.out (fun _ hk=>⟨hk.1.1.1,⟨hk.1.2,⟨hk.2,⟨hk.1.1.2.2.1,hk.1.1.2.2.2⟩⟩⟩⟩)),(by (with_reducible repeat (first|refine blk_drewN ?_ _|refine blk_drew ?_|refine blk_alloc ?_ _));exact BK187.out),(by (with_reducible repeat (first|refine blk_drewN ?_ _|refine blk_drew ?_|refine blk_alloc ?_ _));exact BK192.out),(by repeat (first|(with_reducible first|exact HB.out|apply below_alloc|apply pw_below_drewN|apply below_drew1|refine below_set ?_ GE187.out|refine below_set ?_ GE192.out)|exact HB.out))⟩)
              ·skip
               refine Kd.N_lit_step k39 _ 39 ?hg (N':=72) ?hd (xs:=([(⟨a1_0,a1_1,y188⟩:S39)]:List (S39))) (inner:=[.int .i64 a1_0,.int .i64 a1_1,.slice Ao12 y188.length co12]) (ok:=(fun k_=>(P0_ k_ ∨ w.heap.size ≤ k_) ∧ k_ ≠ gb187 ∧ k_ ≠ gb192)) (okp:=(fun k_=>(P0_ k_ ∨ w.heap.size ≤ k_) ∧ k_ ≠ gb187 ∧ k_ ≠ gb192)) ?hr ?hp (fun _ hk=>hk) ((show ∀ k_,w81.heap.size ≤ k_ → (fun k_=>(P0_ k_ ∨ w.heap.size ≤ k_) ∧ k_ ≠ gb187 ∧ k_ ≠ gb192) k_ from fun k_ hk=>⟨(.inr (Nat.le_trans (below_size (by repeat (first|(with_reducible first|exact HB.out|apply below_alloc|apply pw_below_drewN|apply below_drew1|refine below_set ?_ GE187.out|refine below_set ?_ GE192.out)|exact HB.out))) hk)),Kd.freshB (g:=gb187) (o:=.cells #[.int .i64 a1_0,.int .i64 a1_1,.slice Ao12 y188.length co12] 39 (0,0)) (by (with_reducible repeat (first|refine blk_drewN ?_ _|refine blk_drew ?_|refine blk_alloc ?_ _));exact BK187.out) k_ hk,Kd.freshB (g:=gb192) (o:=.cells #[.int .i64 ((rd_T39 l0 (ji5)).f0),.int .i64 ((rd_T39 l0 (ji5)).f1),.slice A191_2 ((rd_T39 l0 (ji5)).f2).length c191_2] 39 (0,0)) (by (with_reducible repeat (first|refine blk_drewN ?_ _|refine blk_drew ?_|refine blk_alloc ?_ _));exact BK192.out) k_ hk⟩) _ (Nat.le_refl _)) (Below.refl _ _) (Nat.le_refl _) (by simp) ?_;(case hd=>rfl);(case hg=>rfl);(case hr=>first|(go_simp;done)|(go_simp;rfl));(case hp=>exact (Reps.c3 (show Kd.FK k39 _ _ (⟨a1_0,a1_1,y188⟩:S39) [.int .i64 a1_0,.int .i64 a1_1,.slice Ao12 y188.length co12] from (k39_mkF _ _ (⟨a1_0,a1_1,y188⟩:S39) (Kd.R_reads' (Kd.R_mono (ok':=(fun k_=>(P0_ k_ ∨ w.heap.size ≤ k_) ∧ k_ ≠ gb187 ∧ k_ ≠ gb192)) (Kd.R_types (Kd.R_types (HO_188002.out) BK187.out (by decide)) BK192.out (by decide)) (fun k_ hk=>⟨(.inr (hk.1.1)),⟨hk.1.2,hk.2⟩⟩))).2.1 (Kd.R_F (Kd.R_mono (ok':=(fun k_=>(P0_ k_ ∨ w.heap.size ≤ k_) ∧ k_ ≠ gb187 ∧ k_ ≠ gb192)) (Kd.R_types (Kd.R_types (HO_188002.out) BK187.out (by decide)) BK192.out (by decide)) (fun k_ hk=>⟨(.inr (hk.1.1)),⟨hk.1.2,hk.2⟩⟩))))) (Reps.none _ _)))
               intro v235 w82 ho83 hb hg_ hnew_
               clear hg_ hnew_
               (first|rw [← Ny234.out] at ho83|(simp only [Int.reduceToNat] at ho83;rw [← Ny234.out] at ho83))
               have n0_:=Aside0.mk (Kd.V_elder' (by (with_reducible repeat (first|apply Kd.V_alloc|apply Kd.V_drewN|apply Kd.V_drew));exact HO_0.out) (by first|exact Kd.N_base ho83|exact Kd.S_base ho83) hb)
               have n1_:=Aside0.mk (Kd.V_elder' (by (with_reducible repeat (first|apply Kd.V_alloc|apply Kd.V_drewN|apply Kd.V_drew));exact HO_193002.out) (by first|exact Kd.N_base ho83|exact Kd.S_base ho83) hb)
               have n2_:=Aside0.mk (Kd.N_lower ho83 (below_size (by repeat (first|(with_reducible first|exact HB.out|apply below_alloc|apply pw_below_drewN|apply below_drew1|refine below_set ?_ GE187.out|refine below_set ?_ GE192.out)|exact HB.out))))
               have n3_:=Aside0.mk (blk_below (g:=gb187) (o:=.cells #[.int .i64 a1_0,.int .i64 a1_1,.slice Ao12 y188.length co12] 39 (0,0)) (by (with_reducible repeat (first|refine blk_drewN ?_ _|refine blk_drew ?_|refine blk_alloc ?_ _));exact BK187.out) hb)
               have n4_:=Aside0.mk (blk_below (g:=gb192) (o:=.cells #[.int .i64 ((rd_T39 l0 (ji5)).f0),.int .i64 ((rd_T39 l0 (ji5)).f1),.slice A191_2 ((rd_T39 l0 (ji5)).f2).length c191_2] 39 (0,0)) (by (with_reducible repeat (first|refine blk_drewN ?_ _|refine blk_drew ?_|refine blk_alloc ?_ _));exact BK192.out) hb)
               have n5_:=Aside0.mk (Kd.C_below (by repeat (first|(with_reducible exact HR191_2.out)|(with_reducible refine Kd.C_alloc ?_ _)|(with_reducible refine Kd.C_drewN ?_ _)|(with_reducible refine Kd.C_drew ?_)|exact HR191_2.out)) hb)
               have n6_:=Aside0.mk (below_step (by repeat (first|(with_reducible first|exact HB.out|apply below_alloc|apply pw_below_drewN|apply below_drew1|refine below_set ?_ GE187.out|refine below_set ?_ GE192.out)|exact HB.out)) hb)
               clear HO_0
               clear HO_193002
               clear BK187
               clear BK192
               clear HR191_2
               clear HB
               clear HO_188002
               have HO_0:=n0_
               have HO_193002:=n1_
               have HO236:=n2_
               have BK187:=n3_
               have BK192:=n4_
               have HR191_2:=n5_
               have HB:=n6_
               clear n0_ n1_ n2_ n3_ n4_ n5_ n6_
               clear hb ho83
               refine hK.out _ _ ⟨(blk_cell BK187.out 0).trans rfl,(blk_cell BK187.out 1).trans rfl,(blk_cell BK187.out 2).trans rfl⟩ (fun hHeld=>?_)
               clear hK K
               refine norm_ (a':=?_) ?_ ?_
               rotate_left
               ·show Act.put _ (some 72) _ = _
                simp only [Act.put,List.setIfInBounds_toArray,List.set_cons_zero,List.set_cons_succ,i64_w,i32_w]
                rfl
               refine one_ (i:=1) (N:=some 70) #[true,true,true,true,false,false] rfl rfl (by kernel_rfl) (by decide) (fun K hK=>?_)
               refine Kd.N_append_rows_step k39 (w0:=w) w.heap.size (by rfl) (.const (.slice none 0 0)) (.tmp 69) 29 39 (.agg #[(.int .i64 0),(.int .i64 0),(.slice none 0 0)]) 40 rfl Try.underlying29 info39 rfl (by decide) (by omega) (.slice none 0 0) ([]:List (S39)) l0 _ _ _ (fun k_=>(P0_ k_ ∨ w.heap.size ≤ k_) ∧ some k_ ≠ (v235:Value).ownBlock ∧ k_ ≠ gb187 ∧ k_ ≠ gb192) (fun k_=>((fun k_=>(P0_ k_ ∨ w.heap.size ≤ k_) ∧ some k_ ≠ (v235:Value).ownBlock ∧ k_ ≠ gb187 ∧ k_ ≠ gb192)) k_ ∧ some k_ ≠ (.slice none 0 0:Value).ownBlock) rfl rfl ?aO ?aR (fun _ hk=>hk) ?aF ?aB ?aS ?aL ?_
               (case aR=>exact (by skip;exact Kd.V_F (Kd.V_mono (ok':=(fun k_=>((fun k_=>(P0_ k_ ∨ w.heap.size ≤ k_) ∧ some k_ ≠ (v235:Value).ownBlock ∧ k_ ≠ gb187 ∧ k_ ≠ gb192)) k_ ∧ some k_ ≠ (.slice none 0 0:Value).ownBlock)) (HO_0.out) (fun k_ hk=>⟨⟨hk.1.1,⟨hk.2,⟨hk.1.2.2.1,hk.1.2.2.2⟩⟩⟩,(by simp [Value.ownBlock])⟩))))
               (case aB=>exact (by repeat (first|(with_reducible first|exact HB.out|apply below_alloc|apply pw_below_drewN|apply below_drew1|refine below_set ?_ GE187.out|refine below_set ?_ GE192.out)|exact HB.out)))
               (case aF=>exact (fun k_ hk=>⟨(.inr (Nat.le_trans (below_size (by repeat (first|(with_reducible first|exact HB.out|apply below_alloc|apply pw_below_drewN|apply below_drew1|refine below_set ?_ GE187.out|refine below_set ?_ GE192.out)|exact HB.out))) hk)),Kd.fresh' (Kd.N_lt (by (with_reducible repeat (first|apply Kd.N_alloc|apply Kd.N_drewN|apply Kd.N_drew));exact HO236.out)) k_ hk,Kd.freshB (g:=gb187) (o:=.cells #[.int .i64 a1_0,.int .i64 a1_1,.slice Ao12 y188.length co12] 39 (0,0)) (by (with_reducible repeat (first|refine blk_drewN ?_ _|refine blk_drew ?_|refine blk_alloc ?_ _));exact BK187.out) k_ hk,Kd.freshB (g:=gb192) (o:=.cells #[.int .i64 ((rd_T39 l0 (ji5)).f0),.int .i64 ((rd_T39 l0 (ji5)).f1),.slice A191_2 ((rd_T39 l0 (ji5)).f2).length c191_2] 39 (0,0)) (by (with_reducible repeat (first|refine blk_drewN ?_ _|refine blk_drew ?_|refine blk_alloc ?_ _));exact BK192.out) k_ hk⟩))
               (case aO=>exact ((Kd.N_nil _ _ _ _ (fun k_=>(P0_ k_ ∨ w.heap.size ≤ k_) ∧ some k_ ≠ (v235:Value).ownBlock ∧ k_ ≠ gb187 ∧ k_ ≠ gb192))))
               (case aS=>exact (below_size (by repeat (first|(with_reducible first|exact HB.out|apply below_alloc|apply pw_below_drewN|apply below_drew1|refine below_set ?_ GE187.out|refine below_set ?_ GE192.out)|exact HB.out))))
               (case aL=>have:=LMc79.out;omega)
               intro v232 w84 ho hb hg hat
               rw [← Ny231.out] at ho
               have n0_:=Aside0.mk (Kd.V_afterv (Kd.V_apart_nil (by (with_reducible repeat (first|apply Kd.V_alloc|apply Kd.V_drewN|apply Kd.V_drew));exact HO_0.out)) hg hat)
               have n1_:=Aside0.mk (Kd.V_afterv (Kd.V_apart_nil (by (with_reducible repeat (first|apply Kd.V_alloc|apply Kd.V_drewN|apply Kd.V_drew));exact HO_193002.out)) hg hat)
               have n2_:=Aside0.mk (blk_grown (g:=gb187) (o:=.cells #[.int .i64 a1_0,.int .i64 a1_1,.slice Ao12 y188.length co12] 39 (0,0)) (by (with_reducible repeat (first|refine blk_drewN ?_ _|refine blk_drew ?_|refine blk_alloc ?_ _));exact BK187.out) hg (by simp [Value.ownBlock]))
               have n3_:=Aside0.mk (blk_grown (g:=gb192) (o:=.cells #[.int .i64 ((rd_T39 l0 (ji5)).f0),.int .i64 ((rd_T39 l0 (ji5)).f1),.slice A191_2 ((rd_T39 l0 (ji5)).f2).length c191_2] 39 (0,0)) (by (with_reducible repeat (first|refine blk_drewN ?_ _|refine blk_drew ?_|refine blk_alloc ?_ _));exact BK192.out) hg (by simp [Value.ownBlock]))
               have n4_:=Aside0.mk (Kd.N_afterv (Kd.N_apart_nil (by (with_reducible repeat (first|apply Kd.N_alloc|apply Kd.N_drewN|apply Kd.N_drew));exact HO236.out)) hg hat)
               have n5_:=Aside0.mk (hb)
               have n6_:=Aside0.mk (ho)
               clear HO_0
               clear HO_193002
               clear BK187
               clear BK192
               clear HO236
               clear HB
               have HO_0:=n0_
               have HO_193002:=n1_
               have BK187:=n2_
               have BK192:=n3_
               have HO236:=n4_
               have HB:=n5_
               have HO233:=n6_
               clear n0_ n1_ n2_ n3_ n4_ n5_ n6_
               clear ho hb hg hat
               refine hK.out _ _ ⟨(blk_cell BK187.out 0).trans rfl,(blk_cell BK187.out 1).trans rfl,(blk_cell BK187.out 2).trans rfl⟩ (fun hHeld=>?_)
               clear hK K
               refine norm_ (a':=?_) ?_ ?_
               rotate_left
               ·show Act.put _ (some 70) _ = _
                simp only [Act.put,List.setIfInBounds_toArray,List.set_cons_zero,List.set_cons_succ,i64_w,i32_w]
                rfl
               exact norm_ (by simp only [putAll,Act.put,List.setIfInBounds_toArray,List.set_cons_zero,List.set_cons_succ]) (hCont (v232,v235) _ ⟨hHeld,(by (with_reducible repeat (first|apply Kd.N_alloc|apply Kd.N_drewN|apply Kd.N_drew));exact HO233.out),(by (with_reducible repeat (first|apply Kd.N_alloc|apply Kd.N_drewN|apply Kd.N_drew));exact Kd.N_mono HO236.out (fun _ hk=>⟨hk.1.1,⟨hk.2,⟨hk.1.2.1,hk.1.2.2⟩⟩⟩)),(by (with_reducible repeat (first|apply Kd.V_alloc|apply Kd.V_drewN|apply Kd.V_drew));exact Kd.V_mono HO_0.out (fun _ hk=>⟨hk.1.1.1,⟨hk.2,⟨hk.1.2,⟨hk.1.1.2.2.1,hk.1.1.2.2.2⟩⟩⟩⟩)),(by (with_reducible repeat (first|apply Kd.V_alloc|apply Kd.V_drewN|apply Kd.V_drew));exact Kd.V_mono HO_193002.out (fun _ hk=>⟨hk.1.1.1,⟨hk.2,⟨hk.1.2,⟨hk.1.1.2.2.1,hk.1.1.2.2.2⟩⟩⟩⟩)),(by (with_reducible repeat (first|refine blk_drewN ?_ _|refine blk_drew ?_|refine blk_alloc ?_ _));exact BK187.out),(by (with_reducible repeat (first|refine blk_drewN ?_ _|refine blk_drew ?_|refine blk_alloc ?_ _));exact BK192.out),(by repeat (first|(with_reducible first|exact HB.out|apply below_alloc|apply pw_below_drewN|apply below_drew1|refine below_set ?_ GE187.out|refine below_set ?_ GE192.out)|exact HB.out))⟩)
             rintro ⟨v232,v235⟩ w85 ⟨hS_,h0_,h1_,h2_,h3_,h4_,h5_,h6_⟩
             have n0_:Aside0 (Kd.N k39 39 w85 w.heap.size (fun k_=>(P0_ k_ ∨ w.heap.size ≤ k_) ∧ some k_ ≠ (v235:Value).ownBlock ∧ k_ ≠ gb187 ∧ k_ ≠ gb192) v232 y231):=⟨h0_⟩
             have n1_:Aside0 (Kd.N k39 39 w85 w.heap.size (fun k_=>(P0_ k_ ∨ w.heap.size ≤ k_) ∧ some k_ ≠ (v232:Value).ownBlock ∧ k_ ≠ gb187 ∧ k_ ≠ gb192) v235 y234):=⟨h1_⟩
             have n2_:Aside0 (Kd.V k39 39 w85 w.heap.size (fun k_=>(P0_ k_ ∨ w.heap.size ≤ k_) ∧ some k_ ≠ (v232:Value).ownBlock ∧ some k_ ≠ (v235:Value).ownBlock ∧ k_ ≠ gb187 ∧ k_ ≠ gb192) (.slice (some ad191) l0.length c0) l0):=⟨h2_⟩
             have n3_:Aside0 (Kd.V (Kd.int .u8) 5 w85 w.heap.size (fun k_=>(P0_ k_ ∨ w.heap.size ≤ k_) ∧ some k_ ≠ (v232:Value).ownBlock ∧ some k_ ≠ (v235:Value).ownBlock ∧ k_ ≠ gb187 ∧ k_ ≠ gb192) (.slice A191_2 ((rd_T39 l0 (ji5)).f2).length c191_2) ((rd_T39 l0 (ji5)).f2)):=⟨h3_⟩
             have n4_:Aside0 (w85.heap[gb187]? = some (.cells #[.int .i64 a1_0,.int .i64 a1_1,.slice Ao12 y188.length co12] 39 (0,0))):=⟨h4_⟩
             have n5_:Aside0 (w85.heap[gb192]? = some (.cells #[.int .i64 ((rd_T39 l0 (ji5)).f0),.int .i64 ((rd_T39 l0 (ji5)).f1),.slice A191_2 ((rd_T39 l0 (ji5)).f2).length c191_2] 39 (0,0))):=⟨h5_⟩
             have n6_:Aside0 (Below w.heap.size w w85):=⟨h6_⟩
             clear HO_0
             clear HO_188002
             clear HO_193002
             clear BK187
             clear BK192
             clear HR191_2
             clear HB
             clear h0_ h1_ h2_ h3_ h4_ h5_ h6_
             have HO233:=n0_
             have HO236:=n1_
             have HO_0:=n2_
             have HO_193002:=n3_
             have BK187:=n4_
             have BK192:=n5_
             have HB:=n6_
             clear n0_ n1_ n2_ n3_ n4_ n5_ n6_
             have hHeld:w85.cell? ⟨gb187,0,none⟩ = some (.int .i64 a1_0) ∧ w85.cell? ⟨gb187,1,none⟩ = some (.int .i64 a1_1) ∧ w85.cell? ⟨gb187,2,none⟩ = some (.slice Ao12 y188.length co12):=hS_
             obtain ⟨Ao87,co87,eo87⟩:=Kd.N_slice HO236.out
             (first|subst eo87|(injection eo87 with f1_ f2_ f3_;have f4_:=f1_.symm;have f5_:=f3_.symm;clear f1_ f2_ f3_;subst f4_;subst f5_))
             refine norm_ (a':=?_) ?_ ?_
             rotate_left
             ·simp only [putAll,Act.put,List.setIfInBounds_toArray,List.set_cons_zero,List.set_cons_succ]
              rfl
             refine one_ (i:=4) (N:=some 73) #[true,true,true,true,true,false] rfl rfl (by kernel_rfl) (by decide) (fun K hK=>?_)
             refine Kd.N_append_rows_step k39 (w0:=w) w.heap.size (by rfl) (.tmp 70) (.tmp 72) 29 39 (.agg #[(.int .i64 0),(.int .i64 0),(.slice none 0 0)]) 40 rfl Try.underlying29 info39 rfl (by decide) (by omega) v232 y231 y234 _ _ _ (fun k_=>(P0_ k_ ∨ w.heap.size ≤ k_) ∧ k_ ≠ gb187 ∧ k_ ≠ gb192) (fun k_=>((fun k_=>(P0_ k_ ∨ w.heap.size ≤ k_) ∧ k_ ≠ gb187 ∧ k_ ≠ gb192)) k_ ∧ some k_ ≠ (v232:Value).ownBlock) rfl rfl ?aO ?aR (fun _ hk=>hk) ?aF ?aB ?aS ?aL ?_
             (case aR=>exact (by skip;exact Kd.N_F (Kd.N_mono (ok':=(fun k_=>((fun k_=>(P0_ k_ ∨ w.heap.size ≤ k_) ∧ k_ ≠ gb187 ∧ k_ ≠ gb192)) k_ ∧ some k_ ≠ (v232:Value).ownBlock)) (HO236.out) (fun k_ hk=>⟨⟨hk.1,⟨hk.2.2.1,hk.2.2.2⟩⟩,hk.2.1⟩))))
             (case aB=>exact (by repeat (first|(with_reducible first|exact HB.out|apply below_alloc|apply pw_below_drewN|apply below_drew1|refine below_set ?_ GE187.out|refine below_set ?_ GE192.out)|exact HB.out)))
             (case aF=>exact (fun k_ hk=>⟨(.inr (Nat.le_trans (below_size (by repeat (first|(with_reducible first|exact HB.out|apply below_alloc|apply pw_below_drewN|apply below_drew1|refine below_set ?_ GE187.out|refine below_set ?_ GE192.out)|exact HB.out))) hk)),Kd.freshB (g:=gb187) (o:=.cells #[.int .i64 a1_0,.int .i64 a1_1,.slice Ao12 y188.length co12] 39 (0,0)) (by (with_reducible repeat (first|refine blk_drewN ?_ _|refine blk_drew ?_|refine blk_alloc ?_ _));exact BK187.out) k_ hk,Kd.freshB (g:=gb192) (o:=.cells #[.int .i64 ((rd_T39 l0 (ji5)).f0),.int .i64 ((rd_T39 l0 (ji5)).f1),.slice A191_2 ((rd_T39 l0 (ji5)).f2).length c191_2] 39 (0,0)) (by (with_reducible repeat (first|refine blk_drewN ?_ _|refine blk_drew ?_|refine blk_alloc ?_ _));exact BK192.out) k_ hk⟩))
             (case aO=>exact (by (with_reducible repeat (first|apply Kd.N_alloc|apply Kd.N_drewN|apply Kd.N_drew));exact Kd.N_mono HO233.out (fun _ hk=>⟨hk.1,⟨hk.2.2.1,hk.2.2.2⟩⟩)))
             (case aS=>exact (below_size (by repeat (first|(with_reducible first|exact HB.out|apply below_alloc|apply pw_below_drewN|apply below_drew1|refine below_set ?_ GE187.out|refine below_set ?_ GE192.out)|exact HB.out))))
             (case aL=>have:=LMc80.out;omega)
             intro v238 w86 ho hb hg hat
             rw [← Ny237.out] at ho
             have n0_:=Aside0.mk (Kd.V_afterv (ok:=(fun k_=>(P0_ k_ ∨ w.heap.size ≤ k_) ∧ some k_ ≠ (.slice Ao87 y234.length co87:Value).ownBlock ∧ k_ ≠ gb187 ∧ k_ ≠ gb192)) (by (with_reducible repeat (first|apply Kd.V_alloc|apply Kd.V_drewN|apply Kd.V_drew));exact Kd.V_mono HO_0.out (fun _ hk=>⟨⟨hk.1,⟨hk.2.2.1,⟨hk.2.2.2.1,hk.2.2.2.2⟩⟩⟩,hk.2.1⟩)) hg hat)
             have n1_:=Aside0.mk (Kd.V_afterv (ok:=(fun k_=>(P0_ k_ ∨ w.heap.size ≤ k_) ∧ some k_ ≠ (.slice Ao87 y234.length co87:Value).ownBlock ∧ k_ ≠ gb187 ∧ k_ ≠ gb192)) (by (with_reducible repeat (first|apply Kd.V_alloc|apply Kd.V_drewN|apply Kd.V_drew));exact Kd.V_mono HO_193002.out (fun _ hk=>⟨⟨hk.1,⟨hk.2.2.1,⟨hk.2.2.2.1,hk.2.2.2.2⟩⟩⟩,hk.2.1⟩)) hg hat)
             have n2_:=Aside0.mk (blk_grown (g:=gb187) (o:=.cells #[.int .i64 a1_0,.int .i64 a1_1,.slice Ao12 y188.length co12] 39 (0,0)) (by (with_reducible repeat (first|refine blk_drewN ?_ _|refine blk_drew ?_|refine blk_alloc ?_ _));exact BK187.out) hg (Kd.N_away HO233.out (fun _ hk=>hk.2.2.1)))
             have n3_:=Aside0.mk (blk_grown (g:=gb192) (o:=.cells #[.int .i64 ((rd_T39 l0 (ji5)).f0),.int .i64 ((rd_T39 l0 (ji5)).f1),.slice A191_2 ((rd_T39 l0 (ji5)).f2).length c191_2] 39 (0,0)) (by (with_reducible repeat (first|refine blk_drewN ?_ _|refine blk_drew ?_|refine blk_alloc ?_ _));exact BK192.out) hg (Kd.N_away HO233.out (fun _ hk=>hk.2.2.2)))
             have n4_:=Aside0.mk (Kd.N_afterv (ok:=(fun k_=>(P0_ k_ ∨ w.heap.size ≤ k_) ∧ k_ ≠ gb187 ∧ k_ ≠ gb192)) (by (with_reducible repeat (first|apply Kd.N_alloc|apply Kd.N_drewN|apply Kd.N_drew));exact Kd.N_mono HO236.out (fun _ hk=>⟨⟨hk.1,⟨hk.2.2.1,hk.2.2.2⟩⟩,hk.2.1⟩)) hg hat)
             have n5_:=Aside0.mk (hb)
             have n6_:=Aside0.mk (ho)
             clear HO_0
             clear HO_193002
             clear BK187
             clear BK192
             clear HO236
             clear HB
             clear HO233
             have HO_0:=n0_
             have HO_193002:=n1_
             have BK187:=n2_
             have BK192:=n3_
             have HO236:=n4_
             have HB:=n5_
             have HO239:=n6_
             clear n0_ n1_ n2_ n3_ n4_ n5_ n6_
             clear ho hb hg hat
             refine hK.out _ _ ⟨(blk_cell BK187.out 0).trans rfl,(blk_cell BK187.out 1).trans rfl,(blk_cell BK187.out 2).trans rfl⟩ (fun hHeld=>?_)
             clear hK K
             refine norm_ (a':=?_) ?_ ?_
             rotate_left
             ·show Act.put _ (some 73) _ = _
              simp only [Act.put,List.setIfInBounds_toArray,List.set_cons_zero,List.set_cons_succ,i64_w,i32_w]
              rfl
             refine pure_ (i:=5) (N:=some 4) (v:=?_) (a':=?_) #[true,true,true,true,true,true] rfl rfl (by kernel_rfl) (fun _ _ _ h=>h) (Or.inl ⟨by rfl,?_⟩) ?_ ?_
             rotate_left
             ·intro w'
              go_simp
              with_reducible rfl
             rotate_left
             ·simp only [Act.put,List.setIfInBounds_toArray,List.set_cons_zero,List.set_cons_succ,i64_w,i32_w]
              rfl
             refine done_ (by kernel_rfl) ?_
             try go_wp2
             go_ret
             exact ⟨_,by first|rfl|(simp [errW_none,errW_some] <;> rfl)|(simp only [← hji5];first|rfl|(simp [errW_none,errW_some] <;> rfl))|(simp [*,errW_none,errW_some] <;> rfl),by (with_reducible repeat (first|apply Kd.N_alloc|apply Kd.N_drewN|apply Kd.N_drew));exact Kd.N_mono HO239.out (fun _ hk=>hk.1),by repeat (first|(with_reducible first|exact HB.out|apply below_alloc|apply pw_below_drewN|apply below_drew1|refine below_set ?_ GE187.out|refine below_set ?_ GE192.out)|exact HB.out)⟩
            ·rw [if_neg c80] at H
             exact absurd H (by simp)
           ·rw [if_neg c79] at H
            exact absurd H (by simp)
    ·rw [if_neg c7] at H
     exact absurd H (by simp)
   ·rw [if_neg c6] at H
    exact absurd H (by simp)
  ·rw [if_neg c4] at H
   have c4b0:decide (0 ≤ (wrap64 ((l0.length:Int) - 1))) = false:=decide_eq_false c4
   clear c4
   by_cases c88:([]:List (S39)).length + l0.length < 3518437208883
   ·rw [if_pos c88] at H
    have LMc88:=Aside0.mk c88
    clear c88
    obtain ⟨y240,hy240⟩:∃ y_:List (S39),y_ = (([]:List (S39)) ++ l0):=⟨_,rfl⟩
    replace H:((some (([(⟨a1_0,a1_1,y188⟩:S39)]:List (S39)):List (S39))).bind fun y243=>(if y240.length + y243.length < 3518437208883 then (some (y240 ++ y243)) else (none))) = some r:=by first|(rw [hy240];with_reducible exact H)|(have H2_:=(Option.bind_some _ _).symm.trans H;rw [hy240];with_reducible exact H2_)|(have H2_:=(Option.bind_some _ _).symm.trans H;with_reducible exact H2_)|with_reducible exact H|(rw [hy240];exact H)|exact H
    have Ny240:=Aside0.mk hy240
    clear hy240
    obtain ⟨y243,hy243⟩:∃ y_:List (S39),y_ = (([(⟨a1_0,a1_1,y188⟩:S39)]:List (S39))):=⟨_,rfl⟩
    replace H:(if y240.length + y243.length < 3518437208883 then (some (y240 ++ y243)) else (none)) = some r:=by first|(rw [hy243];with_reducible exact H)|(have H2_:=(Option.bind_some _ _).symm.trans H;rw [hy243];with_reducible exact H2_)|(have H2_:=(Option.bind_some _ _).symm.trans H;with_reducible exact H2_)|with_reducible exact H|(rw [hy243];exact H)|exact H
    have Ny243:=Aside0.mk hy243
    clear hy243
    by_cases c89:y240.length + y243.length < 3518437208883
    ·rw [if_pos c89] at H
     have LMc89:=Aside0.mk c89
     clear c89
     obtain ⟨y246,hy246⟩:∃ y_:List (S39),y_ = (y240 ++ y243):=⟨_,rfl⟩
     replace H:(some y246) = some r:=by first|(rw [hy246];with_reducible exact H)|(have H2_:=(Option.bind_some _ _).symm.trans H;rw [hy246];with_reducible exact H2_)|(have H2_:=(Option.bind_some _ _).symm.trans H;with_reducible exact H2_)|with_reducible exact H|(rw [hy246];exact H)|exact H
     have Ny246:=Aside0.mk hy246
     clear hy246
     obtain rfl:=Option.some.inj H
     go_enter Try.func46,Try.ntmps46
     try go_wp2_with (first|((with_reducible refine gate_dst (N:=3) rfl ?_);refine box_event ?hg (N:=3) ?hd (cs:=#[.int .i64 a1_0,.int .i64 a1_1,.slice A1_2 l1_2.length c1_2]) (t:=39) ?hr ?_;(case hd=>rfl);(case hg=>rfl);(case hr=>first|(go_simp;done)|(go_simp;rfl));intro gb187 hg w90 hbox hb;have n0_:=Aside0.mk (Kd.V_below (Kd.V_elderB (by (with_reducible repeat (first|apply Kd.V_alloc|apply Kd.V_drewN|apply Kd.V_drew));exact HO0.out) gb187 (Nat.le_of_eq hg.symm)) hb);have n1_:=Aside0.mk (below_step (by repeat (first|(with_reducible first|exact HB.out|apply below_alloc|apply pw_below_drewN|apply below_drew1)|exact HB.out)) hb);have n2_:=Aside0.mk (hbox);have n3_:=Aside0.mk ((by rw [hg];exact (below_size (by repeat (first|(with_reducible first|exact HB.out|apply below_alloc|apply pw_below_drewN|apply below_drew1)|exact HB.out))):w.heap.size ≤ gb187));have n4_:=Aside0.mk ((by rw [hg];exact (below_size (by repeat (first|(with_reducible first|exact HB.out|apply below_alloc|apply pw_below_drewN|apply below_drew1)|exact HB.out))):w.heap.size ≤ gb187));clear HO0;clear HB;have HO0:=n0_;have HB:=n1_;have BK187:=n2_;have GW187:=n3_;have GE187:=n4_;clear n0_ n1_ n2_ n3_ n4_;clear hb hbox hg;have hcz91_0:w90.cell? ⟨gb187,0,none⟩ = some (.int .i64 a1_0):=(blk_cell BK187.out 0).trans rfl;have hcz91_1:w90.cell? ⟨gb187,1,none⟩ = some (.int .i64 a1_1):=(blk_cell BK187.out 1).trans rfl;have hcz91_2:w90.cell? ⟨gb187,2,none⟩ = some (.slice A1_2 l1_2.length c1_2):=(blk_cell BK187.out 2).trans rfl;have hfz91_0:=blk_frozen BK187.out 0;have hfz91_1:=blk_frozen BK187.out 1;have hfz91_2:=blk_frozen BK187.out 2)|((with_reducible refine gate_builtin (b:=.append) (xs:=#[.const (.slice none 0 0),.tmp 8]) rfl ?_);at_builtin;refine Kd.R_append_rows (Kd.int .u8) (w0:=w) w.heap.size rfl (.const (.slice none 0 0)) (.tmp 8) 26 5 (.int .u8 0) 1 rfl Try.underlying26 info5 rfl (by decide) (by omega) (.slice none 0 0) ([]:List Int) l1_2 _ _ _ (fun k_=>(w.heap.size ≤ k_)) (fun _=>False) rfl rfl ?aO ?aR (fun _ _ h=>h) (fun _ h=>h.elim) ?aF ?aB ?aS ?aL ?_;(case aR=>repeat (first|exact (Kd.C_below HR1_2.out HB.out)|(with_reducible refine Kd.C_alloc ?_ _)|(with_reducible refine Kd.C_drewN ?_ _)|(with_reducible refine Kd.C_drew ?_)));(case aB=>exact (by repeat (first|(with_reducible first|exact HB.out|apply below_alloc|apply pw_below_drewN|apply below_drew1|refine below_set ?_ GE187.out)|exact HB.out)));(case aF=>exact (fun k_ hk=>(Nat.le_trans (below_size (by repeat (first|(with_reducible first|exact HB.out|apply below_alloc|apply pw_below_drewN|apply below_drew1|refine below_set ?_ GE187.out)|exact HB.out))) hk)));(case aO=>exact ((Kd.R_nil _ _ _ _ (fun k_=>(w.heap.size ≤ k_)))));(case aS=>exact (below_size (by repeat (first|(with_reducible first|exact HB.out|apply below_alloc|apply pw_below_drewN|apply below_drew1|refine below_set ?_ GE187.out)|exact HB.out))));(case aL=>have:=LMc3.out;omega);intro v189 w92 ho hb hg hat;rw [← Ny188.out] at ho;have n0_:=Aside0.mk (Kd.V_afterv (Kd.V_apart_nil (by (with_reducible repeat (first|apply Kd.V_alloc|apply Kd.V_drewN|apply Kd.V_drew));exact HO0.out)) hg hat);have n1_:=Aside0.mk (blk_grown (g:=gb187) (o:=.cells #[.int .i64 a1_0,.int .i64 a1_1,.slice A1_2 l1_2.length c1_2] 39 (0,0)) (by (with_reducible repeat (first|refine blk_drewN ?_ _|refine blk_drew ?_|refine blk_alloc ?_ _));exact BK187.out) hg (by simp [Value.ownBlock]));have n2_:=Aside0.mk (hb);have n3_:=Aside0.mk (ho);clear HO0;clear BK187;clear HB;have HO0:=n0_;have BK187:=n1_;have HB:=n2_;have HO190:=n3_;clear n0_ n1_ n2_ n3_;clear ho hb hg hat;obtain ⟨Ao93,co93,eo93⟩:=Kd.R_slice HO190.out;subst eo93;have hcz94_0:w92.cell? ⟨gb187,0,none⟩ = some (.int .i64 a1_0):=(blk_cell BK187.out 0).trans rfl;have hcz94_1:w92.cell? ⟨gb187,1,none⟩ = some (.int .i64 a1_1):=(blk_cell BK187.out 1).trans rfl;have hcz94_2:w92.cell? ⟨gb187,2,none⟩ = some (.slice A1_2 l1_2.length c1_2):=(blk_cell BK187.out 2).trans rfl;have hfz94_0:=blk_frozen BK187.out 0;have hfz94_1:=blk_frozen BK187.out 1;have hfz94_2:=blk_frozen BK187.out 2))
     have n0_:Aside0 (Kd.V k39 39 (w92.setCell ⟨gb187,2,none⟩ (.slice Ao93 y188.length co93)) w.heap.size (fun k_=>(P0_ k_ ∨ w.heap.size ≤ k_) ∧ some k_ ≠ (.slice Ao93 y188.length co93:Value).ownBlock ∧ k_ ≠ gb187) (.slice A0 l0.length c0) l0):=⟨by (with_reducible repeat (first|apply Kd.V_alloc|apply Kd.V_drewN|apply Kd.V_drew));exact Kd.V_mono (Kd.V_far (p:=⟨gb187,2,none⟩) (Kd.V_mono HO0.out (fun k_ hk=>(⟨hk,hk.1.2⟩:_ ∧ k_ ≠ gb187))) (fun _ hk=>hk.2) (.slice Ao93 y188.length co93)) (fun _ hk=>⟨hk.1.1.1,⟨hk.1.2,hk.1.1.2⟩⟩)⟩
     have n1_:Aside0 (Kd.R (Kd.int .u8) 5 (w92.setCell ⟨gb187,2,none⟩ (.slice Ao93 y188.length co93)) w.heap.size (fun k_=>(w.heap.size ≤ k_)) (.slice Ao93 y188.length co93) y188):=⟨by (with_reducible repeat (first|apply Kd.R_alloc|apply Kd.R_drewN|apply Kd.R_drew));exact Kd.R_mono (Kd.R_far (p:=⟨gb187,2,none⟩) (Kd.R_types HO190.out BK187.out (by decide)) (fun _ hk=>hk.2) (.slice Ao93 y188.length co93)) (fun _ hk=>hk.1)⟩
     have n2_:Aside0 ((w92.setCell ⟨gb187,2,none⟩ (.slice Ao93 y188.length co93)).heap[gb187]? = some (.cells #[.int .i64 a1_0,.int .i64 a1_1,.slice Ao93 y188.length co93] 39 (0,0))):=⟨by (with_reducible repeat (first|refine blk_drewN ?_ _|refine blk_drew ?_|refine blk_alloc ?_ _));refine blk_put (cs:=#[.int .i64 a1_0,.int .i64 a1_1,.slice A1_2 l1_2.length c1_2]) ?_ 2 _ rfl;(with_reducible repeat (first|refine blk_drewN ?_ _|refine blk_drew ?_|refine blk_alloc ?_ _));exact BK187.out⟩
     have n3_:Aside0 (Below w.heap.size w (w92.setCell ⟨gb187,2,none⟩ (.slice Ao93 y188.length co93))):=⟨by repeat (first|(with_reducible first|exact HB.out|apply below_alloc|apply pw_below_drewN|apply below_drew1|refine below_set ?_ GE187.out)|exact HB.out)⟩
     (try clear HO0)
     (try clear HO190)
     (try clear BK187)
     (try clear HB)
     generalize (w92.setCell ⟨gb187,2,none⟩ (.slice Ao93 y188.length co93)) = w95 at n0_ n1_ n2_ n3_ ⊢
     have HO0:=n0_
     have HO190:=n1_
     have BK187:=n2_
     have HB:=n3_
     clear n0_ n1_ n2_ n3_
     have n0_:=Aside0.mk (Kd.V_drew HO0.out)
     have n1_:=Aside0.mk (Kd.R_drew HO190.out)
     have n2_:=Aside0.mk (blk_drew BK187.out)
     have n3_:=Aside0.mk (below_drew1 HB.out)
     clear HO0
     clear HO190
     clear BK187
     clear HB
     have HO0:=n0_
     have HO190:=n1_
     have BK187:=n2_
     have HB:=n3_
     clear n0_ n1_ n2_ n3_
     refine start_ (n:=6) (S:=fun w'=>w'.cell? ⟨gb187,0,none⟩ = some (.int .i64 a1_0) ∧ w'.cell? ⟨gb187,1,none⟩ = some (.int .i64 a1_1) ∧ w'.cell? ⟨gb187,2,none⟩ = some (.slice Ao93 y188.length co93)) (ds:=[]) #[false,false,false,false,false,false] (by kernel_rfl) rfl rfl ⟨(blk_cell BK187.out 0).trans rfl,(blk_cell BK187.out 1).trans rfl,(blk_cell BK187.out 2).trans rfl⟩ (fun hHeld=>?_)
     generalize w95.drew = w96 at HO0 HO190 BK187 HB hHeld ⊢
     refine pure_ (i:=0) (N:=some 69) (v:=?_) (a':=?_) #[true,false,false,false,false,false] rfl rfl (by kernel_rfl) (fun _ _ _ h=>h) (Or.inl ⟨by rfl,?_⟩) ?_ ?_
     rotate_left
     ·intro w'
      go_simp
      with_reducible rfl
     rotate_left
     ·simp only [Act.put,List.setIfInBounds_toArray,List.set_cons_zero,List.set_cons_succ,i64_w,i32_w]
      rfl
     refine take_ (i:=2) (N:=some 71) (v:=?_) (a':=?_) #[true,false,true,false,false,false] rfl rfl (by kernel_rfl) (fun _ _ _ h=>h) (Or.inl ⟨by rfl,?_⟩) hHeld ?_ ?_
     rotate_left
     ·rintro w' ⟨s0,s1,s2⟩
      go_simp
      with_reducible rfl
     rotate_left
     ·simp only [Act.put,List.setIfInBounds_toArray,List.set_cons_zero,List.set_cons_succ,i64_w,i32_w]
      rfl
     refine join_ (σ:=Value × Value) 2 #[true,true,true,true,false,false] (fun s_=>[(70,s_.1),(72,s_.2)]) (fun s_ w'=>(w'.cell? ⟨gb187,0,none⟩ = some (.int .i64 a1_0) ∧ w'.cell? ⟨gb187,1,none⟩ = some (.int .i64 a1_1) ∧ w'.cell? ⟨gb187,2,none⟩ = some (.slice Ao93 y188.length co93)) ∧ (Kd.V k39 39 w' w.heap.size (fun k_=>(P0_ k_ ∨ w.heap.size ≤ k_) ∧ some k_ ≠ (s_.1:Value).ownBlock ∧ some k_ ≠ (s_.2:Value).ownBlock ∧ k_ ≠ gb187) (.slice A0 l0.length c0) l0) ∧ (Kd.N k39 39 w' w.heap.size (fun k_=>(P0_ k_ ∨ w.heap.size ≤ k_) ∧ some k_ ≠ (s_.2:Value).ownBlock ∧ k_ ≠ gb187) s_.1 y240) ∧ (Kd.N k39 39 w' w.heap.size (fun k_=>(P0_ k_ ∨ w.heap.size ≤ k_) ∧ some k_ ≠ (s_.1:Value).ownBlock ∧ k_ ≠ gb187) s_.2 y243) ∧ (w'.heap[gb187]? = some (.cells #[.int .i64 a1_0,.int .i64 a1_1,.slice Ao93 y188.length co93] 39 (0,0))) ∧ (Below w.heap.size w w')) ?_ ?_
     rotate_left
     ·intro hCont
      refine two_ (i:=1) (j:=3) (Ni:=some 70) (Nj:=some 72) #[true,true,true,false,false,false] #[true,false,true,true,false,false] rfl rfl rfl rfl (by kernel_rfl) (by decide) (by decide) (fun K hK=>?_) (fun K hK=>?_)
      ·skip
       refine Kd.N_append_rows_step k39 (w0:=w) w.heap.size (by rfl) (.const (.slice none 0 0)) (.tmp 69) 29 39 (.agg #[(.int .i64 0),(.int .i64 0),(.slice none 0 0)]) 40 rfl Try.underlying29 info39 rfl (by decide) (by omega) (.slice none 0 0) ([]:List (S39)) l0 _ _ _ (fun k_=>(P0_ k_ ∨ w.heap.size ≤ k_) ∧ some k_ ≠ (.slice Ao93 y188.length co93:Value).ownBlock ∧ k_ ≠ gb187) (fun k_=>((fun k_=>(P0_ k_ ∨ w.heap.size ≤ k_) ∧ some k_ ≠ (.slice Ao93 y188.length co93:Value).ownBlock ∧ k_ ≠ gb187)) k_ ∧ some k_ ≠ (.slice none 0 0:Value).ownBlock) rfl rfl ?aO ?aR (fun _ hk=>hk) ?aF ?aB ?aS ?aL ?_
       (case aR=>exact (by skip;exact Kd.V_F (Kd.V_mono (ok':=(fun k_=>((fun k_=>(P0_ k_ ∨ w.heap.size ≤ k_) ∧ some k_ ≠ (.slice Ao93 y188.length co93:Value).ownBlock ∧ k_ ≠ gb187)) k_ ∧ some k_ ≠ (.slice none 0 0:Value).ownBlock)) (HO0.out) (fun k_ hk=>⟨⟨hk.1,⟨hk.2.1,hk.2.2⟩⟩,(by simp [Value.ownBlock])⟩))))
       (case aB=>exact (by repeat (first|(with_reducible first|exact HB.out|apply below_alloc|apply pw_below_drewN|apply below_drew1|refine below_set ?_ GE187.out)|exact HB.out)))
       (case aF=>exact (fun k_ hk=>⟨(.inr (Nat.le_trans (below_size (by repeat (first|(with_reducible first|exact HB.out|apply below_alloc|apply pw_below_drewN|apply below_drew1|refine below_set ?_ GE187.out)|exact HB.out))) hk)),Kd.fresh' (Kd.R_lt (by (with_reducible repeat (first|apply Kd.R_alloc|apply Kd.R_drewN|apply Kd.R_drew));exact HO190.out)) k_ hk,Kd.freshB (g:=gb187) (o:=.cells #[.int .i64 a1_0,.int .i64 a1_1,.slice Ao93 y188.length co93] 39 (0,0)) (by (with_reducible repeat (first|refine blk_drewN ?_ _|refine blk_drew ?_|refine blk_alloc ?_ _));exact BK187.out) k_ hk⟩))
       (case aO=>exact ((Kd.N_nil _ _ _ _ (fun k_=>(P0_ k_ ∨ w.heap.size ≤ k_) ∧ some k_ ≠ (.slice Ao93 y188.length co93:Value).ownBlock ∧ k_ ≠ gb187))))
       (case aS=>exact (below_size (by repeat (first|(with_reducible first|exact HB.out|apply below_alloc|apply pw_below_drewN|apply below_drew1|refine below_set ?_ GE187.out)|exact HB.out))))
       (case aL=>have:=LMc88.out;omega)
       intro v241 w97 ho hb hg hat
       rw [← Ny240.out] at ho
       have n0_:=Aside0.mk (Kd.V_afterv (Kd.V_apart_nil (by (with_reducible repeat (first|apply Kd.V_alloc|apply Kd.V_drewN|apply Kd.V_drew));exact HO0.out)) hg hat)
       have n1_:=Aside0.mk (blk_grown (g:=gb187) (o:=.cells #[.int .i64 a1_0,.int .i64 a1_1,.slice Ao93 y188.length co93] 39 (0,0)) (by (with_reducible repeat (first|refine blk_drewN ?_ _|refine blk_drew ?_|refine blk_alloc ?_ _));exact BK187.out) hg (by simp [Value.ownBlock]))
       have n2_:=Aside0.mk (Kd.R_grown (by (with_reducible repeat (first|apply Kd.R_alloc|apply Kd.R_drewN|apply Kd.R_drew));exact HO190.out) hg (fun _ _=>by simp [Value.ownBlock]))
       have n3_:=Aside0.mk (hb)
       have n4_:=Aside0.mk (ho)
       clear HO0
       clear BK187
       clear HO190
       clear HB
       have HO0:=n0_
       have BK187:=n1_
       have HO190:=n2_
       have HB:=n3_
       have HO242:=n4_
       clear n0_ n1_ n2_ n3_ n4_
       clear ho hb hg hat
       refine hK.out _ _ ⟨(blk_cell BK187.out 0).trans rfl,(blk_cell BK187.out 1).trans rfl,(blk_cell BK187.out 2).trans rfl⟩ (fun hHeld=>?_)
       clear hK K
       refine norm_ (a':=?_) ?_ ?_
       rotate_left
       ·show Act.put _ (some 70) _ = _
        simp only [Act.put,List.setIfInBounds_toArray,List.set_cons_zero,List.set_cons_succ,i64_w,i32_w]
        rfl
       refine one_ (i:=3) (N:=some 72) #[true,true,true,true,false,false] rfl rfl (by kernel_rfl) (by decide) (fun K hK=>?_)
       refine Kd.N_lit_step k39 _ 39 ?hg (N':=72) ?hd (xs:=([(⟨a1_0,a1_1,y188⟩:S39)]:List (S39))) (inner:=[.int .i64 a1_0,.int .i64 a1_1,.slice Ao93 y188.length co93]) (ok:=(fun k_=>(P0_ k_ ∨ w.heap.size ≤ k_) ∧ some k_ ≠ (v241:Value).ownBlock ∧ k_ ≠ gb187)) (okp:=(fun k_=>(P0_ k_ ∨ w.heap.size ≤ k_) ∧ some k_ ≠ (v241:Value).ownBlock ∧ k_ ≠ gb187)) ?hr ?hp (fun _ hk=>hk) ((show ∀ k_,w97.heap.size ≤ k_ → (fun k_=>(P0_ k_ ∨ w.heap.size ≤ k_) ∧ some k_ ≠ (v241:Value).ownBlock ∧ k_ ≠ gb187) k_ from fun k_ hk=>⟨(.inr (Nat.le_trans (below_size (by repeat (first|(with_reducible first|exact HB.out|apply below_alloc|apply pw_below_drewN|apply below_drew1|refine below_set ?_ GE187.out)|exact HB.out))) hk)),Kd.fresh' (Kd.N_lt (by (with_reducible repeat (first|apply Kd.N_alloc|apply Kd.N_drewN|apply Kd.N_drew));exact HO242.out)) k_ hk,Kd.freshB (g:=gb187) (o:=.cells #[.int .i64 a1_0,.int .i64 a1_1,.slice Ao93 y188.length co93] 39 (0,0)) (by (with_reducible repeat (first|refine blk_drewN ?_ _|refine blk_drew ?_|refine blk_alloc ?_ _));exact BK187.out) k_ hk⟩) _ (Nat.le_refl _)) (Below.refl _ _) (Nat.le_refl _) (by simp) ?_;(case hd=>rfl);(case hg=>rfl);(case hr=>first|(go_simp;done)|(go_simp;rfl));(case hp=>exact (Reps.c3 (show Kd.FK k39 _ _ (⟨a1_0,a1_1,y188⟩:S39) [.int .i64 a1_0,.int .i64 a1_1,.slice Ao93 y188.length co93] from (k39_mkF _ _ (⟨a1_0,a1_1,y188⟩:S39) (Kd.R_reads' (Kd.R_mono (ok':=(fun k_=>(P0_ k_ ∨ w.heap.size ≤ k_) ∧ some k_ ≠ (v241:Value).ownBlock ∧ k_ ≠ gb187)) (Kd.R_types (Kd.R_apart' (HO190.out) (Kd.N_typed HO242.out) (by decide)) BK187.out (by decide)) (fun k_ hk=>⟨(.inr (hk.1.1)),⟨hk.1.2,hk.2⟩⟩))).2.1 (Kd.R_F (Kd.R_mono (ok':=(fun k_=>(P0_ k_ ∨ w.heap.size ≤ k_) ∧ some k_ ≠ (v241:Value).ownBlock ∧ k_ ≠ gb187)) (Kd.R_types (Kd.R_apart' (HO190.out) (Kd.N_typed HO242.out) (by decide)) BK187.out (by decide)) (fun k_ hk=>⟨(.inr (hk.1.1)),⟨hk.1.2,hk.2⟩⟩))))) (Reps.none _ _)))
       intro v244 w98 ho99 hb hg_ hnew_
       clear hg_ hnew_
       (first|rw [← Ny243.out] at ho99|(simp only [Int.reduceToNat] at ho99;rw [← Ny243.out] at ho99))
       have n0_:=Aside0.mk (Kd.V_elder' (by (with_reducible repeat (first|apply Kd.V_alloc|apply Kd.V_drewN|apply Kd.V_drew));exact HO0.out) (by first|exact Kd.N_base ho99|exact Kd.S_base ho99) hb)
       have n1_:=Aside0.mk (Kd.N_elder' (by (with_reducible repeat (first|apply Kd.N_alloc|apply Kd.N_drewN|apply Kd.N_drew));exact HO242.out) (by first|exact Kd.N_base ho99|exact Kd.S_base ho99) hb)
       have n2_:=Aside0.mk (Kd.N_lower ho99 (below_size (by repeat (first|(with_reducible first|exact HB.out|apply below_alloc|apply pw_below_drewN|apply below_drew1|refine below_set ?_ GE187.out)|exact HB.out))))
       have n3_:=Aside0.mk (blk_below (g:=gb187) (o:=.cells #[.int .i64 a1_0,.int .i64 a1_1,.slice Ao93 y188.length co93] 39 (0,0)) (by (with_reducible repeat (first|refine blk_drewN ?_ _|refine blk_drew ?_|refine blk_alloc ?_ _));exact BK187.out) hb)
       have n4_:=Aside0.mk (below_step (by repeat (first|(with_reducible first|exact HB.out|apply below_alloc|apply pw_below_drewN|apply below_drew1|refine below_set ?_ GE187.out)|exact HB.out)) hb)
       clear HO0
       clear HO242
       clear BK187
       clear HB
       clear HO190
       have HO0:=n0_
       have HO242:=n1_
       have HO245:=n2_
       have BK187:=n3_
       have HB:=n4_
       clear n0_ n1_ n2_ n3_ n4_
       clear hb ho99
       refine hK.out _ _ ⟨(blk_cell BK187.out 0).trans rfl,(blk_cell BK187.out 1).trans rfl,(blk_cell BK187.out 2).trans rfl⟩ (fun hHeld=>?_)
       clear hK K
       refine norm_ (a':=?_) ?_ ?_
       rotate_left
       ·show Act.put _ (some 72) _ = _
        simp only [Act.put,List.setIfInBounds_toArray,List.set_cons_zero,List.set_cons_succ,i64_w,i32_w]
        rfl
       exact norm_ (by simp only [putAll,Act.put,List.setIfInBounds_toArray,List.set_cons_zero,List.set_cons_succ]) (hCont (v241,v244) _ ⟨hHeld,(by (with_reducible repeat (first|apply Kd.V_alloc|apply Kd.V_drewN|apply Kd.V_drew));exact Kd.V_mono HO0.out (fun _ hk=>⟨hk.1.1.1,⟨hk.1.2,⟨hk.2,hk.1.1.2.2⟩⟩⟩)),(by (with_reducible repeat (first|apply Kd.N_alloc|apply Kd.N_drewN|apply Kd.N_drew));exact Kd.N_mono HO242.out (fun _ hk=>⟨hk.1.1,⟨hk.2,hk.1.2.2⟩⟩)),(by (with_reducible repeat (first|apply Kd.N_alloc|apply Kd.N_drewN|apply Kd.N_drew));exact HO245.out),(by (with_reducible repeat (first|refine blk_drewN ?_ _|refine blk_drew ?_|refine blk_alloc ?_ _));exact BK187.out),(by repeat (first|(with_reducible first|exact HB.out|apply below_alloc|apply pw_below_drewN|apply below_drew1|refine below_set ?_ GE187.out)|exact HB.out))⟩)
      ·skip
       refine Kd.N_lit_step k39 _ 39 ?hg (N':=72) ?hd (xs:=([(⟨a1_0,a1_1,y188⟩:S39)]:List (S39))) (inner:=[.int .i64 a1_0,.int .i64 a1_1,.slice Ao93 y188.length co93]) (ok:=(fun k_=>(P0_ k_ ∨ w.heap.size ≤ k_) ∧ k_ ≠ gb187)) (okp:=(fun k_=>(P0_ k_ ∨ w.heap.size ≤ k_) ∧ k_ ≠ gb187)) ?hr ?hp (fun _ hk=>hk) ((show ∀ k_,w96.heap.size ≤ k_ → (fun k_=>(P0_ k_ ∨ w.heap.size ≤ k_) ∧ k_ ≠ gb187) k_ from fun k_ hk=>⟨(.inr (Nat.le_trans (below_size (by repeat (first|(with_reducible first|exact HB.out|apply below_alloc|apply pw_below_drewN|apply below_drew1|refine below_set ?_ GE187.out)|exact HB.out))) hk)),Kd.freshB (g:=gb187) (o:=.cells #[.int .i64 a1_0,.int .i64 a1_1,.slice Ao93 y188.length co93] 39 (0,0)) (by (with_reducible repeat (first|refine blk_drewN ?_ _|refine blk_drew ?_|refine blk_alloc ?_ _));exact BK187.out) k_ hk⟩) _ (Nat.le_refl _)) (Below.refl _ _) (Nat.le_refl _) (by simp) ?_;(case hd=>rfl);(case hg=>rfl);(case hr=>first|(go_simp;done)|(go_simp;rfl));(case hp=>exact (Reps.c3 (show Kd.FK k39 _ _ (⟨a1_0,a1_1,y188⟩:S39) [.int .i64 a1_0,.int .i64 a1_1,.slice Ao93 y188.length co93] from (k39_mkF _ _ (⟨a1_0,a1_1,y188⟩:S39) (Kd.R_reads' (Kd.R_mono (ok':=(fun k_=>(P0_ k_ ∨ w.heap.size ≤ k_) ∧ k_ ≠ gb187)) (Kd.R_types (HO190.out) BK187.out (by decide)) (fun k_ hk=>⟨(.inr (hk.1)),hk.2⟩))).2.1 (Kd.R_F (Kd.R_mono (ok':=(fun k_=>(P0_ k_ ∨ w.heap.size ≤ k_) ∧ k_ ≠ gb187)) (Kd.R_types (HO190.out) BK187.out (by decide)) (fun k_ hk=>⟨(.inr (hk.1)),hk.2⟩))))) (Reps.none _ _)))
       intro v244 w97 ho98 hb hg_ hnew_
       clear hg_ hnew_
       (first|rw [← Ny243.out] at ho98|(simp only [Int.reduceToNat] at ho98;rw [← Ny243.out] at ho98))
       have n0_:=Aside0.mk (Kd.V_elder' (by (with_reducible repeat (first|apply Kd.V_alloc|apply Kd.V_drewN|apply Kd.V_drew));exact HO0.out) (by first|exact Kd.N_base ho98|exact Kd.S_base ho98) hb)
       have n1_:=Aside0.mk (Kd.N_lower ho98 (below_size (by repeat (first|(with_reducible first|exact HB.out|apply below_alloc|apply pw_below_drewN|apply below_drew1|refine below_set ?_ GE187.out)|exact HB.out))))
       have n2_:=Aside0.mk (blk_below (g:=gb187) (o:=.cells #[.int .i64 a1_0,.int .i64 a1_1,.slice Ao93 y188.length co93] 39 (0,0)) (by (with_reducible repeat (first|refine blk_drewN ?_ _|refine blk_drew ?_|refine blk_alloc ?_ _));exact BK187.out) hb)
       have n3_:=Aside0.mk (below_step (by repeat (first|(with_reducible first|exact HB.out|apply below_alloc|apply pw_below_drewN|apply below_drew1|refine below_set ?_ GE187.out)|exact HB.out)) hb)
       clear HO0
       clear BK187
       clear HB
       clear HO190
       have HO0:=n0_
       have HO245:=n1_
       have BK187:=n2_
       have HB:=n3_
       clear n0_ n1_ n2_ n3_
       clear hb ho98
       refine hK.out _ _ ⟨(blk_cell BK187.out 0).trans rfl,(blk_cell BK187.out 1).trans rfl,(blk_cell BK187.out 2).trans rfl⟩ (fun hHeld=>?_)
       clear hK K
       refine norm_ (a':=?_) ?_ ?_
       rotate_left
       ·show Act.put _ (some 72) _ = _
        simp only [Act.put,List.setIfInBounds_toArray,List.set_cons_zero,List.set_cons_succ,i64_w,i32_w]
        rfl
       refine one_ (i:=1) (N:=some 70) #[true,true,true,true,false,false] rfl rfl (by kernel_rfl) (by decide) (fun K hK=>?_)
       refine Kd.N_append_rows_step k39 (w0:=w) w.heap.size (by rfl) (.const (.slice none 0 0)) (.tmp 69) 29 39 (.agg #[(.int .i64 0),(.int .i64 0),(.slice none 0 0)]) 40 rfl Try.underlying29 info39 rfl (by decide) (by omega) (.slice none 0 0) ([]:List (S39)) l0 _ _ _ (fun k_=>(P0_ k_ ∨ w.heap.size ≤ k_) ∧ some k_ ≠ (v244:Value).ownBlock ∧ k_ ≠ gb187) (fun k_=>((fun k_=>(P0_ k_ ∨ w.heap.size ≤ k_) ∧ some k_ ≠ (v244:Value).ownBlock ∧ k_ ≠ gb187)) k_ ∧ some k_ ≠ (.slice none 0 0:Value).ownBlock) rfl rfl ?aO ?aR (fun _ hk=>hk) ?aF ?aB ?aS ?aL ?_
       (case aR=>exact (by skip;exact Kd.V_F (Kd.V_mono (ok':=(fun k_=>((fun k_=>(P0_ k_ ∨ w.heap.size ≤ k_) ∧ some k_ ≠ (v244:Value).ownBlock ∧ k_ ≠ gb187)) k_ ∧ some k_ ≠ (.slice none 0 0:Value).ownBlock)) (HO0.out) (fun k_ hk=>⟨⟨hk.1.1,⟨hk.2,hk.1.2.2⟩⟩,(by simp [Value.ownBlock])⟩))))
       (case aB=>exact (by repeat (first|(with_reducible first|exact HB.out|apply below_alloc|apply pw_below_drewN|apply below_drew1|refine below_set ?_ GE187.out)|exact HB.out)))
       (case aF=>exact (fun k_ hk=>⟨(.inr (Nat.le_trans (below_size (by repeat (first|(with_reducible first|exact HB.out|apply below_alloc|apply pw_below_drewN|apply below_drew1|refine below_set ?_ GE187.out)|exact HB.out))) hk)),Kd.fresh' (Kd.N_lt (by (with_reducible repeat (first|apply Kd.N_alloc|apply Kd.N_drewN|apply Kd.N_drew));exact HO245.out)) k_ hk,Kd.freshB (g:=gb187) (o:=.cells #[.int .i64 a1_0,.int .i64 a1_1,.slice Ao93 y188.length co93] 39 (0,0)) (by (with_reducible repeat (first|refine blk_drewN ?_ _|refine blk_drew ?_|refine blk_alloc ?_ _));exact BK187.out) k_ hk⟩))
       (case aO=>exact ((Kd.N_nil _ _ _ _ (fun k_=>(P0_ k_ ∨ w.heap.size ≤ k_) ∧ some k_ ≠ (v244:Value).ownBlock ∧ k_ ≠ gb187))))
       (case aS=>exact (below_size (by repeat (first|(with_reducible first|exact HB.out|apply below_alloc|apply pw_below_drewN|apply below_drew1|refine below_set ?_ GE187.out)|exact HB.out))))
       (case aL=>have:=LMc88.out;omega)
       intro v241 w99 ho hb hg hat
       rw [← Ny240.out] at ho
       have n0_:=Aside0.mk (Kd.V_afterv (Kd.V_apart_nil (by (with_reducible repeat (first|apply Kd.V_alloc|apply Kd.V_drewN|apply Kd.V_drew));exact HO0.out)) hg hat)
       have n1_:=Aside0.mk (blk_grown (g:=gb187) (o:=.cells #[.int .i64 a1_0,.int .i64 a1_1,.slice Ao93 y188.length co93] 39 (0,0)) (by (with_reducible repeat (first|refine blk_drewN ?_ _|refine blk_drew ?_|refine blk_alloc ?_ _));exact BK187.out) hg (by simp [Value.ownBlock]))
       have n2_:=Aside0.mk (Kd.N_afterv (Kd.N_apart_nil (by (with_reducible repeat (first|apply Kd.N_alloc|apply Kd.N_drewN|apply Kd.N_drew));exact HO245.out)) hg hat)
       have n3_:=Aside0.mk (hb)
       have n4_:=Aside0.mk (ho)
       clear HO0
       clear BK187
       clear HO245
       clear HB
       have HO0:=n0_
       have BK187:=n1_
       have HO245:=n2_
       have HB:=n3_
       have HO242:=n4_
       clear n0_ n1_ n2_ n3_ n4_
       clear ho hb hg hat
       refine hK.out _ _ ⟨(blk_cell BK187.out 0).trans rfl,(blk_cell BK187.out 1).trans rfl,(blk_cell BK187.out 2).trans rfl⟩ (fun hHeld=>?_)
       clear hK K
       refine norm_ (a':=?_) ?_ ?_
       rotate_left
       ·show Act.put _ (some 70) _ = _
        simp only [Act.put,List.setIfInBounds_toArray,List.set_cons_zero,List.set_cons_succ,i64_w,i32_w]
        rfl
       exact norm_ (by simp only [putAll,Act.put,List.setIfInBounds_toArray,List.set_cons_zero,List.set_cons_succ]) (hCont (v241,v244) _ ⟨hHeld,(by (with_reducible repeat (first|apply Kd.V_alloc|apply Kd.V_drewN|apply Kd.V_drew));exact Kd.V_mono HO0.out (fun _ hk=>⟨hk.1.1.1,⟨hk.2,⟨hk.1.2,hk.1.1.2.2⟩⟩⟩)),(by (with_reducible repeat (first|apply Kd.N_alloc|apply Kd.N_drewN|apply Kd.N_drew));exact HO242.out),(by (with_reducible repeat (first|apply Kd.N_alloc|apply Kd.N_drewN|apply Kd.N_drew));exact Kd.N_mono HO245.out (fun _ hk=>⟨hk.1.1,⟨hk.2,hk.1.2⟩⟩)),(by (with_reducible repeat (first|refine blk_drewN ?_ _|refine blk_drew ?_|refine blk_alloc ?_ _));exact BK187.out),(by repeat (first|(with_reducible first|exact HB.out|apply below_alloc|apply pw_below_drewN|apply below_drew1|refine below_set ?_ GE187.out)|exact HB.out))⟩)
     rintro ⟨v241,v244⟩ w100 ⟨hS_,h0_,h1_,h2_,h3_,h4_⟩
     have n0_:Aside0 (Kd.V k39 39 w100 w.heap.size (fun k_=>(P0_ k_ ∨ w.heap.size ≤ k_) ∧ some k_ ≠ (v241:Value).ownBlock ∧ some k_ ≠ (v244:Value).ownBlock ∧ k_ ≠ gb187) (.slice A0 l0.length c0) l0):=⟨h0_⟩
     have n1_:Aside0 (Kd.N k39 39 w100 w.heap.size (fun k_=>(P0_ k_ ∨ w.heap.size ≤ k_) ∧ some k_ ≠ (v244:Value).ownBlock ∧ k_ ≠ gb187) v241 y240):=⟨h1_⟩
     have n2_:Aside0 (Kd.N k39 39 w100 w.heap.size (fun k_=>(P0_ k_ ∨ w.heap.size ≤ k_) ∧ some k_ ≠ (v241:Value).ownBlock ∧ k_ ≠ gb187) v244 y243):=⟨h2_⟩
     have n3_:Aside0 (w100.heap[gb187]? = some (.cells #[.int .i64 a1_0,.int .i64 a1_1,.slice Ao93 y188.length co93] 39 (0,0))):=⟨h3_⟩
     have n4_:Aside0 (Below w.heap.size w w100):=⟨h4_⟩
     clear HO0
     clear HO190
     clear BK187
     clear HB
     clear h0_ h1_ h2_ h3_ h4_
     have HO0:=n0_
     have HO242:=n1_
     have HO245:=n2_
     have BK187:=n3_
     have HB:=n4_
     clear n0_ n1_ n2_ n3_ n4_
     have hHeld:w100.cell? ⟨gb187,0,none⟩ = some (.int .i64 a1_0) ∧ w100.cell? ⟨gb187,1,none⟩ = some (.int .i64 a1_1) ∧ w100.cell? ⟨gb187,2,none⟩ = some (.slice Ao93 y188.length co93):=hS_
     obtain ⟨Ao102,co102,eo102⟩:=Kd.N_slice HO245.out
     (first|subst eo102|(injection eo102 with f1_ f2_ f3_;have f4_:=f1_.symm;have f5_:=f3_.symm;clear f1_ f2_ f3_;subst f4_;subst f5_))
     refine norm_ (a':=?_) ?_ ?_
     rotate_left
     ·simp only [putAll,Act.put,List.setIfInBounds_toArray,List.set_cons_zero,List.set_cons_succ]
      rfl
     refine one_ (i:=4) (N:=some 73) #[true,true,true,true,true,false] rfl rfl (by kernel_rfl) (by decide) (fun K hK=>?_)
     refine Kd.N_append_rows_step k39 (w0:=w) w.heap.size (by rfl) (.tmp 70) (.tmp 72) 29 39 (.agg #[(.int .i64 0),(.int .i64 0),(.slice none 0 0)]) 40 rfl Try.underlying29 info39 rfl (by decide) (by omega) v241 y240 y243 _ _ _ (fun k_=>(P0_ k_ ∨ w.heap.size ≤ k_) ∧ k_ ≠ gb187) (fun k_=>((fun k_=>(P0_ k_ ∨ w.heap.size ≤ k_) ∧ k_ ≠ gb187)) k_ ∧ some k_ ≠ (v241:Value).ownBlock) rfl rfl ?aO ?aR (fun _ hk=>hk) ?aF ?aB ?aS ?aL ?_
     (case aR=>exact (by skip;exact Kd.N_F (Kd.N_mono (ok':=(fun k_=>((fun k_=>(P0_ k_ ∨ w.heap.size ≤ k_) ∧ k_ ≠ gb187)) k_ ∧ some k_ ≠ (v241:Value).ownBlock)) (HO245.out) (fun k_ hk=>⟨⟨hk.1,hk.2.2⟩,hk.2.1⟩))))
     (case aB=>exact (by repeat (first|(with_reducible first|exact HB.out|apply below_alloc|apply pw_below_drewN|apply below_drew1|refine below_set ?_ GE187.out)|exact HB.out)))
     (case aF=>exact (fun k_ hk=>⟨(.inr (Nat.le_trans (below_size (by repeat (first|(with_reducible first|exact HB.out|apply below_alloc|apply pw_below_drewN|apply below_drew1|refine below_set ?_ GE187.out)|exact HB.out))) hk)),Kd.freshB (g:=gb187) (o:=.cells #[.int .i64 a1_0,.int .i64 a1_1,.slice Ao93 y188.length co93] 39 (0,0)) (by (with_reducible repeat (first|refine blk_drewN ?_ _|refine blk_drew ?_|refine blk_alloc ?_ _));exact BK187.out) k_ hk⟩))
     (case aO=>exact (by (with_reducible repeat (first|apply Kd.N_alloc|apply Kd.N_drewN|apply Kd.N_drew));exact Kd.N_mono HO242.out (fun _ hk=>⟨hk.1,hk.2.2⟩)))
     (case aS=>exact (below_size (by repeat (first|(with_reducible first|exact HB.out|apply below_alloc|apply pw_below_drewN|apply below_drew1|refine below_set ?_ GE187.out)|exact HB.out))))
     (case aL=>have:=LMc89.out;omega)
     intro v247 w101 ho hb hg hat
     rw [← Ny246.out] at ho
     have n0_:=Aside0.mk (Kd.V_afterv (ok:=(fun k_=>(P0_ k_ ∨ w.heap.size ≤ k_) ∧ some k_ ≠ (.slice Ao102 y243.length co102:Value).ownBlock ∧ k_ ≠ gb187)) (by (with_reducible repeat (first|apply Kd.V_alloc|apply Kd.V_drewN|apply Kd.V_drew));exact Kd.V_mono HO0.out (fun _ hk=>⟨⟨hk.1,⟨hk.2.2.1,hk.2.2.2⟩⟩,hk.2.1⟩)) hg hat)
     have n1_:=Aside0.mk (blk_grown (g:=gb187) (o:=.cells #[.int .i64 a1_0,.int .i64 a1_1,.slice Ao93 y188.length co93] 39 (0,0)) (by (with_reducible repeat (first|refine blk_drewN ?_ _|refine blk_drew ?_|refine blk_alloc ?_ _));exact BK187.out) hg (Kd.N_away HO242.out (fun _ hk=>hk.2.2)))
     have n2_:=Aside0.mk (Kd.N_afterv (ok:=(fun k_=>(P0_ k_ ∨ w.heap.size ≤ k_) ∧ k_ ≠ gb187)) (by (with_reducible repeat (first|apply Kd.N_alloc|apply Kd.N_drewN|apply Kd.N_drew));exact Kd.N_mono HO245.out (fun _ hk=>⟨⟨hk.1,hk.2.2⟩,hk.2.1⟩)) hg hat)
     have n3_:=Aside0.mk (hb)
     have n4_:=Aside0.mk (ho)
     clear HO0
     clear BK187
     clear HO245
     clear HB
     clear HO242
     have HO0:=n0_
     have BK187:=n1_
     have HO245:=n2_
     have HB:=n3_
     have HO248:=n4_
     clear n0_ n1_ n2_ n3_ n4_
     clear ho hb hg hat
     refine hK.out _ _ ⟨(blk_cell BK187.out 0).trans rfl,(blk_cell BK187.out 1).trans rfl,(blk_cell BK187.out 2).trans rfl⟩ (fun hHeld=>?_)
     clear hK K
     refine norm_ (a':=?_) ?_ ?_
     rotate_left
     ·show Act.put _ (some 73) _ = _
      simp only [Act.put,List.setIfInBounds_toArray,List.set_cons_zero,List.set_cons_succ,i64_w,i32_w]
      rfl
     refine pure_ (i:=5) (N:=some 4) (v:=?_) (a':=?_) #[true,true,true,true,true,true] rfl rfl (by kernel_rfl) (fun _ _ _ h=>h) (Or.inl ⟨by rfl,?_⟩) ?_ ?_
     rotate_left
     ·intro w'
      go_simp
      with_reducible rfl
     rotate_left
     ·simp only [Act.put,List.setIfInBounds_toArray,List.set_cons_zero,List.set_cons_succ,i64_w,i32_w]
      rfl
     refine done_ (by kernel_rfl) ?_
     try go_wp2
     go_ret
     exact ⟨_,by first|rfl|(simp [errW_none,errW_some] <;> rfl)|(simp [*,errW_none,errW_some] <;> rfl),by (with_reducible repeat (first|apply Kd.N_alloc|apply Kd.N_drewN|apply Kd.N_drew));exact Kd.N_mono HO248.out (fun _ hk=>hk.1),by repeat (first|(with_reducible first|exact HB.out|apply below_alloc|apply pw_below_drewN|apply below_drew1|refine below_set ?_ GE187.out)|exact HB.out)⟩
    ·rw [if_neg c89] at H
     exact absurd H (by simp)
   ·rw [if_neg c88] at H
    exact absurd H (by simp)
 ·rw [if_neg c3] at H
  exact absurd H (by simp)

end Go.Proofs.Ytjckjcekapkkjaa.P
