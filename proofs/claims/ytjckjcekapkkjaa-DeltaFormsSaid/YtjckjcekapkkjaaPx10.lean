-- WRITTEN BY myprint.py (wip/tools) for this seat
import Derived.Test.YtjckjcekapkkjaaPx0
import Derived.Test.YtjckjcekapkkjaaPx1
import Derived.Test.YtjckjcekapkkjaaPx2
import Derived.Test.YtjckjcekapkkjaaPx5
import Derived.Test.YtjckjcekapkkjaaPx7
import Derived.Test.YtjckjcekapkkjaaPx8
import Derived.Test.YtjckjcekapkkjaaPx9
import Derived.Test.YtjckjcekapkkjaaHCost
import Derived.Test.YtjckjcekapkkjaaHKnown
import Derived.Test.YtjckjcekapkkjaaHSame
namespace Go.Proofs.Ytjckjcekapkkjaa.P
open Go.RowKit Go.Proofs.YtjckjcekapkkjaaW.PrintWords Go.Proofs.YtjckjcekapkkjaaW.PrintLast Go.Proofs.YtjckjcekapkkjaaW.PrintMore
attribute [local go_sem] max2_int min2_int max_two min_two max_three min_three max_four min_four   -- for this text's walks alone
set_option linter.unusedVariables false
set_option linter.unusedSimpArgs false

/-! ### law26_DeltaForms: function 12 -/
mutual
def law26_DeltaForms.j0:Nat → Int → List Int → Int → List Int → Bool → List Int → Int → Option (Bool)
 | 0,_,_,_,_,_,_,_=>none
 | k + 1,x0,x1,x8,x12,x66,x291000,x291001=>if x66 = true then (some false) else (if ([]:List Int).length + x12.length < 140737488355328 then ((some (([]:List Int) ++ x12:List Int)).bind fun y307=>((make_Tape_Next.f x291000 x291001 3).bind fun bt310=>(if y307.length < 140737488355328 then ((some (([x1,x12,(y307 ++ [(bt310.1) % 256])]:List (List Int)):List (List Int))).bind fun y315=>(if (x12.length:Int) > 0 then ((some (([]:List Int) ++ x12:List Int)).bind fun y318=>((make_Tape_Next.f x291000 bt310.2 (x12.length:Int)).bind fun bt321=>(if 0 ≤ bt321.1 then (if bt321.1 < (y318.length:Int) then ((make_Tape_Next.f x291000 bt321.2 8).bind fun bt324=>(if 0 ≤ bt324.1 then ((make_Tape_Next.f x291000 bt324.2 (x12.length:Int)).bind fun bt327=>(if 0 ≤ bt327.1 then (if bt327.1 ≤ (x12.length:Int) then ((some (x12.take (bt327.1:Int).toNat:List Int)).bind fun y329=>(if ([]:List Int).length + y329.length < 140737488355328 then ((some (([(y318.set (bt321.1:Int).toNat (Go.bits .xor .u8 (rd y318 bt321.1) (shl .u8 1 bt324.1))),(([]:List Int) ++ y329)]:List (List Int)):List (List Int))).bind fun y337=>(if y315.length + y337.length < 5864062014805 then (law26_DeltaForms.j1 k x0 x8 (y315 ++ y337)) else (none))) else (none))) else (none)) else (none))) else (none))) else (none)) else (none)))) else (law26_DeltaForms.j1 k x0 x8 y315))) else (none)))) else (none))
def law26_DeltaForms.j1:Nat → Int → Int → List (List Int) → Option (Bool)
 | 0,_,_,_=>none
 | k + 1,x0,x8,x14=>law26_DeltaForms.l0 k x0 x8 x14 0
def law26_DeltaForms.l0:Nat → Int → Int → List (List Int) → Int → Option (Bool)
 | 0,_,_,_,_=>none
 | k + 1,x0,x8,x14,x16=>if x16 < (x14.length:Int) then (if x16 = 0 then (law26_DeltaForms.j3 k x0 x8 x14 x16 x0) else (law26_DeltaForms.j3 k x0 x8 x14 x16 x8)) else (some true)
def law26_DeltaForms.j3:Nat → Int → Int → List (List Int) → Int → Int → Option (Bool)
 | 0,_,_,_,_,_=>none
 | k + 1,x0,x8,x14,x16,x17=>if 0 ≤ x16 then (if x16 < (x14.length:Int) then ((delta_Decode.f k x17 (rd_L2 x14 x16)).bind fun bt344=>((ref26_Decode.f k x17 (rd_L2 x14 x16)).bind fun bt349=>(if bt344.2 = bt349.2 then ((ref26_Same.f bt344.1 bt349.1).bind fun t353=>(if t353 = true then (law26_DeltaForms.l0 k x0 x8 x14 (wrap64 (x16 + 1))) else (some false))) else (some false)))) else (none)) else (none)
end
def law26_DeltaForms.f (k:Nat) (a0:Int) (l1:List Int) (l2:List Int):Option (Bool):=(make_Tape_Next.f l2 0 20).bind fun bt291=>((law26_faulty.f k l2 bt291.2 bt291.1).bind fun bt293=>((delta_Encode.f k bt291.1 bt293.1).bind fun bt297=>((ref26_Encode.f k bt291.1 bt293.1).bind fun bt301=>((law26_known.f).bind fun t305=>(if t305 = true then (if bt297.2 = bt301.2 then (if (strOfNums bt297.1).toList = (strOfNums bt301.1).toList then (if bt301.2 = 0 then ((delta_Cost.f bt293.1).bind fun t306=>(law26_DeltaForms.j0 k a0 l1 bt291.1 bt301.1 (t306 != (bt301.1.length:Int)) l2 bt293.2)) else (law26_DeltaForms.j0 k a0 l1 bt291.1 bt301.1 false l2 bt293.2)) else (law26_DeltaForms.j0 k a0 l1 bt291.1 bt301.1 true l2 bt293.2)) else (law26_DeltaForms.j0 k a0 l1 bt291.1 bt301.1 true l2 bt293.2)) else (law26_DeltaForms.j0 k a0 l1 bt291.1 bt301.1 true l2 bt293.2))))))
def law26_DeltaForms.T11:Bool × List (List Nat × List Nat):=(true,[([],[]),([],[]),([],[]),([2],[2]),([1,3],[1,3]),([0,4],[0,4]),([5],[5]),([],[]),([7,4],[7]),([8],[8]),([6,9],[6,9]),([0,4,0,1,2,3,4,5,6,7,8,9,10],[0,4]),([11,10,8,0,1,2,3,4,5,6,7,8,9,10],[10,11])])
def law26_DeltaForms.B11:List Nat:=[0,0,0,4,14,31,63,0,158,414,1023,2047,4095]
theorem law26_DeltaForms.tab11:rtab .any (opsOf Try.f12 11) = law26_DeltaForms.T11:=by kernel_rfl
theorem law26_DeltaForms.bits11:waitsOk law26_DeltaForms.T11.2 law26_DeltaForms.B11 = true:=by kernel_rfl
set_option maxHeartbeats 8000000 in
set_option maxRecDepth 100000 in
theorem law26_DeltaForms.calls (k:Nat) (a0:Int) (P1_:Nat → Prop) (A1:Option Addr) (c1:Nat) (l1:List Int) (A2:Option Addr) (c2:Nat) (l2:List Int) (r:Bool) (w:World) (hs1:Kd.V (Kd.int .u8) 5 w w.heap.size (fun k_=>P1_ k_) (.slice A1 l1.length c1) l1) (hr2:Kd.C (Kd.int .i64) w A2 l2.length l2) (hc2:l2.length ≤ c2) (h:law26_DeltaForms.f k a0 l1 l2 = some r) :
  Calls Try.prog 12 #[.int .i64 a0,.slice A1 l1.length c1,.slice A2 l2.length c2] w fun e w'=>e = .returned (.bool r) ∧ Below w.heap.size w w':=by
 have hu25:=Try.underlying25
 have HO1:=Aside0.mk (show Kd.V (Kd.int .u8) 5 w w.heap.size (fun k_=>(P1_ k_ ∨ w.heap.size ≤ k_)) (.slice A1 l1.length c1) l1 from Kd.V_mono hs1 (fun k_ hk=>.inl hk))
 have HR2:=Aside0.mk hr2
 have HC2:=Aside0.mk hc2
 clear hr2 hc2
 have HB:=Aside0.mk (Below.refl w.heap.size w)
 have H:((make_Tape_Next.f l2 0 20).bind fun bt291=>((law26_faulty.f k l2 bt291.2 bt291.1).bind fun bt293=>((delta_Encode.f k bt291.1 bt293.1).bind fun bt297=>((ref26_Encode.f k bt291.1 bt293.1).bind fun bt301=>((law26_known.f).bind fun t305=>(if t305 = true then (if bt297.2 = bt301.2 then (if (strOfNums bt297.1).toList = (strOfNums bt301.1).toList then (if bt301.2 = 0 then ((delta_Cost.f bt293.1).bind fun t306=>(law26_DeltaForms.j0 k a0 l1 bt291.1 bt301.1 (t306 != (bt301.1.length:Int)) l2 bt293.2)) else (law26_DeltaForms.j0 k a0 l1 bt291.1 bt301.1 false l2 bt293.2)) else (law26_DeltaForms.j0 k a0 l1 bt291.1 bt301.1 true l2 bt293.2)) else (law26_DeltaForms.j0 k a0 l1 bt291.1 bt301.1 true l2 bt293.2)) else (law26_DeltaForms.j0 k a0 l1 bt291.1 bt301.1 true l2 bt293.2))))))) = some r:=h
 clear h
 replace H:=Option.bind_eq_some_iff.mp H
 obtain ⟨⟨t291,t292⟩,A40,H⟩:=H
 replace H:((law26_faulty.f k l2 t292 t291).bind fun bt293=>((delta_Encode.f k t291 bt293.1).bind fun bt297=>((ref26_Encode.f k t291 bt293.1).bind fun bt301=>((law26_known.f).bind fun t305=>(if t305 = true then (if bt297.2 = bt301.2 then (if (strOfNums bt297.1).toList = (strOfNums bt301.1).toList then (if bt301.2 = 0 then ((delta_Cost.f bt293.1).bind fun t306=>(law26_DeltaForms.j0 k a0 l1 t291 bt301.1 (t306 != (bt301.1.length:Int)) l2 bt293.2)) else (law26_DeltaForms.j0 k a0 l1 t291 bt301.1 false l2 bt293.2)) else (law26_DeltaForms.j0 k a0 l1 t291 bt301.1 true l2 bt293.2)) else (law26_DeltaForms.j0 k a0 l1 t291 bt301.1 true l2 bt293.2)) else (law26_DeltaForms.j0 k a0 l1 t291 bt301.1 true l2 bt293.2)))))) = some r:=H
 have A4:=Aside0.mk A40
 clear A40
 replace H:=Option.bind_eq_some_iff.mp H
 obtain ⟨⟨t293,t296⟩,A50,H⟩:=H
 replace H:((delta_Encode.f k t291 t293).bind fun bt297=>((ref26_Encode.f k t291 t293).bind fun bt301=>((law26_known.f).bind fun t305=>(if t305 = true then (if bt297.2 = bt301.2 then (if (strOfNums bt297.1).toList = (strOfNums bt301.1).toList then (if bt301.2 = 0 then ((delta_Cost.f t293).bind fun t306=>(law26_DeltaForms.j0 k a0 l1 t291 bt301.1 (t306 != (bt301.1.length:Int)) l2 t296)) else (law26_DeltaForms.j0 k a0 l1 t291 bt301.1 false l2 t296)) else (law26_DeltaForms.j0 k a0 l1 t291 bt301.1 true l2 t296)) else (law26_DeltaForms.j0 k a0 l1 t291 bt301.1 true l2 t296)) else (law26_DeltaForms.j0 k a0 l1 t291 bt301.1 true l2 t296))))) = some r:=H
 have A5:=Aside0.mk A50
 clear A50
 replace H:=Option.bind_eq_some_iff.mp H
 obtain ⟨⟨t297,t298⟩,A60,H⟩:=H
 replace H:((ref26_Encode.f k t291 t293).bind fun bt301=>((law26_known.f).bind fun t305=>(if t305 = true then (if t298 = bt301.2 then (if (strOfNums t297).toList = (strOfNums bt301.1).toList then (if bt301.2 = 0 then ((delta_Cost.f t293).bind fun t306=>(law26_DeltaForms.j0 k a0 l1 t291 bt301.1 (t306 != (bt301.1.length:Int)) l2 t296)) else (law26_DeltaForms.j0 k a0 l1 t291 bt301.1 false l2 t296)) else (law26_DeltaForms.j0 k a0 l1 t291 bt301.1 true l2 t296)) else (law26_DeltaForms.j0 k a0 l1 t291 bt301.1 true l2 t296)) else (law26_DeltaForms.j0 k a0 l1 t291 bt301.1 true l2 t296)))) = some r:=H
 have A6:=Aside0.mk A60
 clear A60
 replace H:=Option.bind_eq_some_iff.mp H
 obtain ⟨⟨t301,t302⟩,A70,H⟩:=H
 replace H:((law26_known.f).bind fun t305=>(if t305 = true then (if t298 = t302 then (if (strOfNums t297).toList = (strOfNums t301).toList then (if t302 = 0 then ((delta_Cost.f t293).bind fun t306=>(law26_DeltaForms.j0 k a0 l1 t291 t301 (t306 != (t301.length:Int)) l2 t296)) else (law26_DeltaForms.j0 k a0 l1 t291 t301 false l2 t296)) else (law26_DeltaForms.j0 k a0 l1 t291 t301 true l2 t296)) else (law26_DeltaForms.j0 k a0 l1 t291 t301 true l2 t296)) else (law26_DeltaForms.j0 k a0 l1 t291 t301 true l2 t296))) = some r:=H
 have A7:=Aside0.mk A70
 clear A70
 have HC8:=Aside0.mk H
 clear H
 go_enter Try.func12,Try.ntmps12
 go_upto_region 6 with (first|((with_reducible refine gate_dst (N:=24) rfl ?_);(try (refine gate_guard (by rfl) ?_;dsimp only));refine box_event ?hg (N:=24) ?hd (cs:=#[.slice A2 l2.length c2,.int .i64 0]) (t:=25) ?hr ?_;(case hd=>rfl);(case hg=>rfl);(case hr=>first|(go_simp;done)|(go_simp;rfl));intro gb290 hg w9 hbox hb;have n0_:=Aside0.mk (Kd.V_below (Kd.V_elderB (by (with_reducible repeat (first|apply Kd.V_alloc|apply Kd.V_drewN|apply Kd.V_drew));exact HO1.out) gb290 (Nat.le_of_eq hg.symm)) hb);have n1_:=Aside0.mk (below_step (by repeat (first|(with_reducible first|exact HB.out|apply below_alloc|apply pw_below_drewN|apply below_drew1)|exact HB.out)) hb);have n2_:=Aside0.mk ((by rw [hg];exact (below_size (by repeat (first|(with_reducible first|exact HB.out|apply below_alloc|apply pw_below_drewN|apply below_drew1)|exact HB.out))):w.heap.size ≤ gb290));have n3_:=Aside0.mk ((by rw [hg];exact (below_size (by repeat (first|(with_reducible first|exact HB.out|apply below_alloc|apply pw_below_drewN|apply below_drew1)|exact HB.out))):w.heap.size ≤ gb290));have n4_:=Aside0.mk ((show IsS25 w w9 gb290 l2 0 from ⟨_,_,hbox,(by rw [hg];exact (below_size (by repeat (first|(with_reducible first|exact HB.out|apply below_alloc|apply pw_below_drewN|apply below_drew1)|exact HB.out))):w.heap.size ≤ gb290),HR2.out⟩));clear HO1;clear HB;have HO1:=n0_;have HB:=n1_;have GW290:=n2_;have GE290:=n3_;have HI290:=n4_;clear n0_ n1_ n2_ n3_ n4_;clear hb hbox hg)|((with_reducible refine gate_callee (f:=16) rfl ?_);refine goesL_ (some 26) rfl rfl Try.func16 (by kernel_rfl) rfl #[.pointer (some ⟨gb290,0,none⟩),.int .i64 20] rfl (by (try simp only [List.map_toArray,List.map_cons,List.map_nil]);first|done|rfl|(simp only [List.length_drop,List.length_take];rfl)) ?_;(with_reducible refine (make_Tape_Next.calls gb290 l2 0 20 t291 t292 w _ ?side1 ?side2 A4.out).mono ?_);(case side1=>repeat (first|(with_reducible first|exact HI290.out|apply IsS25.alloc|apply IsS25.drewN|apply IsS25.drew|apply IsS25.set_1)|exact HI290.out));(case side2=>repeat (first|(with_reducible first|exact HB.out|apply below_alloc|apply pw_below_drewN|apply below_drew1|refine below_set ?_ (IsS25.ge HI290.out))|exact HB.out));rintro e w10 ⟨rfl,hi,hb,hk⟩;refine ⟨_,rfl,?_⟩;have n0_:=Aside0.mk (Kd.V_mono (Kd.V_keep (Kd.V_mono (ok:=fun k_=>(((P1_ k_ ∨ w.heap.size ≤ k_)) ∧ k_ ≠ gb290)) (by (with_reducible repeat (first|apply Kd.V_alloc|apply Kd.V_drewN|apply Kd.V_drew));exact HO1.out) (fun k_ hk_=>(⟨hk_,hk_.2⟩:_ ∧ k_ ≠ gb290))) hk (fun _ h=>h.2)) (fun _ h=>h.1));have n1_:=Aside0.mk (hb);have n2_:=Aside0.mk (hi);clear HO1;clear HB;clear HI290;have HO1:=n0_;have HB:=n1_;have HI290:=n2_;clear n0_ n1_ n2_;(try clear hb);(try clear hb2);(try clear hk);(try clear hi))|((with_reducible refine gate_callee (f:=22) rfl ?_);refine goesL_ (some 29) rfl rfl Try.func22 (by kernel_rfl) rfl #[.pointer (some ⟨gb290,0,none⟩),.int .i64 t291] rfl (by (try simp only [List.map_toArray,List.map_cons,List.map_nil]);first|done|rfl|(simp only [List.length_drop,List.length_take];rfl)) ?_;(with_reducible refine (law26_faulty.calls k gb290 l2 t292 t291 t293 t296 w _ ?side1 ?side2 A5.out).mono ?_);(case side1=>repeat (first|(with_reducible first|exact HI290.out|apply IsS25.alloc|apply IsS25.drewN|apply IsS25.drew|apply IsS25.set_1)|exact HI290.out));(case side2=>repeat (first|(with_reducible first|exact HB.out|apply below_alloc|apply pw_below_drewN|apply below_drew1|refine below_set ?_ (IsS25.ge HI290.out))|exact HB.out));rintro e w11 ⟨v294,rfl,ho0,hi,hb,hk⟩;refine ⟨_,rfl,?_⟩;have n0_:=Aside0.mk (Kd.V_mono (Kd.V_told (Kd.V_oldK (Kd.V_mono (ok:=fun k_=>(((P1_ k_ ∨ w.heap.size ≤ k_)) ∧ k_ ≠ gb290)) (by (with_reducible repeat (first|apply Kd.V_alloc|apply Kd.V_drewN|apply Kd.V_drew));exact HO1.out) (fun k_ hk_=>(⟨hk_,hk_.2⟩:_ ∧ k_ ≠ gb290))) hk) (by first|exact Kd.N_base ho0|exact Kd.S_base ho0)) (fun _ h_=>h_.1));have n1_:=Aside0.mk (Kd.N_lower (Kd.N_mono (ok':=fun k_=>(P1_ k_ ∨ w.heap.size ≤ k_) ∧ k_ ≠ gb290) (Kd.S_N (Kd.S_bound ho0)) (fun k_ hk_=>⟨(.inr (Nat.le_trans (below_size (by repeat (first|(with_reducible first|exact HB.out|apply below_alloc|apply pw_below_drewN|apply below_drew1|refine below_set ?_ (IsS25.ge HI290.out))|exact HB.out))) hk_.2.1)),(IsS25.fresh (by repeat (first|(with_reducible first|exact HI290.out|apply IsS25.alloc|apply IsS25.drewN|apply IsS25.drew|apply IsS25.set_1)|exact HI290.out)) k_ hk_.2.1)⟩)) (below_size (by repeat (first|(with_reducible first|exact HB.out|apply below_alloc|apply pw_below_drewN|apply below_drew1|refine below_set ?_ (IsS25.ge HI290.out))|exact HB.out))));have n2_:=Aside0.mk (hb);have n3_:=Aside0.mk (hi);clear HO1;clear HB;clear HI290;have HO1:=n0_;have HO295:=n1_;have HB:=n2_;have HI290:=n3_;clear n0_ n1_ n2_ n3_;(try clear hb);(try clear hb2);(try clear hk);(try clear hi);(try clear ho0);obtain ⟨Ao12,co12,eo12⟩:=Kd.N_slice HO295.out;subst eo12)|((with_reducible refine gate_callee (f:=36) rfl ?_);refine goesL_ (some 33) rfl rfl Try.func36 (by kernel_rfl) rfl #[.int .i64 t291,.slice Ao12 t293.length co12] rfl (by (try simp only [List.map_toArray,List.map_cons,List.map_nil]);first|done|rfl|(simp only [List.length_drop,List.length_take];rfl)) ?_;(with_reducible refine (delta_Encode.calls k t291 _ _ t293 t297 t298 _ ?side1 ?side2 A6.out).mono ?_);(case side1=>repeat (first|exact (Kd.N_reads' HO295.out).2.2|(with_reducible refine Kd.C_alloc ?_ _)|(with_reducible refine Kd.C_drewN ?_ _)|(with_reducible refine Kd.C_drew ?_)));(case side2=>exact (Kd.N_reads' HO295.out).2.1);rintro e w13 ⟨v299,rfl,ho0,hb⟩;refine ⟨_,rfl,?_⟩;have n0_:=Aside0.mk (Kd.V_elder' (by (with_reducible repeat (first|apply Kd.V_alloc|apply Kd.V_drewN|apply Kd.V_drew));exact HO1.out) (Kd.R_base ho0) hb);have n1_:=Aside0.mk (Kd.N_elder' (by (with_reducible repeat (first|apply Kd.N_alloc|apply Kd.N_drewN|apply Kd.N_drew));exact HO295.out) (Kd.R_base ho0) hb);have n2_:=Aside0.mk (Kd.R_lower (Kd.R_newM (M:=fun k_=>(w.heap.size ≤ k_)) ho0 (below_size (by repeat (first|(with_reducible first|exact HB.out|apply below_alloc|apply pw_below_drewN|apply below_drew1|refine below_set ?_ (IsS25.ge HI290.out))|exact HB.out))) (fun k_ h_=>h_)) (below_size (by repeat (first|(with_reducible first|exact HB.out|apply below_alloc|apply pw_below_drewN|apply below_drew1|refine below_set ?_ (IsS25.ge HI290.out))|exact HB.out))));have n3_:=Aside0.mk (IsS25.below (by repeat (first|(with_reducible first|exact HI290.out|apply IsS25.alloc|apply IsS25.drewN|apply IsS25.drew|apply IsS25.set_1)|exact HI290.out)) hb);have n4_:=Aside0.mk (below_step (by repeat (first|(with_reducible first|exact HB.out|apply below_alloc|apply pw_below_drewN|apply below_drew1|refine below_set ?_ (IsS25.ge HI290.out))|exact HB.out)) hb);clear HO1;clear HO295;clear HI290;clear HB;have HO1:=n0_;have HO295:=n1_;have HO300:=n2_;have HI290:=n3_;have HB:=n4_;clear n0_ n1_ n2_ n3_ n4_;(try clear hb);(try clear hb2);(try clear hk);(try clear hi);(try clear ho0))|((with_reducible refine gate_callee (f:=37) rfl ?_);refine goesL_ (some 39) rfl rfl Try.func37 (by kernel_rfl) rfl #[.int .i64 t291,.slice Ao12 t293.length co12] rfl (by (try simp only [List.map_toArray,List.map_cons,List.map_nil]);first|done|rfl|(simp only [List.length_drop,List.length_take];rfl)) ?_;(with_reducible refine (ref26_Encode.calls k t291 _ _ t293 t301 t302 _ ?side1 ?side2 A7.out).mono ?_);(case side1=>repeat (first|exact (Kd.N_reads' HO295.out).2.2|(with_reducible refine Kd.C_alloc ?_ _)|(with_reducible refine Kd.C_drewN ?_ _)|(with_reducible refine Kd.C_drew ?_)));(case side2=>exact (Kd.N_reads' HO295.out).2.1);rintro e w14 ⟨v303,rfl,ho0,hb⟩;refine ⟨_,rfl,?_⟩;have n0_:=Aside0.mk (Kd.V_elder' (by (with_reducible repeat (first|apply Kd.V_alloc|apply Kd.V_drewN|apply Kd.V_drew));exact HO1.out) (Kd.R_base ho0) hb);have n1_:=Aside0.mk (Kd.N_elder' (by (with_reducible repeat (first|apply Kd.N_alloc|apply Kd.N_drewN|apply Kd.N_drew));exact HO295.out) (Kd.R_base ho0) hb);have n2_:=Aside0.mk (Kd.R_elder' (by (with_reducible repeat (first|apply Kd.R_alloc|apply Kd.R_drewN|apply Kd.R_drew));exact HO300.out) (Kd.R_base ho0) hb);have n3_:=Aside0.mk (Kd.R_lower (Kd.R_new' (Kd.R_newM (M:=fun k_=>(w.heap.size ≤ k_)) ho0 (below_size (by repeat (first|(with_reducible first|exact HB.out|apply below_alloc|apply pw_below_drewN|apply below_drew1|refine below_set ?_ (IsS25.ge HI290.out))|exact HB.out))) (fun k_ h_=>h_)) (Kd.R_lt (by (with_reducible repeat (first|apply Kd.R_alloc|apply Kd.R_drewN|apply Kd.R_drew));exact HO300.out))) (below_size (by repeat (first|(with_reducible first|exact HB.out|apply below_alloc|apply pw_below_drewN|apply below_drew1|refine below_set ?_ (IsS25.ge HI290.out))|exact HB.out))));have n4_:=Aside0.mk (IsS25.below (by repeat (first|(with_reducible first|exact HI290.out|apply IsS25.alloc|apply IsS25.drewN|apply IsS25.drew|apply IsS25.set_1)|exact HI290.out)) hb);have n5_:=Aside0.mk (below_step (by repeat (first|(with_reducible first|exact HB.out|apply below_alloc|apply pw_below_drewN|apply below_drew1|refine below_set ?_ (IsS25.ge HI290.out))|exact HB.out)) hb);clear HO1;clear HO295;clear HO300;clear HI290;clear HB;have HO1:=n0_;have HO295:=n1_;have HO300:=n2_;have HO304:=n3_;have HI290:=n4_;have HB:=n5_;clear n0_ n1_ n2_ n3_ n4_ n5_;(try clear hb);(try clear hb2);(try clear hk);(try clear hi);(try clear ho0)))
 (try simp only [Act.put,List.setIfInBounds_toArray,List.set_cons_zero,List.set_cons_succ])
 go_cut [66] (fun v66 wc=>∃ (kq:Nat) (x66_7:Bool),v66 = .bool x66_7 ∧ Aside0 (law26_DeltaForms.j0 kq a0 l1 t291 t301 x66_7 l2 t296 = some r) ∧ Aside0 (kq ≤ k) ∧ Aside0 (Kd.V (Kd.int .u8) 5 wc w.heap.size (fun k_=>(P1_ k_ ∨ w.heap.size ≤ k_) ∧ k_ ≠ gb290) (.slice A1 l1.length c1) l1) ∧ Aside0 (Kd.V (Kd.int .u8) 5 wc w.heap.size (fun k_=>(P1_ k_ ∨ w.heap.size ≤ k_) ∧ k_ ≠ gb290) v303 t301) ∧ Aside0 (IsS25 w wc gb290 l2 t296) ∧ Aside0 (Below w.heap.size w wc))
 case first =>
  have H:=HC8.out
  clear HC8
  replace H:=Option.bind_eq_some_iff.mp H
  obtain ⟨t305,A150,H⟩:=H
  replace H:(if t305 = true then (if t298 = t302 then (if (strOfNums t297).toList = (strOfNums t301).toList then (if t302 = 0 then ((delta_Cost.f t293).bind fun t306=>(law26_DeltaForms.j0 k a0 l1 t291 t301 (t306 != (t301.length:Int)) l2 t296)) else (law26_DeltaForms.j0 k a0 l1 t291 t301 false l2 t296)) else (law26_DeltaForms.j0 k a0 l1 t291 t301 true l2 t296)) else (law26_DeltaForms.j0 k a0 l1 t291 t301 true l2 t296)) else (law26_DeltaForms.j0 k a0 l1 t291 t301 true l2 t296)) = some r:=H
  have A15:=Aside0.mk A150
  clear A150
  by_cases c16:t305 = true
  ·subst c16
   have H1:(if t298 = t302 then (if (strOfNums t297).toList = (strOfNums t301).toList then (if t302 = 0 then ((delta_Cost.f t293).bind fun t306=>(law26_DeltaForms.j0 k a0 l1 t291 t301 (t306 != (t301.length:Int)) l2 t296)) else (law26_DeltaForms.j0 k a0 l1 t291 t301 false l2 t296)) else (law26_DeltaForms.j0 k a0 l1 t291 t301 true l2 t296)) else (law26_DeltaForms.j0 k a0 l1 t291 t301 true l2 t296)) = some r:=by rw [if_pos rfl] at H;exact H
   clear H
   have H:=H1
   clear H1
   by_cases c17:t298 = t302
   ·rw [if_pos c17] at H
    have c17b0:(t298 == t302) = true:=beq_iff_eq.mpr c17
    have c17b1:(t298 != t302) = false:=bne_eq_false_iff_eq.mpr c17
    clear c17
    (first|rw [c17b0]|(simp only [i64_w,i32_w];rw [c17b0])|skip)
    by_cases c18:(strOfNums t297).toList = (strOfNums t301).toList
    ·rw [if_pos c18] at H
     have c18b0:((strOfNums t297).toList == (strOfNums t301).toList) = true:=beq_iff_eq.mpr c18
     have c18b1:((strOfNums t297).toList != (strOfNums t301).toList) = false:=bne_eq_false_iff_eq.mpr c18
     clear c18
     by_cases c19:t302 = 0
     ·rw [if_pos c19] at H
      have c19b0:(t302 == 0) = true:=beq_iff_eq.mpr c19
      have c19b1:(t302 != 0) = false:=bne_eq_false_iff_eq.mpr c19
      clear c19
      replace H:=Option.bind_eq_some_iff.mp H
      obtain ⟨t306,A200,H⟩:=H
      replace H:(law26_DeltaForms.j0 k a0 l1 t291 t301 (t306 != (t301.length:Int)) l2 t296) = some r:=H
      have A20:=Aside0.mk A200
      clear A200
      have H':=Aside0.mk H
      clear H
      go_wp2_with (first|((with_reducible refine gate_callee (f:=19) rfl ?_);refine goesL_ (some 42) rfl rfl Try.func19 (by kernel_rfl) rfl #[] rfl (by (try simp only [List.map_toArray,List.map_cons,List.map_nil]);first|done|rfl|(simp only [List.length_drop,List.length_take];rfl)) ?_;(with_reducible refine (law26_known.calls  true _ A15.out).mono ?_);rintro e w21 ⟨rfl,hb⟩;refine ⟨_,rfl,?_⟩;have n0_:=Aside0.mk (Kd.V_below (by (with_reducible repeat (first|apply Kd.V_alloc|apply Kd.V_drewN|apply Kd.V_drew));exact HO1.out) hb);have n1_:=Aside0.mk (Kd.N_below (by (with_reducible repeat (first|apply Kd.N_alloc|apply Kd.N_drewN|apply Kd.N_drew));exact HO295.out) hb);have n2_:=Aside0.mk (Kd.R_below (by (with_reducible repeat (first|apply Kd.R_alloc|apply Kd.R_drewN|apply Kd.R_drew));exact HO300.out) hb);have n3_:=Aside0.mk (Kd.R_below (by (with_reducible repeat (first|apply Kd.R_alloc|apply Kd.R_drewN|apply Kd.R_drew));exact HO304.out) hb);have n4_:=Aside0.mk (IsS25.below (by repeat (first|(with_reducible first|exact HI290.out|apply IsS25.alloc|apply IsS25.drewN|apply IsS25.drew|apply IsS25.set_1)|exact HI290.out)) hb);have n5_:=Aside0.mk (below_step (by repeat (first|(with_reducible first|exact HB.out|apply below_alloc|apply pw_below_drewN|apply below_drew1|refine below_set ?_ (IsS25.ge HI290.out))|exact HB.out)) hb);clear HO1;clear HO295;clear HO300;clear HO304;clear HI290;clear HB;have HO1:=n0_;have HO295:=n1_;have HO300:=n2_;have HO304:=n3_;have HI290:=n4_;have HB:=n5_;clear n0_ n1_ n2_ n3_ n4_ n5_;(try clear hb);(try clear hb2);(try clear hk);(try clear hi);have hcv22:=own_string (P:=Try.prog) Try.underlying26 Try.underlying5 Try.underlying9 (Kd.own_of_R HO300.out);have hcv23:=own_string (P:=Try.prog) Try.underlying26 Try.underlying5 Try.underlying9 (Kd.own_of_R HO304.out))|(go_at_call 28;(with_reducible refine (delta_Cost.calls _ _ t293 t306 _ ?side1 ?side2 A20.out).mono ?_);(case side1=>repeat (first|exact (Kd.N_reads' HO295.out).2.2|(with_reducible refine Kd.C_alloc ?_ _)|(with_reducible refine Kd.C_drewN ?_ _)|(with_reducible refine Kd.C_drew ?_)));(case side2=>exact (Kd.N_reads' HO295.out).2.1);rintro e w24 ⟨rfl,hb⟩;have n0_:=Aside0.mk (Kd.V_below (by (with_reducible repeat (first|apply Kd.V_alloc|apply Kd.V_drewN|apply Kd.V_drew));exact HO1.out) hb);have n1_:=Aside0.mk (Kd.N_below (by (with_reducible repeat (first|apply Kd.N_alloc|apply Kd.N_drewN|apply Kd.N_drew));exact HO295.out) hb);have n2_:=Aside0.mk (Kd.R_below (by (with_reducible repeat (first|apply Kd.R_alloc|apply Kd.R_drewN|apply Kd.R_drew));exact HO300.out) hb);have n3_:=Aside0.mk (Kd.R_below (by (with_reducible repeat (first|apply Kd.R_alloc|apply Kd.R_drewN|apply Kd.R_drew));exact HO304.out) hb);have n4_:=Aside0.mk (IsS25.below (by repeat (first|(with_reducible first|exact HI290.out|apply IsS25.alloc|apply IsS25.drewN|apply IsS25.drew|apply IsS25.set_1)|exact HI290.out)) hb);have n5_:=Aside0.mk (below_step (by repeat (first|(with_reducible first|exact HB.out|apply below_alloc|apply pw_below_drewN|apply below_drew1|refine below_set ?_ (IsS25.ge HI290.out))|exact HB.out)) hb);clear HO1;clear HO295;clear HO300;clear HO304;clear HI290;clear HB;have HO1:=n0_;have HO295:=n1_;have HO300:=n2_;have HO304:=n3_;have HI290:=n4_;have HB:=n5_;clear n0_ n1_ n2_ n3_ n4_ n5_;(try clear hb);(try clear hb2);(try clear hk);(try clear hi);obtain ⟨Ao25,co25,eo25⟩:=Kd.R_slice HO304.out;subst eo25))
      go_meet
      case rel=>exact ⟨_,((t306 != (t301.length:Int))),(by first|rfl|(simp;done)|(simp [*];done)),H',⟨by first|omega|exact Nat.le_refl _⟩,⟨by (with_reducible repeat (first|apply Kd.V_alloc|apply Kd.V_drewN|apply Kd.V_drew));exact Kd.V_mono HO1.out (fun _ hk=>⟨hk.1.1.1.1,hk.1.1.1.2⟩)⟩,⟨Kd.V_mono (Kd.R_V (ok:=fun k_=>w.heap.size ≤ k_ ∧ k_ ≠ gb290) (by (with_reducible repeat (first|apply Kd.R_alloc|apply Kd.R_drewN|apply Kd.R_drew));exact Kd.R_mono (Kd.R_bound (IsS25.apart HI290.out HO304.out (by decide))) (fun _ hk=>⟨hk.2.1,hk.1.2⟩))) (fun k_ hk=>⟨.inr hk.1,hk.2⟩)⟩,⟨by repeat (first|(with_reducible first|exact HI290.out|apply IsS25.alloc|apply IsS25.drewN|apply IsS25.drew|apply IsS25.set_1)|exact HI290.out)⟩,⟨by repeat (first|(with_reducible first|exact HB.out|apply below_alloc|apply pw_below_drewN|apply below_drew1|refine below_set ?_ (IsS25.ge HI290.out))|exact HB.out)⟩⟩
     ·rw [if_neg c19] at H
      have c19b0:(t302 == 0) = false:=beq_eq_false_iff_ne.mpr c19
      have c19b1:(t302 != 0) = true:=bne_iff_ne.mpr c19
      have H':=Aside0.mk H
      clear H
      go_wp2_with (first|((with_reducible refine gate_callee (f:=19) rfl ?_);refine goesL_ (some 42) rfl rfl Try.func19 (by kernel_rfl) rfl #[] rfl (by (try simp only [List.map_toArray,List.map_cons,List.map_nil]);first|done|rfl|(simp only [List.length_drop,List.length_take];rfl)) ?_;(with_reducible refine (law26_known.calls  true _ A15.out).mono ?_);rintro e w26 ⟨rfl,hb⟩;refine ⟨_,rfl,?_⟩;have n0_:=Aside0.mk (Kd.V_below (by (with_reducible repeat (first|apply Kd.V_alloc|apply Kd.V_drewN|apply Kd.V_drew));exact HO1.out) hb);have n1_:=Aside0.mk (Kd.N_below (by (with_reducible repeat (first|apply Kd.N_alloc|apply Kd.N_drewN|apply Kd.N_drew));exact HO295.out) hb);have n2_:=Aside0.mk (Kd.R_below (by (with_reducible repeat (first|apply Kd.R_alloc|apply Kd.R_drewN|apply Kd.R_drew));exact HO300.out) hb);have n3_:=Aside0.mk (Kd.R_below (by (with_reducible repeat (first|apply Kd.R_alloc|apply Kd.R_drewN|apply Kd.R_drew));exact HO304.out) hb);have n4_:=Aside0.mk (IsS25.below (by repeat (first|(with_reducible first|exact HI290.out|apply IsS25.alloc|apply IsS25.drewN|apply IsS25.drew|apply IsS25.set_1)|exact HI290.out)) hb);have n5_:=Aside0.mk (below_step (by repeat (first|(with_reducible first|exact HB.out|apply below_alloc|apply pw_below_drewN|apply below_drew1|refine below_set ?_ (IsS25.ge HI290.out))|exact HB.out)) hb);clear HO1;clear HO295;clear HO300;clear HO304;clear HI290;clear HB;have HO1:=n0_;have HO295:=n1_;have HO300:=n2_;have HO304:=n3_;have HI290:=n4_;have HB:=n5_;clear n0_ n1_ n2_ n3_ n4_ n5_;(try clear hb);(try clear hb2);(try clear hk);(try clear hi);have hcv27:=own_string (P:=Try.prog) Try.underlying26 Try.underlying5 Try.underlying9 (Kd.own_of_R HO300.out);have hcv28:=own_string (P:=Try.prog) Try.underlying26 Try.underlying5 Try.underlying9 (Kd.own_of_R HO304.out)))
      go_meet
      case rel=>exact ⟨_,(false),(by first|rfl|(simp;done)|(simp [*];done)),H',⟨by first|omega|exact Nat.le_refl _⟩,⟨by (with_reducible repeat (first|apply Kd.V_alloc|apply Kd.V_drewN|apply Kd.V_drew));exact Kd.V_mono HO1.out (fun _ hk=>⟨hk.1.1.1.1,hk.1.1.1.2⟩)⟩,⟨Kd.V_mono (Kd.R_V (ok:=fun k_=>w.heap.size ≤ k_ ∧ k_ ≠ gb290) (by (with_reducible repeat (first|apply Kd.R_alloc|apply Kd.R_drewN|apply Kd.R_drew));exact Kd.R_mono (Kd.R_bound (IsS25.apart HI290.out HO304.out (by decide))) (fun _ hk=>⟨hk.2.1,hk.1.2⟩))) (fun k_ hk=>⟨.inr hk.1,hk.2⟩)⟩,⟨by repeat (first|(with_reducible first|exact HI290.out|apply IsS25.alloc|apply IsS25.drewN|apply IsS25.drew|apply IsS25.set_1)|exact HI290.out)⟩,⟨by repeat (first|(with_reducible first|exact HB.out|apply below_alloc|apply pw_below_drewN|apply below_drew1|refine below_set ?_ (IsS25.ge HI290.out))|exact HB.out)⟩⟩
    ·rw [if_neg c18] at H
     have c18b0:((strOfNums t297).toList == (strOfNums t301).toList) = false:=beq_eq_false_iff_ne.mpr c18
     have c18b1:((strOfNums t297).toList != (strOfNums t301).toList) = true:=bne_iff_ne.mpr c18
     have H':=Aside0.mk H
     clear H
     go_wp2_with (first|((with_reducible refine gate_callee (f:=19) rfl ?_);refine goesL_ (some 42) rfl rfl Try.func19 (by kernel_rfl) rfl #[] rfl (by (try simp only [List.map_toArray,List.map_cons,List.map_nil]);first|done|rfl|(simp only [List.length_drop,List.length_take];rfl)) ?_;(with_reducible refine (law26_known.calls  true _ A15.out).mono ?_);rintro e w29 ⟨rfl,hb⟩;refine ⟨_,rfl,?_⟩;have n0_:=Aside0.mk (Kd.V_below (by (with_reducible repeat (first|apply Kd.V_alloc|apply Kd.V_drewN|apply Kd.V_drew));exact HO1.out) hb);have n1_:=Aside0.mk (Kd.N_below (by (with_reducible repeat (first|apply Kd.N_alloc|apply Kd.N_drewN|apply Kd.N_drew));exact HO295.out) hb);have n2_:=Aside0.mk (Kd.R_below (by (with_reducible repeat (first|apply Kd.R_alloc|apply Kd.R_drewN|apply Kd.R_drew));exact HO300.out) hb);have n3_:=Aside0.mk (Kd.R_below (by (with_reducible repeat (first|apply Kd.R_alloc|apply Kd.R_drewN|apply Kd.R_drew));exact HO304.out) hb);have n4_:=Aside0.mk (IsS25.below (by repeat (first|(with_reducible first|exact HI290.out|apply IsS25.alloc|apply IsS25.drewN|apply IsS25.drew|apply IsS25.set_1)|exact HI290.out)) hb);have n5_:=Aside0.mk (below_step (by repeat (first|(with_reducible first|exact HB.out|apply below_alloc|apply pw_below_drewN|apply below_drew1|refine below_set ?_ (IsS25.ge HI290.out))|exact HB.out)) hb);clear HO1;clear HO295;clear HO300;clear HO304;clear HI290;clear HB;have HO1:=n0_;have HO295:=n1_;have HO300:=n2_;have HO304:=n3_;have HI290:=n4_;have HB:=n5_;clear n0_ n1_ n2_ n3_ n4_ n5_;(try clear hb);(try clear hb2);(try clear hk);(try clear hi);have hcv30:=own_string (P:=Try.prog) Try.underlying26 Try.underlying5 Try.underlying9 (Kd.own_of_R HO300.out);have hcv31:=own_string (P:=Try.prog) Try.underlying26 Try.underlying5 Try.underlying9 (Kd.own_of_R HO304.out)))
     go_meet
     case rel=>exact ⟨_,(true),(by first|rfl|(simp;done)|(simp [*];done)),H',⟨by first|omega|exact Nat.le_refl _⟩,⟨by (with_reducible repeat (first|apply Kd.V_alloc|apply Kd.V_drewN|apply Kd.V_drew));exact Kd.V_mono HO1.out (fun _ hk=>⟨hk.1.1.1.1,hk.1.1.1.2⟩)⟩,⟨Kd.V_mono (Kd.R_V (ok:=fun k_=>w.heap.size ≤ k_ ∧ k_ ≠ gb290) (by (with_reducible repeat (first|apply Kd.R_alloc|apply Kd.R_drewN|apply Kd.R_drew));exact Kd.R_mono (Kd.R_bound (IsS25.apart HI290.out HO304.out (by decide))) (fun _ hk=>⟨hk.2.1,hk.1.2⟩))) (fun k_ hk=>⟨.inr hk.1,hk.2⟩)⟩,⟨by repeat (first|(with_reducible first|exact HI290.out|apply IsS25.alloc|apply IsS25.drewN|apply IsS25.drew|apply IsS25.set_1)|exact HI290.out)⟩,⟨by repeat (first|(with_reducible first|exact HB.out|apply below_alloc|apply pw_below_drewN|apply below_drew1|refine below_set ?_ (IsS25.ge HI290.out))|exact HB.out)⟩⟩
   ·rw [if_neg c17] at H
    have c17b0:(t298 == t302) = false:=beq_eq_false_iff_ne.mpr c17
    have c17b1:(t298 != t302) = true:=bne_iff_ne.mpr c17
    (first|rw [c17b0]|(simp only [i64_w,i32_w];rw [c17b0])|skip)
    have H':=Aside0.mk H
    clear H
    go_wp2_with (first|((with_reducible refine gate_callee (f:=19) rfl ?_);refine goesL_ (some 42) rfl rfl Try.func19 (by kernel_rfl) rfl #[] rfl (by (try simp only [List.map_toArray,List.map_cons,List.map_nil]);first|done|rfl|(simp only [List.length_drop,List.length_take];rfl)) ?_;(with_reducible refine (law26_known.calls  true _ A15.out).mono ?_);rintro e w32 ⟨rfl,hb⟩;refine ⟨_,rfl,?_⟩;have n0_:=Aside0.mk (Kd.V_below (by (with_reducible repeat (first|apply Kd.V_alloc|apply Kd.V_drewN|apply Kd.V_drew));exact HO1.out) hb);have n1_:=Aside0.mk (Kd.N_below (by (with_reducible repeat (first|apply Kd.N_alloc|apply Kd.N_drewN|apply Kd.N_drew));exact HO295.out) hb);have n2_:=Aside0.mk (Kd.R_below (by (with_reducible repeat (first|apply Kd.R_alloc|apply Kd.R_drewN|apply Kd.R_drew));exact HO300.out) hb);have n3_:=Aside0.mk (Kd.R_below (by (with_reducible repeat (first|apply Kd.R_alloc|apply Kd.R_drewN|apply Kd.R_drew));exact HO304.out) hb);have n4_:=Aside0.mk (IsS25.below (by repeat (first|(with_reducible first|exact HI290.out|apply IsS25.alloc|apply IsS25.drewN|apply IsS25.drew|apply IsS25.set_1)|exact HI290.out)) hb);have n5_:=Aside0.mk (below_step (by repeat (first|(with_reducible first|exact HB.out|apply below_alloc|apply pw_below_drewN|apply below_drew1|refine below_set ?_ (IsS25.ge HI290.out))|exact HB.out)) hb);clear HO1;clear HO295;clear HO300;clear HO304;clear HI290;clear HB;have HO1:=n0_;have HO295:=n1_;have HO300:=n2_;have HO304:=n3_;have HI290:=n4_;have HB:=n5_;clear n0_ n1_ n2_ n3_ n4_ n5_;(try clear hb);(try clear hb2);(try clear hk);(try clear hi)))
    go_meet
    case rel=>exact ⟨_,(true),(by first|rfl|(simp;done)|(simp [*];done)),H',⟨by first|omega|exact Nat.le_refl _⟩,⟨by (with_reducible repeat (first|apply Kd.V_alloc|apply Kd.V_drewN|apply Kd.V_drew));exact Kd.V_mono HO1.out (fun _ hk=>⟨hk.1.1.1.1,hk.1.1.1.2⟩)⟩,⟨Kd.V_mono (Kd.R_V (ok:=fun k_=>w.heap.size ≤ k_ ∧ k_ ≠ gb290) (by (with_reducible repeat (first|apply Kd.R_alloc|apply Kd.R_drewN|apply Kd.R_drew));exact Kd.R_mono (Kd.R_bound (IsS25.apart HI290.out HO304.out (by decide))) (fun _ hk=>⟨hk.2.1,hk.1.2⟩))) (fun k_ hk=>⟨.inr hk.1,hk.2⟩)⟩,⟨by repeat (first|(with_reducible first|exact HI290.out|apply IsS25.alloc|apply IsS25.drewN|apply IsS25.drew|apply IsS25.set_1)|exact HI290.out)⟩,⟨by repeat (first|(with_reducible first|exact HB.out|apply below_alloc|apply pw_below_drewN|apply below_drew1|refine below_set ?_ (IsS25.ge HI290.out))|exact HB.out)⟩⟩
  ·replace c16:=Bool.eq_false_iff.mpr c16
   subst c16
   have H1:(law26_DeltaForms.j0 k a0 l1 t291 t301 true l2 t296) = some r:=by rw [if_neg (show ¬ (false = true) by decide)] at H;exact H
   clear H
   have H:=H1
   clear H1
   have H':=Aside0.mk H
   clear H
   go_wp2_with (first|((with_reducible refine gate_callee (f:=19) rfl ?_);refine goesL_ (some 42) rfl rfl Try.func19 (by kernel_rfl) rfl #[] rfl (by (try simp only [List.map_toArray,List.map_cons,List.map_nil]);first|done|rfl|(simp only [List.length_drop,List.length_take];rfl)) ?_;(with_reducible refine (law26_known.calls  false _ A15.out).mono ?_);rintro e w33 ⟨rfl,hb⟩;refine ⟨_,rfl,?_⟩;have n0_:=Aside0.mk (Kd.V_below (by (with_reducible repeat (first|apply Kd.V_alloc|apply Kd.V_drewN|apply Kd.V_drew));exact HO1.out) hb);have n1_:=Aside0.mk (Kd.N_below (by (with_reducible repeat (first|apply Kd.N_alloc|apply Kd.N_drewN|apply Kd.N_drew));exact HO295.out) hb);have n2_:=Aside0.mk (Kd.R_below (by (with_reducible repeat (first|apply Kd.R_alloc|apply Kd.R_drewN|apply Kd.R_drew));exact HO300.out) hb);have n3_:=Aside0.mk (Kd.R_below (by (with_reducible repeat (first|apply Kd.R_alloc|apply Kd.R_drewN|apply Kd.R_drew));exact HO304.out) hb);have n4_:=Aside0.mk (IsS25.below (by repeat (first|(with_reducible first|exact HI290.out|apply IsS25.alloc|apply IsS25.drewN|apply IsS25.drew|apply IsS25.set_1)|exact HI290.out)) hb);have n5_:=Aside0.mk (below_step (by repeat (first|(with_reducible first|exact HB.out|apply below_alloc|apply pw_below_drewN|apply below_drew1|refine below_set ?_ (IsS25.ge HI290.out))|exact HB.out)) hb);clear HO1;clear HO295;clear HO300;clear HO304;clear HI290;clear HB;have HO1:=n0_;have HO295:=n1_;have HO300:=n2_;have HO304:=n3_;have HI290:=n4_;have HB:=n5_;clear n0_ n1_ n2_ n3_ n4_ n5_;(try clear hb);(try clear hb2);(try clear hk);(try clear hi)))
   go_meet
   case rel=>exact ⟨_,(true),(by first|rfl|(simp;done)|(simp [*];done)),H',⟨by first|omega|exact Nat.le_refl _⟩,⟨by (with_reducible repeat (first|apply Kd.V_alloc|apply Kd.V_drewN|apply Kd.V_drew));exact Kd.V_mono HO1.out (fun _ hk=>⟨hk.1.1.1.1,hk.1.1.1.2⟩)⟩,⟨Kd.V_mono (Kd.R_V (ok:=fun k_=>w.heap.size ≤ k_ ∧ k_ ≠ gb290) (by (with_reducible repeat (first|apply Kd.R_alloc|apply Kd.R_drewN|apply Kd.R_drew));exact Kd.R_mono (Kd.R_bound (IsS25.apart HI290.out HO304.out (by decide))) (fun _ hk=>⟨hk.2.1,hk.1.2⟩))) (fun k_ hk=>⟨.inr hk.1,hk.2⟩)⟩,⟨by repeat (first|(with_reducible first|exact HI290.out|apply IsS25.alloc|apply IsS25.drewN|apply IsS25.drew|apply IsS25.set_1)|exact HI290.out)⟩,⟨by repeat (first|(with_reducible first|exact HB.out|apply below_alloc|apply pw_below_drewN|apply below_drew1|refine below_set ?_ (IsS25.ge HI290.out))|exact HB.out)⟩⟩
 case rest =>
  clear HC8
  try clear c1
  try clear c2
  try clear p2
  try clear hcv2
  try clear c3
  try clear hcv3
  try clear c12
  try clear c16
  try clear c17
  try clear c17b0
  try clear c17b1
  try clear c18
  try clear c18b0
  try clear c18b1
  try clear c19
  try clear c19b0
  try clear c19b1
  try clear c22
  try clear hcv22
  try clear hcv23
  try clear hcv27
  try clear hcv28
  try clear hcv30
  try clear hcv31
  obtain ⟨kq,x66_7,rfl,HA,HJ7,HO_1,HO_12,HI290,HB⟩:=hcut
  cases kq with
  | zero=>exact absurd HA.out (by simp [law26_DeltaForms.j0])
  | succ kj7 =>
   have H:=HA.out
   clear HA
   simp only [law26_DeltaForms.j0] at H
   by_cases c34:x66_7 = true
   ·subst c34
    have H1:(some false) = some r:=by rw [if_pos rfl] at H;exact H
    clear H
    have H:=H1
    clear H1
    obtain rfl:=Option.some.inj H
    go_wp2
    go_ret
    exact ⟨by first|rfl|(simp [errW_none,errW_some] <;> rfl)|(simp [*,errW_none,errW_some] <;> rfl),by repeat (first|(with_reducible first|exact HB.out|apply below_alloc|apply pw_below_drewN|apply below_drew1|refine below_set ?_ (IsS25.ge HI290.out))|exact HB.out)⟩
   ·replace c34:=Bool.eq_false_iff.mpr c34
    subst c34
    have H1:(if ([]:List Int).length + t301.length < 140737488355328 then ((some (([]:List Int) ++ t301:List Int)).bind fun y307=>((make_Tape_Next.f l2 t296 3).bind fun bt310=>(if y307.length < 140737488355328 then ((some (([l1,t301,(y307 ++ [(bt310.1) % 256])]:List (List Int)):List (List Int))).bind fun y315=>(if (t301.length:Int) > 0 then ((some (([]:List Int) ++ t301:List Int)).bind fun y318=>((make_Tape_Next.f l2 bt310.2 (t301.length:Int)).bind fun bt321=>(if 0 ≤ bt321.1 then (if bt321.1 < (y318.length:Int) then ((make_Tape_Next.f l2 bt321.2 8).bind fun bt324=>(if 0 ≤ bt324.1 then ((make_Tape_Next.f l2 bt324.2 (t301.length:Int)).bind fun bt327=>(if 0 ≤ bt327.1 then (if bt327.1 ≤ (t301.length:Int) then ((some (t301.take (bt327.1:Int).toNat:List Int)).bind fun y329=>(if ([]:List Int).length + y329.length < 140737488355328 then ((some (([(y318.set (bt321.1:Int).toNat (Go.bits .xor .u8 (rd y318 bt321.1) (shl .u8 1 bt324.1))),(([]:List Int) ++ y329)]:List (List Int)):List (List Int))).bind fun y337=>(if y315.length + y337.length < 5864062014805 then (law26_DeltaForms.j1 kj7 a0 t291 (y315 ++ y337)) else (none))) else (none))) else (none)) else (none))) else (none))) else (none)) else (none)))) else (law26_DeltaForms.j1 kj7 a0 t291 y315))) else (none)))) else (none)) = some r:=by rw [if_neg (show ¬ (false = true) by decide)] at H;exact H
    clear H
    have H:=H1
    clear H1
    by_cases c35:([]:List Int).length + t301.length < 140737488355328
    ·rw [if_pos c35] at H
     have LMc35:=Aside0.mk c35
     clear c35
     obtain ⟨y307,hy307⟩:∃ y_:List Int,y_ = (([]:List Int) ++ t301):=⟨_,rfl⟩
     replace H:((make_Tape_Next.f l2 t296 3).bind fun bt310=>(if y307.length < 140737488355328 then ((some (([l1,t301,(y307 ++ [(bt310.1) % 256])]:List (List Int)):List (List Int))).bind fun y315=>(if (t301.length:Int) > 0 then ((some (([]:List Int) ++ t301:List Int)).bind fun y318=>((make_Tape_Next.f l2 bt310.2 (t301.length:Int)).bind fun bt321=>(if 0 ≤ bt321.1 then (if bt321.1 < (y318.length:Int) then ((make_Tape_Next.f l2 bt321.2 8).bind fun bt324=>(if 0 ≤ bt324.1 then ((make_Tape_Next.f l2 bt324.2 (t301.length:Int)).bind fun bt327=>(if 0 ≤ bt327.1 then (if bt327.1 ≤ (t301.length:Int) then ((some (t301.take (bt327.1:Int).toNat:List Int)).bind fun y329=>(if ([]:List Int).length + y329.length < 140737488355328 then ((some (([(y318.set (bt321.1:Int).toNat (Go.bits .xor .u8 (rd y318 bt321.1) (shl .u8 1 bt324.1))),(([]:List Int) ++ y329)]:List (List Int)):List (List Int))).bind fun y337=>(if y315.length + y337.length < 5864062014805 then (law26_DeltaForms.j1 kj7 a0 t291 (y315 ++ y337)) else (none))) else (none))) else (none)) else (none))) else (none))) else (none)) else (none)))) else (law26_DeltaForms.j1 kj7 a0 t291 y315))) else (none))) = some r:=by first|(rw [hy307];with_reducible exact H)|(have H2_:=(Option.bind_some _ _).symm.trans H;rw [hy307];with_reducible exact H2_)|(have H2_:=(Option.bind_some _ _).symm.trans H;with_reducible exact H2_)|with_reducible exact H|(rw [hy307];exact H)|exact H
     have Ny307:=Aside0.mk hy307
     clear hy307
     replace H:=Option.bind_eq_some_iff.mp H
     obtain ⟨⟨t310,t311⟩,A360,H⟩:=H
     replace H:(if y307.length < 140737488355328 then ((some (([l1,t301,(y307 ++ [(t310) % 256])]:List (List Int)):List (List Int))).bind fun y315=>(if (t301.length:Int) > 0 then ((some (([]:List Int) ++ t301:List Int)).bind fun y318=>((make_Tape_Next.f l2 t311 (t301.length:Int)).bind fun bt321=>(if 0 ≤ bt321.1 then (if bt321.1 < (y318.length:Int) then ((make_Tape_Next.f l2 bt321.2 8).bind fun bt324=>(if 0 ≤ bt324.1 then ((make_Tape_Next.f l2 bt324.2 (t301.length:Int)).bind fun bt327=>(if 0 ≤ bt327.1 then (if bt327.1 ≤ (t301.length:Int) then ((some (t301.take (bt327.1:Int).toNat:List Int)).bind fun y329=>(if ([]:List Int).length + y329.length < 140737488355328 then ((some (([(y318.set (bt321.1:Int).toNat (Go.bits .xor .u8 (rd y318 bt321.1) (shl .u8 1 bt324.1))),(([]:List Int) ++ y329)]:List (List Int)):List (List Int))).bind fun y337=>(if y315.length + y337.length < 5864062014805 then (law26_DeltaForms.j1 kj7 a0 t291 (y315 ++ y337)) else (none))) else (none))) else (none)) else (none))) else (none))) else (none)) else (none)))) else (law26_DeltaForms.j1 kj7 a0 t291 y315))) else (none)) = some r:=H
     have A36:=Aside0.mk A360
     clear A360
     by_cases c37:y307.length < 140737488355328
     ·rw [if_pos c37] at H
      have LMc37:=Aside0.mk c37
      clear c37
      obtain ⟨y312,hy312⟩:∃ y_:List Int,y_ = (y307 ++ [(t310) % 256]):=⟨_,rfl⟩
      replace H:((some (([l1,t301,y312]:List (List Int)):List (List Int))).bind fun y315=>(if (t301.length:Int) > 0 then ((some (([]:List Int) ++ t301:List Int)).bind fun y318=>((make_Tape_Next.f l2 t311 (t301.length:Int)).bind fun bt321=>(if 0 ≤ bt321.1 then (if bt321.1 < (y318.length:Int) then ((make_Tape_Next.f l2 bt321.2 8).bind fun bt324=>(if 0 ≤ bt324.1 then ((make_Tape_Next.f l2 bt324.2 (t301.length:Int)).bind fun bt327=>(if 0 ≤ bt327.1 then (if bt327.1 ≤ (t301.length:Int) then ((some (t301.take (bt327.1:Int).toNat:List Int)).bind fun y329=>(if ([]:List Int).length + y329.length < 140737488355328 then ((some (([(y318.set (bt321.1:Int).toNat (Go.bits .xor .u8 (rd y318 bt321.1) (shl .u8 1 bt324.1))),(([]:List Int) ++ y329)]:List (List Int)):List (List Int))).bind fun y337=>(if y315.length + y337.length < 5864062014805 then (law26_DeltaForms.j1 kj7 a0 t291 (y315 ++ y337)) else (none))) else (none))) else (none)) else (none))) else (none))) else (none)) else (none)))) else (law26_DeltaForms.j1 kj7 a0 t291 y315))) = some r:=by first|(rw [hy312];with_reducible exact H)|(have H2_:=(Option.bind_some _ _).symm.trans H;rw [hy312];with_reducible exact H2_)|(have H2_:=(Option.bind_some _ _).symm.trans H;with_reducible exact H2_)|with_reducible exact H|(rw [hy312];exact H)|exact H
      have Ny312:=Aside0.mk hy312
      clear hy312
      obtain ⟨y315,hy315⟩:∃ y_:List (List Int),y_ = (([l1,t301,y312]:List (List Int))):=⟨_,rfl⟩
      replace H:(if (t301.length:Int) > 0 then ((some (([]:List Int) ++ t301:List Int)).bind fun y318=>((make_Tape_Next.f l2 t311 (t301.length:Int)).bind fun bt321=>(if 0 ≤ bt321.1 then (if bt321.1 < (y318.length:Int) then ((make_Tape_Next.f l2 bt321.2 8).bind fun bt324=>(if 0 ≤ bt324.1 then ((make_Tape_Next.f l2 bt324.2 (t301.length:Int)).bind fun bt327=>(if 0 ≤ bt327.1 then (if bt327.1 ≤ (t301.length:Int) then ((some (t301.take (bt327.1:Int).toNat:List Int)).bind fun y329=>(if ([]:List Int).length + y329.length < 140737488355328 then ((some (([(y318.set (bt321.1:Int).toNat (Go.bits .xor .u8 (rd y318 bt321.1) (shl .u8 1 bt324.1))),(([]:List Int) ++ y329)]:List (List Int)):List (List Int))).bind fun y337=>(if y315.length + y337.length < 5864062014805 then (law26_DeltaForms.j1 kj7 a0 t291 (y315 ++ y337)) else (none))) else (none))) else (none)) else (none))) else (none))) else (none)) else (none)))) else (law26_DeltaForms.j1 kj7 a0 t291 y315)) = some r:=by first|(rw [hy315];with_reducible exact H)|(have H2_:=(Option.bind_some _ _).symm.trans H;rw [hy315];with_reducible exact H2_)|(have H2_:=(Option.bind_some _ _).symm.trans H;with_reducible exact H2_)|with_reducible exact H|(rw [hy315];exact H)|exact H
      have Ny315:=Aside0.mk hy315
      clear hy315
      have HC38:=Aside0.mk H
      clear H
      obtain ⟨Ao40,co40,eo40⟩:=Kd.V_slice HO_12.out
      subst eo40
      go_upto_if 79 with (first|((with_reducible refine gate_builtin (b:=.append) (xs:=#[.const (.slice none 0 0),.tmp 69]) rfl ?_);(try (refine gate_guard (by rfl) ?_;dsimp only));at_builtin;refine Kd.R_append_rows (Kd.int .u8) (w0:=w) w.heap.size rfl (.const (.slice none 0 0)) (.tmp 69) 26 5 (.int .u8 0) 1 rfl Try.underlying26 info5 rfl (by decide) (by omega) (.slice none 0 0) ([]:List Int) t301 _ _ _ (fun k_=>(w.heap.size ≤ k_)) (fun _=>False) rfl rfl ?aO ?aR (fun _ _ h=>h) (fun _ h=>h.elim) ?aF ?aB ?aS ?aL ?_;(case aR=>repeat (first|exact (Kd.V_reads' HO_12.out).2.2|(with_reducible refine Kd.C_alloc ?_ _)|(with_reducible refine Kd.C_drewN ?_ _)|(with_reducible refine Kd.C_drew ?_)));(case aB=>exact (by repeat (first|(with_reducible first|exact HB.out|apply below_alloc|apply pw_below_drewN|apply below_drew1|refine below_set ?_ (IsS25.ge HI290.out))|exact HB.out)));(case aF=>exact (fun k_ hk=>(Nat.le_trans (below_size (by repeat (first|(with_reducible first|exact HB.out|apply below_alloc|apply pw_below_drewN|apply below_drew1|refine below_set ?_ (IsS25.ge HI290.out))|exact HB.out))) hk)));(case aO=>exact ((Kd.R_nil _ _ _ _ (fun k_=>(w.heap.size ≤ k_)))));(case aS=>exact (below_size (by repeat (first|(with_reducible first|exact HB.out|apply below_alloc|apply pw_below_drewN|apply below_drew1|refine below_set ?_ (IsS25.ge HI290.out))|exact HB.out))));(case aL=>have:=LMc35.out;omega);intro v308 w39 ho hb hg hat;rw [← Ny307.out] at ho;have n0_:=Aside0.mk (Kd.V_afterv (Kd.V_apart_nil (by (with_reducible repeat (first|apply Kd.V_alloc|apply Kd.V_drewN|apply Kd.V_drew));exact HO_1.out)) hg hat);have n1_:=Aside0.mk (Kd.V_afterv (Kd.V_apart_nil (by (with_reducible repeat (first|apply Kd.V_alloc|apply Kd.V_drewN|apply Kd.V_drew));exact HO_12.out)) hg hat);have n2_:=Aside0.mk (IsS25.grown (show IsS25 w _ gb290 l2 t296 from by repeat (first|(with_reducible first|exact HI290.out|apply IsS25.alloc|apply IsS25.drewN|apply IsS25.drew|apply IsS25.set_1)|exact HI290.out)) hg (by simp [Value.ownBlock]));have n3_:=Aside0.mk (hb);have n4_:=Aside0.mk (ho);clear HO_1;clear HO_12;clear HI290;clear HB;have HO_1:=n0_;have HO_12:=n1_;have HI290:=n2_;have HB:=n3_;have HO309:=n4_;clear n0_ n1_ n2_ n3_ n4_;clear ho hb hg hat)|((with_reducible refine gate_callee (f:=16) rfl ?_);refine goesL_ (some 72) rfl rfl Try.func16 (by kernel_rfl) rfl #[.pointer (some ⟨gb290,0,none⟩),.int .i64 3] rfl (by (try simp only [List.map_toArray,List.map_cons,List.map_nil]);first|done|rfl|(simp only [List.length_drop,List.length_take];rfl)) ?_;(with_reducible refine (make_Tape_Next.calls gb290 l2 t296 3 t310 t311 w _ ?side1 ?side2 A36.out).mono ?_);(case side1=>repeat (first|(with_reducible first|exact HI290.out|apply IsS25.alloc|apply IsS25.drewN|apply IsS25.drew|apply IsS25.set_1)|exact HI290.out));(case side2=>repeat (first|(with_reducible first|exact HB.out|apply below_alloc|apply pw_below_drewN|apply below_drew1|refine below_set ?_ (IsS25.ge HI290.out))|exact HB.out));rintro e w41 ⟨rfl,hi,hb,hk⟩;refine ⟨_,rfl,?_⟩;have n0_:=Aside0.mk (Kd.V_mono (Kd.V_keep (Kd.V_mono (ok:=fun k_=>((((P1_ k_ ∨ w.heap.size ≤ k_)) ∧ k_ ≠ gb290) ∧ some k_ ≠ (v308:Value).ownBlock)) (by (with_reducible repeat (first|apply Kd.V_alloc|apply Kd.V_drewN|apply Kd.V_drew));exact HO_1.out) (fun k_ hk_=>(⟨hk_,hk_.1.2⟩:_ ∧ k_ ≠ gb290))) hk (fun _ h=>h.2)) (fun _ h=>h.1));have n1_:=Aside0.mk (Kd.V_mono (Kd.V_keep (Kd.V_mono (ok:=fun k_=>((((P1_ k_ ∨ w.heap.size ≤ k_)) ∧ k_ ≠ gb290) ∧ some k_ ≠ (v308:Value).ownBlock)) (by (with_reducible repeat (first|apply Kd.V_alloc|apply Kd.V_drewN|apply Kd.V_drew));exact HO_12.out) (fun k_ hk_=>(⟨hk_,hk_.1.2⟩:_ ∧ k_ ≠ gb290))) hk (fun _ h=>h.2)) (fun _ h=>h.1));have n2_:=Aside0.mk (Kd.R_mono (Kd.R_keep (IsS25.apart (show IsS25 w _ gb290 l2 t296 from by repeat (first|(with_reducible first|exact HI290.out|apply IsS25.alloc|apply IsS25.drewN|apply IsS25.drew|apply IsS25.set_1)|exact HI290.out)) (by (with_reducible repeat (first|apply Kd.R_alloc|apply Kd.R_drewN|apply Kd.R_drew));exact HO309.out) (by decide)) hk (fun _ h=>h.2)) (fun _ h=>h.1));have n3_:=Aside0.mk (hb);have n4_:=Aside0.mk (hi);clear HO_1;clear HO_12;clear HO309;clear HB;clear HI290;have HO_1:=n0_;have HO_12:=n1_;have HO309:=n2_;have HB:=n3_;have HI290:=n4_;clear n0_ n1_ n2_ n3_ n4_;(try clear hb);(try clear hb2);(try clear hk);(try clear hi))|((with_reducible refine gate_builtin (b:=.append) (xs:=#[.tmp 70,.tmp 74]) rfl ?_);(try (refine gate_guard (by rfl) ?_;dsimp only));at_builtin;refine Kd.R_append (Kd.int .u8) (w0:=w) w.heap.size rfl (.tmp 70) (.tmp 74) 26 5 (.int .u8 0) 1 rfl Try.underlying26 info5 rfl (by decide) (by omega) v308 y307 ((t310) % 256) [.int .u8 ((t310) % 256)] (fun k_=>(w.heap.size ≤ k_)) (fun _=>False) rfl rfl ?aP (fun _ hk=>hk.elim) ?aF ?aO ?aB ?aS ?aL ?_;(case aP=>exact rfl);(case aB=>exact (by repeat (first|(with_reducible first|exact HB.out|apply below_alloc|apply pw_below_drewN|apply below_drew1|refine below_set ?_ (IsS25.ge HI290.out))|exact HB.out)));(case aF=>exact (fun k_ hk=>(Nat.le_trans (below_size (by repeat (first|(with_reducible first|exact HB.out|apply below_alloc|apply pw_below_drewN|apply below_drew1|refine below_set ?_ (IsS25.ge HI290.out))|exact HB.out))) hk)));(case aO=>exact (by (with_reducible repeat (first|apply Kd.R_alloc|apply Kd.R_drewN|apply Kd.R_drew));exact HO309.out));(case aS=>exact (below_size (by repeat (first|(with_reducible first|exact HB.out|apply below_alloc|apply pw_below_drewN|apply below_drew1|refine below_set ?_ (IsS25.ge HI290.out))|exact HB.out))));(case aL=>have:=LMc37.out;omega);intro v313 w42 ho hb hg hat;rw [← Ny312.out] at ho;have n0_:=Aside0.mk (Kd.V_afterv (ok:=(fun k_=>(P1_ k_ ∨ w.heap.size ≤ k_) ∧ k_ ≠ gb290)) (by (with_reducible repeat (first|apply Kd.V_alloc|apply Kd.V_drewN|apply Kd.V_drew));exact HO_1.out) hg hat);have n1_:=Aside0.mk (Kd.V_afterv (ok:=(fun k_=>(P1_ k_ ∨ w.heap.size ≤ k_) ∧ k_ ≠ gb290)) (by (with_reducible repeat (first|apply Kd.V_alloc|apply Kd.V_drewN|apply Kd.V_drew));exact HO_12.out) hg hat);have n2_:=Aside0.mk (IsS25.grown (show IsS25 w _ gb290 l2 t311 from by repeat (first|(with_reducible first|exact HI290.out|apply IsS25.alloc|apply IsS25.drewN|apply IsS25.drew|apply IsS25.set_1)|exact HI290.out)) hg (IsS25.own_ne HI290.out HO309.out (by decide)));have n3_:=Aside0.mk (hb);have n4_:=Aside0.mk (ho);clear HO_1;clear HO_12;clear HI290;clear HB;clear HO309;have HO_1:=n0_;have HO_12:=n1_;have HI290:=n2_;have HB:=n3_;have HO314:=n4_;clear n0_ n1_ n2_ n3_ n4_;clear ho hb hg hat;obtain ⟨Ao43,co43,eo43⟩:=Kd.R_slice HO314.out;subst eo43)|((with_reducible refine gate_dst (N:=76) rfl ?_);(try (refine gate_guard (by rfl) ?_;dsimp only));refine Kd.N_lit (Kd.slice 5 (Kd.int .u8)) _ 26 ?hg (N':=76) ?hd (xs:=([l1,t301,y312]:List (List Int))) (inner:=[.slice A1 l1.length c1,.slice Ao40 t301.length co40,.slice Ao43 y312.length co43]) (ok:=(fun k_=>(P1_ k_ ∨ w.heap.size ≤ k_) ∧ k_ ≠ gb290)) (okp:=(fun k_=>(P1_ k_ ∨ w.heap.size ≤ k_) ∧ k_ ≠ gb290)) ?hr ?hp (fun _ hk=>hk) ((show ∀ k_,w42.heap.size ≤ k_ → (fun k_=>(P1_ k_ ∨ w.heap.size ≤ k_) ∧ k_ ≠ gb290) k_ from fun k_ hk=>⟨(.inr (Nat.le_trans (below_size (by repeat (first|(with_reducible first|exact HB.out|apply below_alloc|apply pw_below_drewN|apply below_drew1|refine below_set ?_ (IsS25.ge HI290.out))|exact HB.out))) hk)),IsS25.fresh (by repeat (first|(with_reducible first|exact HI290.out|apply IsS25.alloc|apply IsS25.drewN|apply IsS25.drew|apply IsS25.set_1)|exact HI290.out)) k_ hk⟩) _ (Nat.le_refl _)) (Below.refl _ _) (Nat.le_refl _) (by simp) ?_;(case hd=>rfl);(case hg=>rfl);(case hr=>first|(go_simp;done)|(go_simp;rfl));(case hp=>exact (Reps.one (show Kd.FK (Kd.slice 5 (Kd.int .u8)) _ _ l1 [.slice A1 l1.length c1] from (Kd.FK_slice_mk (Kd.V_reads' (Kd.V_mono (ok':=(fun k_=>(P1_ k_ ∨ w.heap.size ≤ k_) ∧ k_ ≠ gb290)) (HO_1.out) (fun k_ hk=>⟨hk.1.1,hk.1.2⟩))).2.1 (Kd.V_F (Kd.V_mono (ok':=(fun k_=>(P1_ k_ ∨ w.heap.size ≤ k_) ∧ k_ ≠ gb290)) (HO_1.out) (fun k_ hk=>⟨hk.1.1,hk.1.2⟩))))) (Reps.one (show Kd.FK (Kd.slice 5 (Kd.int .u8)) _ _ t301 [.slice Ao40 t301.length co40] from (Kd.FK_slice_mk (Kd.V_reads' (Kd.V_mono (ok':=(fun k_=>(P1_ k_ ∨ w.heap.size ≤ k_) ∧ k_ ≠ gb290)) (HO_12.out) (fun k_ hk=>⟨hk.1.1,hk.1.2⟩))).2.1 (Kd.V_F (Kd.V_mono (ok':=(fun k_=>(P1_ k_ ∨ w.heap.size ≤ k_) ∧ k_ ≠ gb290)) (HO_12.out) (fun k_ hk=>⟨hk.1.1,hk.1.2⟩))))) (Reps.one (show Kd.FK (Kd.slice 5 (Kd.int .u8)) _ _ y312 [.slice Ao43 y312.length co43] from (Kd.FK_slice_mk (Kd.R_reads' (Kd.R_mono (ok':=(fun k_=>(P1_ k_ ∨ w.heap.size ≤ k_) ∧ k_ ≠ gb290)) (IsS25.apart HI290.out (HO314.out) (by decide)) (fun k_ hk=>⟨(.inr (hk.1)),hk.2⟩))).2.1 (Kd.R_F (Kd.R_mono (ok':=(fun k_=>(P1_ k_ ∨ w.heap.size ≤ k_) ∧ k_ ≠ gb290)) (IsS25.apart HI290.out (HO314.out) (by decide)) (fun k_ hk=>⟨(.inr (hk.1)),hk.2⟩))))) (Reps.none _ _)))));intro v316 w44 ho45 hb hg_ hnew_;clear hg_ hnew_;(first|rw [← Ny315.out] at ho45|(simp only [Int.reduceToNat] at ho45;rw [← Ny315.out] at ho45));have n0_:=Aside0.mk (Kd.V_elder' (by (with_reducible repeat (first|apply Kd.V_alloc|apply Kd.V_drewN|apply Kd.V_drew));exact HO_1.out) (by first|exact Kd.N_base ho45|exact Kd.S_base ho45) hb);have n1_:=Aside0.mk (Kd.V_elder' (by (with_reducible repeat (first|apply Kd.V_alloc|apply Kd.V_drewN|apply Kd.V_drew));exact HO_12.out) (by first|exact Kd.N_base ho45|exact Kd.S_base ho45) hb);have n2_:=Aside0.mk (Kd.N_lower ho45 (below_size (by repeat (first|(with_reducible first|exact HB.out|apply below_alloc|apply pw_below_drewN|apply below_drew1|refine below_set ?_ (IsS25.ge HI290.out))|exact HB.out))));have n3_:=Aside0.mk (IsS25.below (by repeat (first|(with_reducible first|exact HI290.out|apply IsS25.alloc|apply IsS25.drewN|apply IsS25.drew|apply IsS25.set_1)|exact HI290.out)) hb);have n4_:=Aside0.mk (below_step (by repeat (first|(with_reducible first|exact HB.out|apply below_alloc|apply pw_below_drewN|apply below_drew1|refine below_set ?_ (IsS25.ge HI290.out))|exact HB.out)) hb);clear HO_1;clear HO_12;clear HI290;clear HB;clear HO314;have HO_1:=n0_;have HO_12:=n1_;have HO317:=n2_;have HI290:=n3_;have HB:=n4_;clear n0_ n1_ n2_ n3_ n4_;clear hb ho45))
      (try simp only [Act.put,List.setIfInBounds_toArray,List.set_cons_zero,List.set_cons_succ])
      go_cut [14] (fun v14 wc=>∃ (kq:Nat) (x14_37:List (List Int)),Aside0 (law26_DeltaForms.j1 kq a0 t291 x14_37 = some r) ∧ Aside0 (kq ≤ kj7) ∧ Aside0 (Kd.N (Kd.slice 5 (Kd.int .u8)) 26 wc w.heap.size (fun k_=>(P1_ k_ ∨ w.heap.size ≤ k_)) v14 x14_37) ∧ Aside0 (Below w.heap.size w wc))
      case first =>
       have H:=HC38.out
       clear HC38
       by_cases c46:(t301.length:Int) > 0
       ·rw [if_pos c46] at H
        have c46b0:decide (0 < (t301.length:Int)) = true:=decide_eq_true c46
        have c46b1:decide (0 < t301.length) = true:=decide_eq_true (by omega)
        clear c46
        (first|rw [c46b0]|(simp only [i64_w,i32_w];rw [c46b0])|skip)
        obtain ⟨y318,hy318⟩:∃ y_:List Int,y_ = (([]:List Int) ++ t301):=⟨_,rfl⟩
        replace H:((make_Tape_Next.f l2 t311 (t301.length:Int)).bind fun bt321=>(if 0 ≤ bt321.1 then (if bt321.1 < (y318.length:Int) then ((make_Tape_Next.f l2 bt321.2 8).bind fun bt324=>(if 0 ≤ bt324.1 then ((make_Tape_Next.f l2 bt324.2 (t301.length:Int)).bind fun bt327=>(if 0 ≤ bt327.1 then (if bt327.1 ≤ (t301.length:Int) then ((some (t301.take (bt327.1:Int).toNat:List Int)).bind fun y329=>(if ([]:List Int).length + y329.length < 140737488355328 then ((some (([(y318.set (bt321.1:Int).toNat (Go.bits .xor .u8 (rd y318 bt321.1) (shl .u8 1 bt324.1))),(([]:List Int) ++ y329)]:List (List Int)):List (List Int))).bind fun y337=>(if y315.length + y337.length < 5864062014805 then (law26_DeltaForms.j1 kj7 a0 t291 (y315 ++ y337)) else (none))) else (none))) else (none)) else (none))) else (none))) else (none)) else (none))) = some r:=by first|(rw [hy318];with_reducible exact H)|(have H2_:=(Option.bind_some _ _).symm.trans H;rw [hy318];with_reducible exact H2_)|(have H2_:=(Option.bind_some _ _).symm.trans H;with_reducible exact H2_)|with_reducible exact H|(rw [hy318];exact H)|exact H
        have Ny318:=Aside0.mk hy318
        clear hy318
        replace H:=Option.bind_eq_some_iff.mp H
        obtain ⟨⟨t321,t322⟩,A470,H⟩:=H
        replace H:(if 0 ≤ t321 then (if t321 < (y318.length:Int) then ((make_Tape_Next.f l2 t322 8).bind fun bt324=>(if 0 ≤ bt324.1 then ((make_Tape_Next.f l2 bt324.2 (t301.length:Int)).bind fun bt327=>(if 0 ≤ bt327.1 then (if bt327.1 ≤ (t301.length:Int) then ((some (t301.take (bt327.1:Int).toNat:List Int)).bind fun y329=>(if ([]:List Int).length + y329.length < 140737488355328 then ((some (([(y318.set (t321:Int).toNat (Go.bits .xor .u8 (rd y318 t321) (shl .u8 1 bt324.1))),(([]:List Int) ++ y329)]:List (List Int)):List (List Int))).bind fun y337=>(if y315.length + y337.length < 5864062014805 then (law26_DeltaForms.j1 kj7 a0 t291 (y315 ++ y337)) else (none))) else (none))) else (none)) else (none))) else (none))) else (none)) else (none)) = some r:=H
        have A47:=Aside0.mk A470
        clear A470
        by_cases c48:0 ≤ t321
        ·rw [if_pos c48] at H
         have c48b0:decide (0 ≤ t321) = true:=decide_eq_true c48
         clear c48
         by_cases c49:t321 < (y318.length:Int)
         ·rw [if_pos c49] at H
          have c49b0:decide (t321 < (y318.length:Int)) = true:=decide_eq_true c49
          clear c49
          replace H:=Option.bind_eq_some_iff.mp H
          obtain ⟨⟨t324,t325⟩,A500,H⟩:=H
          replace H:(if 0 ≤ t324 then ((make_Tape_Next.f l2 t325 (t301.length:Int)).bind fun bt327=>(if 0 ≤ bt327.1 then (if bt327.1 ≤ (t301.length:Int) then ((some (t301.take (bt327.1:Int).toNat:List Int)).bind fun y329=>(if ([]:List Int).length + y329.length < 140737488355328 then ((some (([(y318.set (t321:Int).toNat (Go.bits .xor .u8 (rd y318 t321) (shl .u8 1 t324))),(([]:List Int) ++ y329)]:List (List Int)):List (List Int))).bind fun y337=>(if y315.length + y337.length < 5864062014805 then (law26_DeltaForms.j1 kj7 a0 t291 (y315 ++ y337)) else (none))) else (none))) else (none)) else (none))) else (none)) = some r:=H
          have A50:=Aside0.mk A500
          clear A500
          by_cases c51:0 ≤ t324
          ·rw [if_pos c51] at H
           have c51b0:=eq_true c51
           have c51b1:decide (0 ≤ t324) = true:=decide_eq_true c51
           clear c51
           obtain ⟨ji52,hji52⟩:∃ j_:Int,(shl .u8 1 t324) = j_:=⟨_,rfl⟩
           replace H:((make_Tape_Next.f l2 t325 (t301.length:Int)).bind fun bt327=>(if 0 ≤ bt327.1 then (if bt327.1 ≤ (t301.length:Int) then ((some (t301.take (bt327.1:Int).toNat:List Int)).bind fun y329=>(if ([]:List Int).length + y329.length < 140737488355328 then ((some (([(y318.set (t321:Int).toNat (Go.bits .xor .u8 (rd y318 t321) (ji52))),(([]:List Int) ++ y329)]:List (List Int)):List (List Int))).bind fun y337=>(if y315.length + y337.length < 5864062014805 then (law26_DeltaForms.j1 kj7 a0 t291 (y315 ++ y337)) else (none))) else (none))) else (none)) else (none))) = some r:=by first|(rw [hji52] at H;exact H)|(simp only [hji52] at H ⊢;exact H)
           (try rw [hji52] at A47)
           (try rw [hji52] at A50)
           have hji52_:(IntKind.u8.wrap (1 * 2 ^ min t324.toNat 8)) = ji52:=hji52
           have hji52z:t324 ≤ 8 → (IntKind.u8.wrap (1 * 2 ^ t324.toNat)) = ji52:=shl_small hji52
           have hji52u:(IntKind.u8.wrap (2 ^ min t324.toNat 8)) = ji52:=by have h_:=hji52_;rw [Int.one_mul] at h_;exact h_
           have hji52v:t324 ≤ 8 → (IntKind.u8.wrap (2 ^ t324.toNat)) = ji52:=fun hle_=>by have h_:=hji52z hle_;rw [Int.one_mul] at h_;exact h_
           obtain ⟨y326,hy326⟩:∃ y_:List Int,y_ = (y318.set (t321:Int).toNat (Go.bits .xor .u8 (rd y318 t321) (ji52))):=⟨_,rfl⟩
           replace H:((make_Tape_Next.f l2 t325 (t301.length:Int)).bind fun bt327=>(if 0 ≤ bt327.1 then (if bt327.1 ≤ (t301.length:Int) then ((some (t301.take (bt327.1:Int).toNat:List Int)).bind fun y329=>(if ([]:List Int).length + y329.length < 140737488355328 then ((some (([y326,(([]:List Int) ++ y329)]:List (List Int)):List (List Int))).bind fun y337=>(if y315.length + y337.length < 5864062014805 then (law26_DeltaForms.j1 kj7 a0 t291 (y315 ++ y337)) else (none))) else (none))) else (none)) else (none))) = some r:=by first|(rw [hy326];with_reducible exact H)|(have H2_:=(Option.bind_some _ _).symm.trans H;rw [hy326];with_reducible exact H2_)|(have H2_:=(Option.bind_some _ _).symm.trans H;with_reducible exact H2_)|with_reducible exact H|(rw [hy326];exact H)|exact H
           have Ny326:=Aside0.mk hy326
           clear hy326
           replace H:=Option.bind_eq_some_iff.mp H
           obtain ⟨⟨t327,t328⟩,A540,H⟩:=H
           replace H:(if 0 ≤ t327 then (if t327 ≤ (t301.length:Int) then ((some (t301.take (t327:Int).toNat:List Int)).bind fun y329=>(if ([]:List Int).length + y329.length < 140737488355328 then ((some (([y326,(([]:List Int) ++ y329)]:List (List Int)):List (List Int))).bind fun y337=>(if y315.length + y337.length < 5864062014805 then (law26_DeltaForms.j1 kj7 a0 t291 (y315 ++ y337)) else (none))) else (none))) else (none)) else (none)) = some r:=H
           have A54:=Aside0.mk A540
           clear A540
           by_cases c55:0 ≤ t327
           ·rw [if_pos c55] at H
            have c55b0:=eq_true c55
            have c55b1:decide (0 ≤ t327) = true:=decide_eq_true c55
            clear c55
            by_cases c56:t327 ≤ (t301.length:Int)
            ·rw [if_pos c56] at H
             have c56b0:=eq_true c56
             have c56b1:decide (t327 ≤ (t301.length:Int)) = true:=decide_eq_true c56
             clear c56
             obtain ⟨y329,hy329⟩:∃ y_:List Int,y_ = (t301.take (t327:Int).toNat):=⟨_,rfl⟩
             replace H:(if ([]:List Int).length + y329.length < 140737488355328 then ((some (([y326,(([]:List Int) ++ y329)]:List (List Int)):List (List Int))).bind fun y337=>(if y315.length + y337.length < 5864062014805 then (law26_DeltaForms.j1 kj7 a0 t291 (y315 ++ y337)) else (none))) else (none)) = some r:=by first|(rw [hy329];with_reducible exact H)|(have H2_:=(Option.bind_some _ _).symm.trans H;rw [hy329];with_reducible exact H2_)|(have H2_:=(Option.bind_some _ _).symm.trans H;with_reducible exact H2_)|with_reducible exact H|(rw [hy329];exact H)|exact H
             have Ny329:=Aside0.mk hy329
             clear hy329
             by_cases c57:([]:List Int).length + y329.length < 140737488355328
             ·rw [if_pos c57] at H
              have LMc57:=Aside0.mk c57
              clear c57
              obtain ⟨y334,hy334⟩:∃ y_:List Int,y_ = (([]:List Int) ++ y329):=⟨_,rfl⟩
              replace H:((some (([y326,y334]:List (List Int)):List (List Int))).bind fun y337=>(if y315.length + y337.length < 5864062014805 then (law26_DeltaForms.j1 kj7 a0 t291 (y315 ++ y337)) else (none))) = some r:=by first|(rw [hy334];with_reducible exact H)|(have H2_:=(Option.bind_some _ _).symm.trans H;rw [hy334];with_reducible exact H2_)|(have H2_:=(Option.bind_some _ _).symm.trans H;with_reducible exact H2_)|with_reducible exact H|(rw [hy334];exact H)|exact H
              have Ny334:=Aside0.mk hy334
              clear hy334
              obtain ⟨y337,hy337⟩:∃ y_:List (List Int),y_ = (([y326,y334]:List (List Int))):=⟨_,rfl⟩
              replace H:(if y315.length + y337.length < 5864062014805 then (law26_DeltaForms.j1 kj7 a0 t291 (y315 ++ y337)) else (none)) = some r:=by first|(rw [hy337];with_reducible exact H)|(have H2_:=(Option.bind_some _ _).symm.trans H;rw [hy337];with_reducible exact H2_)|(have H2_:=(Option.bind_some _ _).symm.trans H;with_reducible exact H2_)|with_reducible exact H|(rw [hy337];exact H)|exact H
              have Ny337:=Aside0.mk hy337
              clear hy337
              by_cases c58:y315.length + y337.length < 5864062014805
              ·rw [if_pos c58] at H
               have LMc58:=Aside0.mk c58
               clear c58
               obtain ⟨y340,hy340⟩:∃ y_:List (List Int),y_ = (y315 ++ y337):=⟨_,rfl⟩
               replace H:(law26_DeltaForms.j1 kj7 a0 t291 y340) = some r:=by first|(rw [hy340];with_reducible exact H)|(have H2_:=(Option.bind_some _ _).symm.trans H;rw [hy340];with_reducible exact H2_)|(have H2_:=(Option.bind_some _ _).symm.trans H;with_reducible exact H2_)|with_reducible exact H|(rw [hy340];exact H)|exact H
               have Ny340:=Aside0.mk hy340
               clear hy340
               have H':=Aside0.mk H
               clear H
               try go_wp2_with (first|((with_reducible refine gate_builtin (b:=.append) (xs:=#[.const (.slice none 0 0),.tmp 80]) rfl ?_);(try (refine gate_guard (by rfl) ?_;dsimp only));at_builtin;refine Kd.R_append_rows (Kd.int .u8) (w0:=w) w.heap.size rfl (.const (.slice none 0 0)) (.tmp 80) 26 5 (.int .u8 0) 1 rfl Try.underlying26 info5 rfl (by decide) (by omega) (.slice none 0 0) ([]:List Int) t301 _ _ _ (fun k_=>(w.heap.size ≤ k_)) (fun _=>False) rfl rfl ?aO ?aR (fun _ _ h=>h) (fun _ h=>h.elim) ?aF ?aB ?aS ?aL ?_;(case aR=>repeat (first|exact (Kd.V_reads' HO_12.out).2.2|(with_reducible refine Kd.C_alloc ?_ _)|(with_reducible refine Kd.C_drewN ?_ _)|(with_reducible refine Kd.C_drew ?_)));(case aB=>exact (by repeat (first|(with_reducible first|exact HB.out|apply below_alloc|apply pw_below_drewN|apply below_drew1|refine below_set ?_ (IsS25.ge HI290.out))|exact HB.out)));(case aF=>exact (fun k_ hk=>(Nat.le_trans (below_size (by repeat (first|(with_reducible first|exact HB.out|apply below_alloc|apply pw_below_drewN|apply below_drew1|refine below_set ?_ (IsS25.ge HI290.out))|exact HB.out))) hk)));(case aO=>exact ((Kd.R_nil _ _ _ _ (fun k_=>(w.heap.size ≤ k_)))));(case aS=>exact (below_size (by repeat (first|(with_reducible first|exact HB.out|apply below_alloc|apply pw_below_drewN|apply below_drew1|refine below_set ?_ (IsS25.ge HI290.out))|exact HB.out))));(case aL=>have:=LMc35.out;omega);intro v319 w59 ho hb hg hat;rw [← Ny318.out] at ho;have n0_:=Aside0.mk (Kd.V_afterv (Kd.V_apart_nil (by (with_reducible repeat (first|apply Kd.V_alloc|apply Kd.V_drewN|apply Kd.V_drew));exact HO_1.out)) hg hat);have n1_:=Aside0.mk (Kd.V_afterv (Kd.V_apart_nil (by (with_reducible repeat (first|apply Kd.V_alloc|apply Kd.V_drewN|apply Kd.V_drew));exact HO_12.out)) hg hat);have n2_:=Aside0.mk (IsS25.grown (show IsS25 w _ gb290 l2 t311 from by repeat (first|(with_reducible first|exact HI290.out|apply IsS25.alloc|apply IsS25.drewN|apply IsS25.drew|apply IsS25.set_1)|exact HI290.out)) hg (by simp [Value.ownBlock]));have n3_:=Aside0.mk (Kd.N_afterv (Kd.N_apart_nil (by (with_reducible repeat (first|apply Kd.N_alloc|apply Kd.N_drewN|apply Kd.N_drew));exact HO317.out)) hg hat);have n4_:=Aside0.mk (hb);have n5_:=Aside0.mk (ho);clear HO_1;clear HO_12;clear HI290;clear HO317;clear HB;have HO_1:=n0_;have HO_12:=n1_;have HI290:=n2_;have HO317:=n3_;have HB:=n4_;have HO320:=n5_;clear n0_ n1_ n2_ n3_ n4_ n5_;clear ho hb hg hat))
               have n0_:=Aside0.mk (Kd.V_drew HO_1.out)
               have n1_:=Aside0.mk (Kd.V_drew HO_12.out)
               have n2_:=Aside0.mk (Kd.N_drew HO317.out)
               have n3_:=Aside0.mk (Kd.R_drew HO320.out)
               have n4_:=Aside0.mk (IsS25.drew HI290.out)
               have n5_:=Aside0.mk (below_drew1 HB.out)
               clear HO_1
               clear HO_12
               clear HO317
               clear HO320
               clear HI290
               clear HB
               have HO_1:=n0_
               have HO_12:=n1_
               have HO317:=n2_
               have HO320:=n3_
               have HI290:=n4_
               have HB:=n5_
               clear n0_ n1_ n2_ n3_ n4_ n5_
               have p323:0 ≤ (t321:Int):=of_decide_eq_true (by first|(with_reducible assumption)|assumption)
               have q323:t321 < (y318.length:Int):=of_decide_eq_true (by first|(with_reducible assumption)|assumption)
               obtain ⟨Aq_,cq_,eq_⟩:=Kd.R_slice HO320.out
               subst eq_
               obtain ⟨ad323,e323,hx323_0⟩:=Kd.at_int (Kd.R_reads' HO320.out).2.2 t321 p323 q323
               cases e323
               replace p323:=eq_true p323
               replace q323:=eq_true q323
               refine start_ (n:=13) (S:=fun w'=>w'.cell? (ad323.add (t321).toNat) = some (.int .u8 (rd y318 t321))) (ds:=[12]) #[false,false,false,false,false,false,false,false,false,false,false,false,false] (by kernel_rfl) rfl rfl (hx323_0) (fun hHeld=>?_);refine with_tabW law26_DeltaForms.tab11 law26_DeltaForms.bits11 (fun HT_ HW_=>?_)
               generalize w59.drew = w60 at HO_1 HO_12 HO317 HO320 HI290 HB hx323_0 hHeld ⊢
               refine pure_ (i:=0) (N:=some 82) (v:=?_) (a':=?_) #[true,false,false,false,false,false,false,false,false,false,false,false,false] rfl rfl (any_of HT_.out (by kernel_rfl)) (fun _ _ _ h=>h) (Or.inl ⟨by rfl,?_⟩) ?_ ?_
               rotate_left
               ·intro w'
                go_simp
                with_reducible rfl
               rotate_left
               ·simp only [Act.put,List.setIfInBounds_toArray,List.set_cons_zero,List.set_cons_succ,i64_w,i32_w]
                rfl
               refine pure_ (i:=1) (N:=some 83) (v:=?_) (a':=?_) #[true,true,false,false,false,false,false,false,false,false,false,false,false] rfl rfl (any_of HT_.out (by kernel_rfl)) (fun _ _ _ h=>h) (Or.inl ⟨by rfl,?_⟩) ?_ ?_
               rotate_left
               ·intro w'
                go_simp
                with_reducible rfl
               rotate_left
               ·simp only [Act.put,List.setIfInBounds_toArray,List.set_cons_zero,List.set_cons_succ,i64_w,i32_w]
                rfl
               refine pure_ (i:=2) (N:=some 84) (v:=?_) (a':=?_) #[true,true,true,false,false,false,false,false,false,false,false,false,false] rfl rfl (any_of HT_.out (by kernel_rfl)) (fun _ _ _ h=>h) (Or.inl ⟨by rfl,?_⟩) ?_ ?_
               rotate_left
               ·intro w'
                go_simp
                with_reducible rfl
               rotate_left
               ·simp only [Act.put,List.setIfInBounds_toArray,List.set_cons_zero,List.set_cons_succ,i64_w,i32_w]
                rfl
               refine pure_ (i:=3) (N:=some 85) (v:=?_) (a':=?_) #[true,true,true,true,false,false,false,false,false,false,false,false,false] rfl rfl (any_of HT_.out (by kernel_rfl)) (fun _ _ _ h=>h) (Or.inl ⟨by rfl,?_⟩) ?_ ?_
               rotate_left
               ·intro w'
                go_simp
                with_reducible rfl
               rotate_left
               ·simp only [Act.put,List.setIfInBounds_toArray,List.set_cons_zero,List.set_cons_succ,i64_w,i32_w]
                rfl
               refine pure_ (i:=7) (N:=some 89) (v:=?_) (a':=?_) #[true,true,true,true,false,false,false,true,false,false,false,false,false] rfl rfl (any_of HT_.out (by kernel_rfl)) (fun _ _ _ h=>h) (Or.inl ⟨by rfl,?_⟩) ?_ ?_
               rotate_left
               ·intro w'
                go_simp
                with_reducible rfl
               rotate_left
               ·simp only [Act.put,List.setIfInBounds_toArray,List.set_cons_zero,List.set_cons_succ,i64_w,i32_w]
                rfl
               refine one_ (i:=4) (N:=some 86) #[true,true,true,true,true,false,false,true,false,false,false,false,false] rfl rfl (one_of HT_.out (by kernel_rfl)) (by decide) (fun K hK=>?_)
               refine goes_ Try.func16 (by kernel_rfl) rfl #[.pointer (some ⟨gb290,0,none⟩),.int .i64 (t301.length:Int)] (by rfl) rfl rfl (by (try simp only [List.map_toArray,List.map_cons,List.map_nil]);first|done|rfl|(simp only [List.length_drop,List.length_take];rfl)) ?_
               with_reducible refine (make_Tape_Next.calls gb290 l2 t311 (t301.length:Int) t321 t322 w _ ?side1 ?side2 A47.out).mono ?_
               (case side1=>repeat (first|(with_reducible first|exact HI290.out|apply IsS25.alloc|apply IsS25.drewN|apply IsS25.drew|apply IsS25.set_1)|exact HI290.out))
               (case side2=>repeat (first|(with_reducible first|exact HB.out|apply below_alloc|apply pw_below_drewN|apply below_drew1|refine below_set ?_ (IsS25.ge HI290.out))|exact HB.out))
               rintro e w61 ⟨rfl,hi,hb,hk⟩
               have HS0_:=keep_cell hk (hHeld) (by first|(rw [add_block];exact Kd.own_blk (IsS25.own_ne HI290.out HO320.out (by decide)))|(show (Addr.add _ _).block ≠ _;rw [add_block];exact Kd.own_blk (IsS25.own_ne HI290.out HO320.out (by decide)))|exact Kd.own_blk (IsS25.own_ne HI290.out HO320.out (by decide)))
               refine ⟨_,rfl,?_⟩
               have n0_:=Aside0.mk (Kd.V_mono (Kd.V_keep (Kd.V_mono (ok:=fun k_=>((((((P1_ k_ ∨ w.heap.size ≤ k_)) ∧ k_ ≠ gb290) ∧ some k_ ≠ ((.slice Ao43 y312.length co43):Value).ownBlock) ∧ some k_ ≠ (v316:Value).ownBlock) ∧ some k_ ≠ ((.slice (some ad323) y318.length cq_):Value).ownBlock)) (by (with_reducible repeat (first|apply Kd.V_alloc|apply Kd.V_drewN|apply Kd.V_drew));exact HO_1.out) (fun k_ hk_=>(⟨hk_,hk_.1.1.1.2⟩:_ ∧ k_ ≠ gb290))) hk (fun _ h=>h.2)) (fun _ h=>h.1))
               have n1_:=Aside0.mk (Kd.V_mono (Kd.V_keep (Kd.V_mono (ok:=fun k_=>((((((P1_ k_ ∨ w.heap.size ≤ k_)) ∧ k_ ≠ gb290) ∧ some k_ ≠ ((.slice Ao43 y312.length co43):Value).ownBlock) ∧ some k_ ≠ (v316:Value).ownBlock) ∧ some k_ ≠ ((.slice (some ad323) y318.length cq_):Value).ownBlock)) (by (with_reducible repeat (first|apply Kd.V_alloc|apply Kd.V_drewN|apply Kd.V_drew));exact HO_12.out) (fun k_ hk_=>(⟨hk_,hk_.1.1.1.2⟩:_ ∧ k_ ≠ gb290))) hk (fun _ h=>h.2)) (fun _ h=>h.1))
               have n2_:=Aside0.mk (Kd.N_mono (Kd.N_keep (Kd.N_mono (ok:=fun k_=>((((P1_ k_ ∨ w.heap.size ≤ k_)) ∧ k_ ≠ gb290) ∧ some k_ ≠ ((.slice (some ad323) y318.length cq_):Value).ownBlock)) (by (with_reducible repeat (first|apply Kd.N_alloc|apply Kd.N_drewN|apply Kd.N_drew));exact HO317.out) (fun k_ hk_=>(⟨hk_,hk_.1.2⟩:_ ∧ k_ ≠ gb290))) hk (fun _ h=>h.2)) (fun _ h=>h.1))
               have n3_:=Aside0.mk (Kd.R_mono (Kd.R_keep (IsS25.apart (show IsS25 w _ gb290 l2 t311 from by repeat (first|(with_reducible first|exact HI290.out|apply IsS25.alloc|apply IsS25.drewN|apply IsS25.drew|apply IsS25.set_1)|exact HI290.out)) (by (with_reducible repeat (first|apply Kd.R_alloc|apply Kd.R_drewN|apply Kd.R_drew));exact HO320.out) (by decide)) hk (fun _ h=>h.2)) (fun _ h=>h.1))
               have n4_:=Aside0.mk (hb)
               have n5_:=Aside0.mk (hi)
               clear HO_1
               clear HO_12
               clear HO317
               clear HO320
               clear HB
               clear HI290
               have HO_1:=n0_
               have HO_12:=n1_
               have HO317:=n2_
               have HO320:=n3_
               have HB:=n4_
               have HI290:=n5_
               clear n0_ n1_ n2_ n3_ n4_ n5_
               (try clear hb)
               (try clear hb2)
               (try clear hk)
               (try clear hi)
               obtain ⟨Ao62,co62,eo62⟩:=Kd.R_slice HO320.out
               (first|subst eo62|(injection eo62 with f1_ f2_ f3_;have f4_:=f1_.symm;have f5_:=f3_.symm;clear f1_ f2_ f3_;subst f4_;subst f5_))
               refine hK.out _ _ (HS0_) (fun hHeld=>?_)
               clear hK K
               refine norm_ (a':=?_) ?_ ?_
               rotate_left
               ·show Act.put _ (some 86) _ = _
                simp only [Act.put,List.setIfInBounds_toArray,List.set_cons_zero,List.set_cons_succ,i64_w,i32_w]
                rfl
               refine pure_ (i:=5) (N:=some 87) (v:=?_) (a':=?_) #[true,true,true,true,true,true,false,true,false,false,false,false,false] rfl rfl (any_of HT_.out (by kernel_rfl)) (fun _ _ _ h=>h) (Or.inl ⟨by rfl,?_⟩) ?_ ?_
               rotate_left
               ·intro w'
                go_simp
                with_reducible rfl
               rotate_left
               ·simp only [Act.put,List.setIfInBounds_toArray,List.set_cons_zero,List.set_cons_succ,i64_w,i32_w]
                rfl
               refine take_ (i:=6) (N:=some 88) (v:=?_) (a':=?_) #[true,true,true,true,true,true,true,true,false,false,false,false,false] rfl rfl (take_ofW HT_.out HW_.out (by kernel_rfl)) (fun _ _ _ h=>h) (Or.inl ⟨by rfl,?_⟩) hHeld ?_ ?_
               rotate_left
               ·intro w' s0
                go_simp
                with_reducible rfl
               rotate_left
               ·simp only [Act.put,List.setIfInBounds_toArray,List.set_cons_zero,List.set_cons_succ,i64_w,i32_w]
                rfl
               refine one_ (i:=8) (N:=some 90) #[true,true,true,true,true,true,true,true,true,false,false,false,false] rfl rfl (one_of HT_.out (by kernel_rfl)) (by decide) (fun K hK=>?_)
               refine goes_ Try.func16 (by kernel_rfl) rfl #[.pointer (some ⟨gb290,0,none⟩),.int .i64 8] (by rfl) rfl rfl (by (try simp only [List.map_toArray,List.map_cons,List.map_nil]);first|done|rfl|(simp only [List.length_drop,List.length_take];rfl)) ?_
               with_reducible refine (make_Tape_Next.calls gb290 l2 t322 8 t324 t325 w _ ?side1 ?side2 A50.out).mono ?_
               (case side1=>repeat (first|(with_reducible first|exact HI290.out|apply IsS25.alloc|apply IsS25.drewN|apply IsS25.drew|apply IsS25.set_1)|exact HI290.out))
               (case side2=>repeat (first|(with_reducible first|exact HB.out|apply below_alloc|apply pw_below_drewN|apply below_drew1|refine below_set ?_ (IsS25.ge HI290.out))|exact HB.out))
               rintro e w63 ⟨rfl,hi,hb,hk⟩
               have HS0_:=keep_cell hk (hHeld) (by first|(rw [add_block];exact Kd.own_blk (IsS25.own_ne HI290.out HO320.out (by decide)))|(show (Addr.add _ _).block ≠ _;rw [add_block];exact Kd.own_blk (IsS25.own_ne HI290.out HO320.out (by decide)))|exact Kd.own_blk (IsS25.own_ne HI290.out HO320.out (by decide)))
               refine ⟨_,rfl,?_⟩
               have n0_:=Aside0.mk (Kd.V_mono (Kd.V_keep (Kd.V_mono (ok:=fun k_=>((((((P1_ k_ ∨ w.heap.size ≤ k_)) ∧ k_ ≠ gb290) ∧ some k_ ≠ ((.slice Ao43 y312.length co43):Value).ownBlock) ∧ some k_ ≠ (v316:Value).ownBlock) ∧ some k_ ≠ (.slice (some ad323) y318.length co62:Value).ownBlock)) (by (with_reducible repeat (first|apply Kd.V_alloc|apply Kd.V_drewN|apply Kd.V_drew));exact HO_1.out) (fun k_ hk_=>(⟨hk_,hk_.1.1.1.2⟩:_ ∧ k_ ≠ gb290))) hk (fun _ h=>h.2)) (fun _ h=>h.1))
               have n1_:=Aside0.mk (Kd.V_mono (Kd.V_keep (Kd.V_mono (ok:=fun k_=>((((((P1_ k_ ∨ w.heap.size ≤ k_)) ∧ k_ ≠ gb290) ∧ some k_ ≠ ((.slice Ao43 y312.length co43):Value).ownBlock) ∧ some k_ ≠ (v316:Value).ownBlock) ∧ some k_ ≠ (.slice (some ad323) y318.length co62:Value).ownBlock)) (by (with_reducible repeat (first|apply Kd.V_alloc|apply Kd.V_drewN|apply Kd.V_drew));exact HO_12.out) (fun k_ hk_=>(⟨hk_,hk_.1.1.1.2⟩:_ ∧ k_ ≠ gb290))) hk (fun _ h=>h.2)) (fun _ h=>h.1))
               have n2_:=Aside0.mk (Kd.N_mono (Kd.N_keep (Kd.N_mono (ok:=fun k_=>((((P1_ k_ ∨ w.heap.size ≤ k_)) ∧ k_ ≠ gb290) ∧ some k_ ≠ (.slice (some ad323) y318.length co62:Value).ownBlock)) (by (with_reducible repeat (first|apply Kd.N_alloc|apply Kd.N_drewN|apply Kd.N_drew));exact HO317.out) (fun k_ hk_=>(⟨hk_,hk_.1.2⟩:_ ∧ k_ ≠ gb290))) hk (fun _ h=>h.2)) (fun _ h=>h.1))
               have n3_:=Aside0.mk (Kd.R_mono (Kd.R_keep (IsS25.apart (show IsS25 w _ gb290 l2 t322 from by repeat (first|(with_reducible first|exact HI290.out|apply IsS25.alloc|apply IsS25.drewN|apply IsS25.drew|apply IsS25.set_1)|exact HI290.out)) (by (with_reducible repeat (first|apply Kd.R_alloc|apply Kd.R_drewN|apply Kd.R_drew));exact HO320.out) (by decide)) hk (fun _ h=>h.2)) (fun _ h=>h.1))
               have n4_:=Aside0.mk (hb)
               have n5_:=Aside0.mk (hi)
               clear HO_1
               clear HO_12
               clear HO317
               clear HO320
               clear HB
               clear HI290
               have HO_1:=n0_
               have HO_12:=n1_
               have HO317:=n2_
               have HO320:=n3_
               have HB:=n4_
               have HI290:=n5_
               clear n0_ n1_ n2_ n3_ n4_ n5_
               (try clear hb)
               (try clear hb2)
               (try clear hk)
               (try clear hi)
               have p53:0 ≤ (t321:Int):=of_decide_eq_true (by first|(with_reducible assumption)|assumption)
               have q53:(t321:Int) < ((y318.length:Int):Int):=of_decide_eq_true (by first|(with_reducible assumption)|assumption)
               obtain ⟨go53,co53,eo53,gb53,gl53,cl53,HG53⟩:=Kd.R_form HO320.out (by omega)
               (first|cases eo53|(injection eo53 with ea_ en_ ec_;(first|subst ea_|(injection ea_ with ea_;subst ea_));subst ec_;clear en_))
               have GB53:=Aside0.mk gb53
               have GG53:=Aside0.mk HG53
               clear gb53 gl53 HG53
               (first|simp only [add_plain] at hx323_0|skip)
               obtain ⟨hx53_0,hf53_0⟩:=Kd.R_celln 0 HO320.out (t321:Int) p53 q53
               replace p53:=eq_true p53
               replace q53:=eq_true q53
               have HN290_go53:=Aside0.mk (show gb290 ≠ go53 from by have h_:=IsS25.own_ne HI290.out HO320.out (by decide);intro e_;exact h_ (by rw [e_];rfl))
               have HP64:=Kd.R_putn HO320.out (t321:Int) (Go.bits .xor .u8 (rd y318 t321) (ji52))
               rw [← Ny326.out] at HP64
               have HQ64:=Aside0.mk HP64
               clear HP64
               refine hK.out _ _ (HS0_) (fun hHeld=>?_)
               clear hK K
               refine norm_ (a':=?_) ?_ ?_
               rotate_left
               ·show Act.put _ (some 90) _ = _
                simp only [Act.put,List.setIfInBounds_toArray,List.set_cons_zero,List.set_cons_succ,i64_w,i32_w]
                rfl
               refine pure_ (i:=9) (N:=some 91) (v:=?_) (a':=?_) #[true,true,true,true,true,true,true,true,true,true,false,false,false] rfl rfl (any_of HT_.out (by kernel_rfl)) (fun _ _ _ h=>h) (Or.inl ⟨by rfl,?_⟩) ?_ ?_
               rotate_left
               ·intro w'
                go_simp
                with_reducible rfl
               rotate_left
               ·simp only [Act.put,List.setIfInBounds_toArray,List.set_cons_zero,List.set_cons_succ,i64_w,i32_w]
                rfl
               refine pure_ (i:=10) (N:=some 92) (v:=?_) (a':=?_) #[true,true,true,true,true,true,true,true,true,true,true,false,false] rfl rfl (any_of HT_.out (by kernel_rfl)) (fun _ _ _ h=>h) (Or.inl ⟨by rfl,?_⟩) ?_ ?_
               rotate_left
               ·intro w'
                go_simp
                with_reducible rfl
               rotate_left
               ·simp only [Act.put,List.setIfInBounds_toArray,List.set_cons_zero,List.set_cons_succ,i64_w,i32_w]
                rfl
               refine pure_ (i:=11) (N:=some 93) (v:=?_) (a':=?_) #[true,true,true,true,true,true,true,true,true,true,true,true,false] rfl rfl (any_of HT_.out (by kernel_rfl)) (fun _ _ _ h=>h) (Or.inl ⟨by rfl,?_⟩) ?_ ?_
               rotate_left
               ·intro w'
                go_simp
                with_reducible rfl
               rotate_left
               ·simp only [Act.put,List.setIfInBounds_toArray,List.set_cons_zero,List.set_cons_succ,i64_w,i32_w]
                rfl
               refine last_ (i:=12) (N:=none) #[true,true,true,true,true,true,true,true,true,true,true,true,true] rfl rfl (one_of HT_.out (by kernel_rfl)) (by decide) (fun K hK=>?_)
               refine skip_ (w1:=?_) (by rfl) rfl ?_ ?_
               rotate_left
               ·go_simp
                rfl
               refine hK.out _ _ ?_
               clear hK K
               refine done_ (done_of HT_.out (by kernel_rfl)) ?_
               try go_wp2_with (first|((with_reducible refine gate_callee (f:=16) rfl ?_);refine goesL_ (some 100) rfl rfl Try.func16 (by kernel_rfl) rfl #[.pointer (some ⟨gb290,0,none⟩),.int .i64 (t301.length:Int)] rfl (by (try simp only [List.map_toArray,List.map_cons,List.map_nil]);first|done|rfl|(simp only [List.length_drop,List.length_take];rfl)) ?_;(with_reducible refine (make_Tape_Next.calls gb290 l2 t325 (t301.length:Int) t327 t328 w _ ?side1 ?side2 A54.out).mono ?_);(case side1=>repeat (first|(with_reducible first|exact HI290.out|apply IsS25.alloc|apply IsS25.drewN|apply IsS25.drew|apply IsS25.set_1|refine IsS25.far ?_ HN290_go53.out _)|refine IsS25.far ?_ HN290_go53.out _|exact HI290.out));(case side2=>repeat (first|(with_reducible first|exact HB.out|apply below_alloc|apply pw_below_drewN|apply below_drew1|refine below_set ?_ GB53.out|refine below_set ?_ (IsS25.ge HI290.out))|exact HB.out));rintro e w65 ⟨rfl,hi,hb,hk⟩;refine ⟨_,rfl,?_⟩;have n0_:=Aside0.mk (Kd.V_mono (Kd.V_keep (Kd.V_mono (ok:=fun k_=>((((((P1_ k_ ∨ w.heap.size ≤ k_)) ∧ k_ ≠ gb290) ∧ some k_ ≠ ((.slice Ao43 y312.length co43):Value).ownBlock) ∧ some k_ ≠ (v316:Value).ownBlock) ∧ some k_ ≠ (.slice (some ⟨go53,0,none⟩) y318.length co62:Value).ownBlock)) (by (with_reducible repeat (first|apply Kd.V_alloc|apply Kd.V_drewN|apply Kd.V_drew));exact (Kd.V_mono (Kd.V_far (p:=⟨go53,(t321:Int).toNat,none⟩) (Kd.V_mono HO_1.out (fun k_ hk=>(⟨hk,fun e_=>hk.2 (by rw [e_];rfl)⟩:_ ∧ k_ ≠ go53))) (fun _ hk=>hk.2) (.int .u8 (Go.bits .xor .u8 (rd y318 t321) (ji52)))) (fun _ h_=>h_.1))) (fun k_ hk_=>(⟨hk_,hk_.1.1.1.2⟩:_ ∧ k_ ≠ gb290))) hk (fun _ h=>h.2)) (fun _ h=>h.1));have n1_:=Aside0.mk (Kd.V_mono (Kd.V_keep (Kd.V_mono (ok:=fun k_=>((((((P1_ k_ ∨ w.heap.size ≤ k_)) ∧ k_ ≠ gb290) ∧ some k_ ≠ ((.slice Ao43 y312.length co43):Value).ownBlock) ∧ some k_ ≠ (v316:Value).ownBlock) ∧ some k_ ≠ (.slice (some ⟨go53,0,none⟩) y318.length co62:Value).ownBlock)) (by (with_reducible repeat (first|apply Kd.V_alloc|apply Kd.V_drewN|apply Kd.V_drew));exact (Kd.V_mono (Kd.V_far (p:=⟨go53,(t321:Int).toNat,none⟩) (Kd.V_mono HO_12.out (fun k_ hk=>(⟨hk,fun e_=>hk.2 (by rw [e_];rfl)⟩:_ ∧ k_ ≠ go53))) (fun _ hk=>hk.2) (.int .u8 (Go.bits .xor .u8 (rd y318 t321) (ji52)))) (fun _ h_=>h_.1))) (fun k_ hk_=>(⟨hk_,hk_.1.1.1.2⟩:_ ∧ k_ ≠ gb290))) hk (fun _ h=>h.2)) (fun _ h=>h.1));have n2_:=Aside0.mk (Kd.N_mono (Kd.N_keep (Kd.N_mono (ok:=fun k_=>((((P1_ k_ ∨ w.heap.size ≤ k_)) ∧ k_ ≠ gb290) ∧ some k_ ≠ (.slice (some ⟨go53,0,none⟩) y318.length co62:Value).ownBlock)) (by (with_reducible repeat (first|apply Kd.N_alloc|apply Kd.N_drewN|apply Kd.N_drew));exact (Kd.N_mono (Kd.N_far (p:=⟨go53,(t321:Int).toNat,none⟩) (Kd.N_mono HO317.out (fun k_ hk=>(⟨hk,fun e_=>hk.2 (by rw [e_];rfl)⟩:_ ∧ k_ ≠ go53))) (fun _ hk=>hk.2) (.int .u8 (Go.bits .xor .u8 (rd y318 t321) (ji52)))) (fun _ h_=>h_.1))) (fun k_ hk_=>(⟨hk_,hk_.1.2⟩:_ ∧ k_ ≠ gb290))) hk (fun _ h=>h.2)) (fun _ h=>h.1));have n3_:=Aside0.mk (Kd.R_mono (Kd.R_keep (IsS25.apart (show IsS25 w _ gb290 l2 t325 from by repeat (first|(with_reducible first|exact HI290.out|apply IsS25.alloc|apply IsS25.drewN|apply IsS25.drew|apply IsS25.set_1|refine IsS25.far ?_ HN290_go53.out _)|refine IsS25.far ?_ HN290_go53.out _|exact HI290.out)) (by (with_reducible repeat (first|apply Kd.R_alloc|apply Kd.R_drewN|apply Kd.R_drew));exact HQ64.out) (by decide)) hk (fun _ h=>h.2)) (fun _ h=>h.1));have n4_:=Aside0.mk (hb);have n5_:=Aside0.mk (hi);clear HO_1;clear HO_12;clear HO317;clear HO320;clear HB;clear HI290;have HO_1:=n0_;have HO_12:=n1_;have HO317:=n2_;have HO320:=n3_;have HB:=n4_;have HI290:=n5_;clear n0_ n1_ n2_ n3_ n4_ n5_;(try clear hb);(try clear hb2);(try clear hk);(try clear hi);have q66:(t327:Int) ≤ ((t301.length:Int):Int):=of_decide_eq_true (by first|(with_reducible assumption)|assumption);obtain ⟨i066,hi066,_,hsz66,_⟩:=info_parts info5;have hroom66:t301.length ≤ co40:=(Kd.V_reads' HO_12.out).2.1;have hC66:Kd.F (Kd.int .u8) _ _ Ao40 t301.length t301:=(Kd.V_at (base:=w.heap.size) HO_12.out).2.2;have hcut66:=cut_to (P:=Try.prog) 26 5 .i64 Try.underlying26 hi066 Ao40 t301.length co40 t327 (of_decide_eq_true (by first|(with_reducible assumption)|assumption)) q66 hroom66;have hr66:=Kd.F_take (m:=(t327:Int).toNat) hC66 (by omega);have hy66:y329.length = (t327:Int).toNat:=(by rw [Ny329.out,List.length_take];omega);rw [← Ny329.out] at hr66;rw [← hy66] at hcut66;have HO333:=Aside0.mk (show Kd.V (Kd.int .u8) 5 _ w.heap.size _ (.slice Ao40 y329.length co40) y329 from Kd.V_mk (by omega) hr66);have HC333:=Aside0.mk (show y329.length ≤ co40 from by omega);clear hr66 hC66 hroom66 hi066 hsz66;have KY66:=Aside0.mk hy66;clear hy66;replace q66:=eq_true q66)|((with_reducible refine gate_builtin (b:=.append) (xs:=#[.const (.slice none 0 0),.tmp 101]) rfl ?_);(try (refine gate_guard (by rfl) ?_;dsimp only));at_builtin;refine Kd.R_append_rows (Kd.int .u8) (w0:=w) w.heap.size rfl (.const (.slice none 0 0)) (.tmp 101) 26 5 (.int .u8 0) 1 rfl Try.underlying26 info5 rfl (by decide) (by omega) (.slice none 0 0) ([]:List Int) y329 _ _ _ (fun k_=>(w.heap.size ≤ k_) ∧ some k_ ≠ (.slice (some ⟨go53,0,none⟩) y318.length co62:Value).ownBlock) (fun _=>False) rfl rfl ?aO ?aR (fun _ _ h=>h) (fun _ h=>h.elim) ?aF ?aB ?aS ?aL ?_;(case aR=>repeat (first|exact (Kd.V_reads' HO333.out).2.2|(with_reducible refine Kd.C_alloc ?_ _)|(with_reducible refine Kd.C_drewN ?_ _)|(with_reducible refine Kd.C_drew ?_)));(case aB=>exact (by repeat (first|(with_reducible first|exact HB.out|apply below_alloc|apply pw_below_drewN|apply below_drew1|refine below_set ?_ (IsS25.ge HI290.out))|exact HB.out)));(case aF=>exact (fun k_ hk=>⟨(Nat.le_trans (below_size (by repeat (first|(with_reducible first|exact HB.out|apply below_alloc|apply pw_below_drewN|apply below_drew1|refine below_set ?_ (IsS25.ge HI290.out))|exact HB.out))) hk),Kd.fresh' (Kd.R_lt (by (with_reducible repeat (first|apply Kd.R_alloc|apply Kd.R_drewN|apply Kd.R_drew));exact HO320.out)) k_ hk⟩));(case aO=>exact ((Kd.R_nil _ _ _ _ (fun k_=>(w.heap.size ≤ k_) ∧ some k_ ≠ (.slice (some ⟨go53,0,none⟩) y318.length co62:Value).ownBlock))));(case aS=>exact (below_size (by repeat (first|(with_reducible first|exact HB.out|apply below_alloc|apply pw_below_drewN|apply below_drew1|refine below_set ?_ (IsS25.ge HI290.out))|exact HB.out))));(case aL=>have:=LMc57.out;omega);intro v335 w67 ho hb hg hat;rw [← Ny334.out] at ho;have n0_:=Aside0.mk (Kd.V_afterv (Kd.V_apart_nil (by (with_reducible repeat (first|apply Kd.V_alloc|apply Kd.V_drewN|apply Kd.V_drew));exact HO_1.out)) hg hat);have n1_:=Aside0.mk (Kd.V_afterv (Kd.V_apart_nil (by (with_reducible repeat (first|apply Kd.V_alloc|apply Kd.V_drewN|apply Kd.V_drew));exact HO_12.out)) hg hat);have n2_:=Aside0.mk (IsS25.grown (show IsS25 w _ gb290 l2 t328 from by repeat (first|(with_reducible first|exact HI290.out|apply IsS25.alloc|apply IsS25.drewN|apply IsS25.drew|apply IsS25.set_1)|exact HI290.out)) hg (by simp [Value.ownBlock]));have n3_:=Aside0.mk (Kd.N_afterv (Kd.N_apart_nil (by (with_reducible repeat (first|apply Kd.N_alloc|apply Kd.N_drewN|apply Kd.N_drew));exact HO317.out)) hg hat);have n4_:=Aside0.mk (Kd.R_after (Kd.R_apart_nil (by (with_reducible repeat (first|apply Kd.R_alloc|apply Kd.R_drewN|apply Kd.R_drew));exact HO320.out)) hg hat);have n5_:=Aside0.mk (Kd.V_afterv (Kd.V_apart_nil (by (with_reducible repeat (first|apply Kd.V_alloc|apply Kd.V_drewN|apply Kd.V_drew));exact HO333.out)) hg hat);have n6_:=Aside0.mk (hb);have n7_:=Aside0.mk (ho);clear HO_1;clear HO_12;clear HI290;clear HO317;clear HO320;clear HO333;clear HB;have HO_1:=n0_;have HO_12:=n1_;have HI290:=n2_;have HO317:=n3_;have HO320:=n4_;have HO333:=n5_;have HB:=n6_;have HO336:=n7_;clear n0_ n1_ n2_ n3_ n4_ n5_ n6_ n7_;clear ho hb hg hat;obtain ⟨Ao68,co68,eo68⟩:=Kd.R_slice HO336.out;subst eo68)|((with_reducible refine gate_dst (N:=103) rfl ?_);(try (refine gate_guard (by rfl) ?_;dsimp only));refine Kd.N_lit (Kd.slice 5 (Kd.int .u8)) _ 26 ?hg (N':=103) ?hd (xs:=([y326,y334]:List (List Int))) (inner:=[.slice (some ⟨go53,0,none⟩) y318.length co62,.slice Ao68 y334.length co68]) (ok:=(fun k_=>(P1_ k_ ∨ w.heap.size ≤ k_) ∧ some k_ ≠ (v316:Value).ownBlock ∧ k_ ≠ gb290)) (okp:=(fun k_=>(P1_ k_ ∨ w.heap.size ≤ k_) ∧ some k_ ≠ (v316:Value).ownBlock ∧ k_ ≠ gb290)) ?hr ?hp (fun _ hk=>hk) ((show ∀ k_,w67.heap.size ≤ k_ → (fun k_=>(P1_ k_ ∨ w.heap.size ≤ k_) ∧ some k_ ≠ (v316:Value).ownBlock ∧ k_ ≠ gb290) k_ from fun k_ hk=>⟨(.inr (Nat.le_trans (below_size (by repeat (first|(with_reducible first|exact HB.out|apply below_alloc|apply pw_below_drewN|apply below_drew1|refine below_set ?_ (IsS25.ge HI290.out))|exact HB.out))) hk)),Kd.fresh' (Kd.N_lt (by (with_reducible repeat (first|apply Kd.N_alloc|apply Kd.N_drewN|apply Kd.N_drew));exact HO317.out)) k_ hk,IsS25.fresh (by repeat (first|(with_reducible first|exact HI290.out|apply IsS25.alloc|apply IsS25.drewN|apply IsS25.drew|apply IsS25.set_1)|exact HI290.out)) k_ hk⟩) _ (Nat.le_refl _)) (Below.refl _ _) (Nat.le_refl _) (by simp) ?_;(case hd=>rfl);(case hg=>rfl);(case hr=>first|(go_simp;done)|(go_simp;rfl));(case hp=>exact (Reps.one (show Kd.FK (Kd.slice 5 (Kd.int .u8)) _ _ y326 [.slice (some ⟨go53,0,none⟩) y318.length co62] from (by have hl_:=(Kd.R_reads' HO320.out).1;have hs_:=HO320.out;rw [hl_] at hs_ ⊢;exact (Kd.FK_slice_mk (Kd.R_reads' (Kd.R_mono (ok':=(fun k_=>(P1_ k_ ∨ w.heap.size ≤ k_) ∧ some k_ ≠ (v316:Value).ownBlock ∧ k_ ≠ gb290)) (IsS25.apart HI290.out (Kd.R_apart' (hs_) (Kd.N_typed HO317.out) (by decide)) (by decide)) (fun k_ hk=>⟨(.inr (hk.1.1.1)),⟨hk.1.2,hk.2⟩⟩))).2.1 (Kd.R_F (Kd.R_mono (ok':=(fun k_=>(P1_ k_ ∨ w.heap.size ≤ k_) ∧ some k_ ≠ (v316:Value).ownBlock ∧ k_ ≠ gb290)) (IsS25.apart HI290.out (Kd.R_apart' (hs_) (Kd.N_typed HO317.out) (by decide)) (by decide)) (fun k_ hk=>⟨(.inr (hk.1.1.1)),⟨hk.1.2,hk.2⟩⟩)))))) (Reps.one (show Kd.FK (Kd.slice 5 (Kd.int .u8)) _ _ y334 [.slice Ao68 y334.length co68] from (Kd.FK_slice_mk (Kd.R_reads' (Kd.R_mono (ok':=(fun k_=>(P1_ k_ ∨ w.heap.size ≤ k_) ∧ some k_ ≠ (v316:Value).ownBlock ∧ k_ ≠ gb290)) (IsS25.apart HI290.out (Kd.R_apart' (HO336.out) (Kd.N_typed HO317.out) (by decide)) (by decide)) (fun k_ hk=>⟨(.inr (hk.1.1.1)),⟨hk.1.2,hk.2⟩⟩))).2.1 (Kd.R_F (Kd.R_mono (ok':=(fun k_=>(P1_ k_ ∨ w.heap.size ≤ k_) ∧ some k_ ≠ (v316:Value).ownBlock ∧ k_ ≠ gb290)) (IsS25.apart HI290.out (Kd.R_apart' (HO336.out) (Kd.N_typed HO317.out) (by decide)) (by decide)) (fun k_ hk=>⟨(.inr (hk.1.1.1)),⟨hk.1.2,hk.2⟩⟩))))) (Reps.none _ _))));intro v338 w69 ho70 hb hg_ hnew_;clear hg_ hnew_;(first|rw [← Ny337.out] at ho70|(simp only [Int.reduceToNat] at ho70;rw [← Ny337.out] at ho70));have n0_:=Aside0.mk (Kd.V_elder' (by (with_reducible repeat (first|apply Kd.V_alloc|apply Kd.V_drewN|apply Kd.V_drew));exact HO_1.out) (by first|exact Kd.N_base ho70|exact Kd.S_base ho70) hb);have n1_:=Aside0.mk (Kd.V_elder' (by (with_reducible repeat (first|apply Kd.V_alloc|apply Kd.V_drewN|apply Kd.V_drew));exact HO_12.out) (by first|exact Kd.N_base ho70|exact Kd.S_base ho70) hb);have n2_:=Aside0.mk (Kd.N_elder' (by (with_reducible repeat (first|apply Kd.N_alloc|apply Kd.N_drewN|apply Kd.N_drew));exact HO317.out) (by first|exact Kd.N_base ho70|exact Kd.S_base ho70) hb);have n3_:=Aside0.mk (Kd.V_elder' (by (with_reducible repeat (first|apply Kd.V_alloc|apply Kd.V_drewN|apply Kd.V_drew));exact HO333.out) (by first|exact Kd.N_base ho70|exact Kd.S_base ho70) hb);have n4_:=Aside0.mk (Kd.N_lower ho70 (below_size (by repeat (first|(with_reducible first|exact HB.out|apply below_alloc|apply pw_below_drewN|apply below_drew1|refine below_set ?_ (IsS25.ge HI290.out))|exact HB.out))));have n5_:=Aside0.mk (IsS25.below (by repeat (first|(with_reducible first|exact HI290.out|apply IsS25.alloc|apply IsS25.drewN|apply IsS25.drew|apply IsS25.set_1)|exact HI290.out)) hb);have n6_:=Aside0.mk (below_step (by repeat (first|(with_reducible first|exact HB.out|apply below_alloc|apply pw_below_drewN|apply below_drew1|refine below_set ?_ (IsS25.ge HI290.out))|exact HB.out)) hb);clear HO_1;clear HO_12;clear HO317;clear HO333;clear HI290;clear HB;clear HO320;clear HO336;have HO_1:=n0_;have HO_12:=n1_;have HO317:=n2_;have HO333:=n3_;have HO339:=n4_;have HI290:=n5_;have HB:=n6_;clear n0_ n1_ n2_ n3_ n4_ n5_ n6_;clear hb ho70;obtain ⟨Ao72,co72,eo72⟩:=Kd.N_slice HO339.out;subst eo72)|((with_reducible refine gate_builtin (b:=.append) (xs:=#[.tmp 94,.tmp 103]) rfl ?_);(try (refine gate_guard (by rfl) ?_;dsimp only));at_builtin;refine Kd.N_append_rows (Kd.slice 5 (Kd.int .u8)) (w0:=w) w.heap.size rfl (.tmp 94) (.tmp 103) 55 26 (.slice none 0 0) 24 rfl Try.underlying55 info26 rfl (by decide) (by omega) v316 y315 y337 _ _ _ (fun k_=>(P1_ k_ ∨ w.heap.size ≤ k_) ∧ k_ ≠ gb290) (fun k_=>((fun k_=>(P1_ k_ ∨ w.heap.size ≤ k_) ∧ k_ ≠ gb290)) k_ ∧ some k_ ≠ (v316:Value).ownBlock) rfl rfl ?aO ?aR (fun _ hk=>hk) ?aF ?aB ?aS ?aL ?_;(case aR=>exact (by skip;exact Kd.N_F (Kd.N_mono (ok':=(fun k_=>((fun k_=>(P1_ k_ ∨ w.heap.size ≤ k_) ∧ k_ ≠ gb290)) k_ ∧ some k_ ≠ (v316:Value).ownBlock)) (HO339.out) (fun k_ hk=>⟨⟨hk.1,hk.2.2⟩,hk.2.1⟩))));(case aB=>exact (by repeat (first|(with_reducible first|exact HB.out|apply below_alloc|apply pw_below_drewN|apply below_drew1|refine below_set ?_ (IsS25.ge HI290.out))|exact HB.out)));(case aF=>exact (fun k_ hk=>⟨(.inr (Nat.le_trans (below_size (by repeat (first|(with_reducible first|exact HB.out|apply below_alloc|apply pw_below_drewN|apply below_drew1|refine below_set ?_ (IsS25.ge HI290.out))|exact HB.out))) hk)),IsS25.fresh (by repeat (first|(with_reducible first|exact HI290.out|apply IsS25.alloc|apply IsS25.drewN|apply IsS25.drew|apply IsS25.set_1)|exact HI290.out)) k_ hk⟩));(case aO=>exact (by (with_reducible repeat (first|apply Kd.N_alloc|apply Kd.N_drewN|apply Kd.N_drew));exact Kd.N_mono HO317.out (fun _ hk=>⟨hk.1.1.1.1,hk.1.1.1.2⟩)));(case aS=>exact (below_size (by repeat (first|(with_reducible first|exact HB.out|apply below_alloc|apply pw_below_drewN|apply below_drew1|refine below_set ?_ (IsS25.ge HI290.out))|exact HB.out))));(case aL=>have:=LMc58.out;omega);intro v341 w71 ho hb hg hat;rw [← Ny340.out] at ho;have n0_:=Aside0.mk (Kd.V_afterv (ok:=(fun k_=>(P1_ k_ ∨ w.heap.size ≤ k_) ∧ some k_ ≠ (.slice Ao72 y337.length co72:Value).ownBlock ∧ k_ ≠ gb290)) (by (with_reducible repeat (first|apply Kd.V_alloc|apply Kd.V_drewN|apply Kd.V_drew));exact Kd.V_mono HO_1.out (fun _ hk=>⟨⟨hk.1.1.1.1.1.1,⟨hk.2,hk.1.1.1.1.1.2⟩⟩,hk.1.1.1.2⟩)) hg hat);have n1_:=Aside0.mk (Kd.V_afterv (ok:=(fun k_=>(P1_ k_ ∨ w.heap.size ≤ k_) ∧ some k_ ≠ (.slice Ao72 y337.length co72:Value).ownBlock ∧ k_ ≠ gb290)) (by (with_reducible repeat (first|apply Kd.V_alloc|apply Kd.V_drewN|apply Kd.V_drew));exact Kd.V_mono HO_12.out (fun _ hk=>⟨⟨hk.1.1.1.1.1.1,⟨hk.2,hk.1.1.1.1.1.2⟩⟩,hk.1.1.1.2⟩)) hg hat);have n2_:=Aside0.mk (IsS25.grown (show IsS25 w _ gb290 l2 t328 from by repeat (first|(with_reducible first|exact HI290.out|apply IsS25.alloc|apply IsS25.drewN|apply IsS25.drew|apply IsS25.set_1)|exact HI290.out)) hg (IsS25.own_neN HI290.out HO317.out (by decide)));have n3_:=Aside0.mk (Kd.V_afterv (ok:=(fun k_=>(P1_ k_ ∨ w.heap.size ≤ k_) ∧ some k_ ≠ (.slice Ao72 y337.length co72:Value).ownBlock ∧ k_ ≠ gb290)) (by (with_reducible repeat (first|apply Kd.V_alloc|apply Kd.V_drewN|apply Kd.V_drew));exact Kd.V_mono HO333.out (fun _ hk=>⟨⟨hk.1.1.1.1.1.1,⟨hk.2,hk.1.1.1.1.1.2⟩⟩,hk.1.1.1.2⟩)) hg hat);have n4_:=Aside0.mk (Kd.N_afterv (ok:=(fun k_=>(P1_ k_ ∨ w.heap.size ≤ k_) ∧ k_ ≠ gb290)) (by (with_reducible repeat (first|apply Kd.N_alloc|apply Kd.N_drewN|apply Kd.N_drew));exact Kd.N_mono HO339.out (fun _ hk=>⟨⟨hk.1,hk.2.2⟩,hk.2.1⟩)) hg hat);have n5_:=Aside0.mk (hb);have n6_:=Aside0.mk (ho);clear HO_1;clear HO_12;clear HI290;clear HO333;clear HO339;clear HB;clear HO317;have HO_1:=n0_;have HO_12:=n1_;have HI290:=n2_;have HO333:=n3_;have HO339:=n4_;have HB:=n5_;have HO342:=n6_;clear n0_ n1_ n2_ n3_ n4_ n5_ n6_;clear ho hb hg hat))
               first|go_meet|(subst hji52;go_meet)
               case rel=>first|exact ⟨_,(y340),H',⟨by have:=HJ7.out;first|omega|exact Nat.le_refl _⟩,⟨by (with_reducible repeat (first|apply Kd.N_alloc|apply Kd.N_drewN|apply Kd.N_drew));exact Kd.N_mono HO342.out (fun _ hk=>hk.1)⟩,⟨by repeat (first|(with_reducible first|exact HB.out|apply below_alloc|apply pw_below_drewN|apply below_drew1|refine below_set ?_ (IsS25.ge HI290.out))|exact HB.out)⟩⟩|((try subst hji52);exact ⟨_,(y340),H',⟨by have:=HJ7.out;first|omega|exact Nat.le_refl _⟩,⟨by (with_reducible repeat (first|apply Kd.N_alloc|apply Kd.N_drewN|apply Kd.N_drew));exact Kd.N_mono HO342.out (fun _ hk=>hk.1)⟩,⟨by repeat (first|(with_reducible first|exact HB.out|apply below_alloc|apply pw_below_drewN|apply below_drew1|refine below_set ?_ (IsS25.ge HI290.out))|exact HB.out)⟩⟩)
               all_goals (exact absurd (of_decide_eq_true c46b1) (by assumption))
              ·rw [if_neg c58] at H
               exact absurd H (by simp)
             ·rw [if_neg c57] at H
              exact absurd H (by simp)
            ·rw [if_neg c56] at H
             exact absurd H (by simp)
           ·rw [if_neg c55] at H
            exact absurd H (by simp)
          ·rw [if_neg c51] at H
           exact absurd H (by simp)
         ·rw [if_neg c49] at H
          exact absurd H (by simp)
        ·rw [if_neg c48] at H
         exact absurd H (by simp)
       ·rw [if_neg c46] at H
        have c46b0:decide (0 < (t301.length:Int)) = false:=decide_eq_false c46
        have c46b1:decide (0 < t301.length) = false:=decide_eq_false (by omega)
        clear c46
        (first|rw [c46b0]|(simp only [i64_w,i32_w];rw [c46b0])|skip)
        have H':=Aside0.mk H
        clear H
        go_wp2
        all_goals (try exact absurd (by assumption) (of_decide_eq_false c46b1))
        go_meet
        case rel=>exact ⟨_,(y315),H',⟨by have:=HJ7.out;first|omega|exact Nat.le_refl _⟩,⟨by (with_reducible repeat (first|apply Kd.N_alloc|apply Kd.N_drewN|apply Kd.N_drew));exact Kd.N_mono HO317.out (fun _ hk=>hk.1)⟩,⟨by repeat (first|(with_reducible first|exact HB.out|apply below_alloc|apply pw_below_drewN|apply below_drew1|refine below_set ?_ (IsS25.ge HI290.out))|exact HB.out)⟩⟩
      case rest =>
       clear HC38
       try clear c1
       try clear c2
       try clear p2
       try clear hcv2
       try clear c3
       try clear p3
       try clear q3
       try clear hx3
       try clear hcv3
       try clear c4
       try clear c5
       try clear p5
       try clear q5
       try clear hx5
       try clear hf5
       try clear q6
       try clear c12
       try clear c16
       try clear c17
       try clear c17b0
       try clear c17b1
       try clear c18
       try clear c18b0
       try clear c18b1
       try clear c19
       try clear c19b0
       try clear c19b1
       try clear c22
       try clear hcv22
       try clear hcv23
       try clear hcv27
       try clear hcv28
       try clear hcv30
       try clear hcv31
       try clear p32
       try clear q32
       try clear hx32
       try clear c34
       try clear c35
       try clear c36
       try clear c37
       try clear c46
       try clear c46b0
       try clear c46b1
       try clear c48
       try clear c48b0
       try clear c49
       try clear c49b0
       try clear c51
       try clear c51b0
       try clear c51b1
       try clear p53
       try clear q53
       try clear hx53
       try clear hf53
       try clear c55
       try clear c55b0
       try clear c55b1
       try clear c56
       try clear c56b0
       try clear c56b1
       try clear c57
       try clear c58
       try clear q66
       try clear hx323_0
       try clear hx53_0
       try clear p2
       try clear p323
       try clear p53
       try clear q323
       try clear q53
       try clear q66
       obtain ⟨kq,x14_37,HA,HJ37,HO_14,HB⟩:=hcut
       cases kq with
       | zero=>exact absurd HA.out (by simp [law26_DeltaForms.j1])
       | succ kj37 =>
        have H:=HA.out
        clear HA
        simp only [law26_DeltaForms.j1] at H
        have H':=Aside0.mk H
        clear H
        go_wp2
        go_loopg [16] kj37 (fun kq v16 w'=>∃ (x16_3:Int),v16 = .int .i64 x16_3 ∧ Aside0 (law26_DeltaForms.l0 kq a0 t291 x14_37 x16_3 = some r) ∧ Aside0 (kq ≤ kj37) ∧ Aside0 (Kd.N (Kd.slice 5 (Kd.int .u8)) 26 w' w.heap.size (fun k_=>(P1_ k_ ∨ w.heap.size ≤ k_)) u14 x14_37) ∧ Aside0 (Below w.heap.size w w'))
        case atStart=>exact ⟨(0),(by first|rfl|(simp;done)|(simp [*];done)),H',⟨Nat.le_refl _⟩,⟨by (with_reducible repeat (first|apply Kd.N_alloc|apply Kd.N_drewN|apply Kd.N_drew));exact HO_14.out⟩,⟨by repeat (first|(with_reducible first|exact HB.out|apply below_alloc|apply pw_below_drewN|apply below_drew1)|exact HB.out)⟩⟩
        case round =>
         clear H'
         try clear c1
         try clear c2
         try clear p2
         try clear hcv2
         try clear c3
         try clear p3
         try clear q3
         try clear hx3
         try clear hcv3
         try clear c4
         try clear c5
         try clear p5
         try clear q5
         try clear hx5
         try clear hf5
         try clear q6
         try clear c12
         try clear c16
         try clear c17
         try clear c17b0
         try clear c17b1
         try clear c18
         try clear c18b0
         try clear c18b1
         try clear c19
         try clear c19b0
         try clear c19b1
         try clear c22
         try clear hcv22
         try clear hcv23
         try clear hcv27
         try clear hcv28
         try clear hcv30
         try clear hcv31
         try clear p32
         try clear q32
         try clear hx32
         try clear c34
         try clear c35
         try clear c36
         try clear c37
         try clear c46
         try clear c46b0
         try clear c46b1
         try clear c48
         try clear c48b0
         try clear c49
         try clear c49b0
         try clear c51
         try clear c51b0
         try clear c51b1
         try clear p53
         try clear q53
         try clear hx53
         try clear hf53
         try clear c55
         try clear c55b0
         try clear c55b1
         try clear c56
         try clear c56b0
         try clear c56b1
         try clear c57
         try clear c58
         try clear q66
         try clear hx323_0
         try clear hx53_0
         try clear p2
         try clear p3
         try clear p32
         try clear p323
         try clear p5
         try clear p53
         try clear q3
         try clear q32
         try clear q323
         try clear q5
         try clear q53
         try clear q6
         try clear q66
         obtain ⟨x16_3,rfl,HA,HK3,HO_14,HB⟩:=hrel
         cases gk with
         | zero=>exact absurd HA.out (by simp [law26_DeltaForms.l0])
         | succ k3 =>
          have H:=HA.out
          clear HA
          simp only [law26_DeltaForms.l0] at H
          by_cases c73:x16_3 < (x14_37.length:Int)
          ·rw [if_pos c73] at H
           have c73b0:decide (x16_3 < (x14_37.length:Int)) = true:=decide_eq_true c73
           clear c73
           have HC74:=Aside0.mk H
           clear H
           obtain ⟨Ao75,co75,eo75⟩:=Kd.N_slice HO_14.out
           subst eo75
           go_upto_if 113 with (fail)
           go_cut [17] (fun v17 wc=>∃ (kq:Nat) (x17_73:Int),v17 = .int .i64 x17_73 ∧ Aside0 (law26_DeltaForms.j3 kq a0 t291 x14_37 x16_3 x17_73 = some r) ∧ Aside0 (kq ≤ k3) ∧ Aside0 (Kd.N (Kd.slice 5 (Kd.int .u8)) 26 wc w.heap.size (fun k_=>(P1_ k_ ∨ w.heap.size ≤ k_)) (.slice Ao75 x14_37.length co75) x14_37) ∧ Aside0 (Below w.heap.size w wc))
           case first =>
            have H:=HC74.out
            clear HC74
            by_cases c76:x16_3 = 0
            ·rw [if_pos c76] at H
             have c76b0:(x16_3 == 0) = true:=beq_iff_eq.mpr c76
             have c76b1:(x16_3 != 0) = false:=bne_eq_false_iff_eq.mpr c76
             clear c76
             (first|rw [c76b0]|(simp only [i64_w,i32_w];rw [c76b0])|skip)
             have H':=Aside0.mk H
             clear H
             go_wp2
             go_meet
             case rel=>exact ⟨_,(a0),(by first|rfl|(simp;done)|(simp [*];done)),H',⟨by have:=HJ7.out;have:=HJ37.out;have:=HK3.out;first|omega|exact Nat.le_refl _⟩,⟨by (with_reducible repeat (first|apply Kd.N_alloc|apply Kd.N_drewN|apply Kd.N_drew));exact HO_14.out⟩,⟨by repeat (first|(with_reducible first|exact HB.out|apply below_alloc|apply pw_below_drewN|apply below_drew1)|exact HB.out)⟩⟩
            ·rw [if_neg c76] at H
             have c76b0:(x16_3 == 0) = false:=beq_eq_false_iff_ne.mpr c76
             have c76b1:(x16_3 != 0) = true:=bne_iff_ne.mpr c76
             (first|rw [c76b0]|(simp only [i64_w,i32_w];rw [c76b0])|skip)
             have H':=Aside0.mk H
             clear H
             go_wp2
             go_meet
             case rel=>exact ⟨_,(t291),(by first|rfl|(simp;done)|(simp [*];done)),H',⟨by have:=HJ7.out;have:=HJ37.out;have:=HK3.out;first|omega|exact Nat.le_refl _⟩,⟨by (with_reducible repeat (first|apply Kd.N_alloc|apply Kd.N_drewN|apply Kd.N_drew));exact HO_14.out⟩,⟨by repeat (first|(with_reducible first|exact HB.out|apply below_alloc|apply pw_below_drewN|apply below_drew1)|exact HB.out)⟩⟩
           case rest =>
            clear HC74
            try clear c1
            try clear c2
            try clear p2
            try clear hcv2
            try clear c3
            try clear p3
            try clear q3
            try clear hx3
            try clear hcv3
            try clear c4
            try clear c5
            try clear p5
            try clear q5
            try clear hx5
            try clear hf5
            try clear q6
            try clear c7
            try clear c12
            try clear c16
            try clear c17
            try clear c17b0
            try clear c17b1
            try clear c18
            try clear c18b0
            try clear c18b1
            try clear c19
            try clear c19b0
            try clear c19b1
            try clear c22
            try clear hcv22
            try clear hcv23
            try clear hcv27
            try clear hcv28
            try clear hcv30
            try clear hcv31
            try clear p32
            try clear q32
            try clear hx32
            try clear c34
            try clear c35
            try clear c36
            try clear c37
            try clear c46
            try clear c46b0
            try clear c46b1
            try clear c48
            try clear c48b0
            try clear c49
            try clear c49b0
            try clear c51
            try clear c51b0
            try clear c51b1
            try clear p53
            try clear q53
            try clear hx53
            try clear hf53
            try clear c55
            try clear c55b0
            try clear c55b1
            try clear c56
            try clear c56b0
            try clear c56b1
            try clear c57
            try clear c58
            try clear q66
            try clear c73
            try clear c73b0
            try clear c76
            try clear c76b0
            try clear c76b1
            try clear hx323_0
            try clear hx53_0
            try clear p2
            try clear p3
            try clear p32
            try clear p323
            try clear p5
            try clear p53
            try clear q3
            try clear q32
            try clear q323
            try clear q5
            try clear q53
            try clear q6
            try clear q66
            obtain ⟨kq,x17_73,rfl,HA,HJ73,HO_14,HB⟩:=hcut
            cases kq with
            | zero=>exact absurd HA.out (by simp [law26_DeltaForms.j3])
            | succ kj73 =>
             have H:=HA.out
             clear HA
             simp only [law26_DeltaForms.j3] at H
             by_cases c77:0 ≤ x16_3
             ·rw [if_pos c77] at H
              have c77b0:decide (0 ≤ x16_3) = true:=decide_eq_true c77
              clear c77
              by_cases c78:x16_3 < (x14_37.length:Int)
              ·rw [if_pos c78] at H
               have c78b0:decide (x16_3 < (x14_37.length:Int)) = true:=decide_eq_true c78
               clear c78
               replace H:=Option.bind_eq_some_iff.mp H
               obtain ⟨⟨t344,t345⟩,A790,H⟩:=H
               replace H:((ref26_Decode.f kj73 x17_73 (rd_L2 x14_37 x16_3)).bind fun bt349=>(if t345 = bt349.2 then ((ref26_Same.f t344 bt349.1).bind fun t353=>(if t353 = true then (law26_DeltaForms.l0 kj73 a0 t291 x14_37 (wrap64 (x16_3 + 1))) else (some false))) else (some false))) = some r:=H
               have A79:=Aside0.mk A790
               clear A790
               replace H:=Option.bind_eq_some_iff.mp H
               obtain ⟨⟨t349,t350⟩,A800,H⟩:=H
               replace H:(if t345 = t350 then ((ref26_Same.f t344 t349).bind fun t353=>(if t353 = true then (law26_DeltaForms.l0 kj73 a0 t291 x14_37 (wrap64 (x16_3 + 1))) else (some false))) else (some false)) = some r:=H
               have A80:=Aside0.mk A800
               clear A800
               by_cases c81:t345 = t350
               ·rw [if_pos c81] at H
                have c81b0:(t345 == t350) = true:=beq_iff_eq.mpr c81
                have c81b1:(t345 != t350) = false:=bne_eq_false_iff_eq.mpr c81
                clear c81
                replace H:=Option.bind_eq_some_iff.mp H
                obtain ⟨t353,A820,H⟩:=H
                replace H:(if t353 = true then (law26_DeltaForms.l0 kj73 a0 t291 x14_37 (wrap64 (x16_3 + 1))) else (some false)) = some r:=H
                have A82:=Aside0.mk A820
                clear A820
                by_cases c83:t353 = true
                ·subst c83
                 have H1:(law26_DeltaForms.l0 kj73 a0 t291 x14_37 (wrap64 (x16_3 + 1))) = some r:=by rw [if_pos rfl] at H;exact H
                 clear H
                 have H:=H1
                 clear H1
                 have H':=Aside0.mk H
                 clear H
                 have p343:0 ≤ (x16_3:Int):=of_decide_eq_true (by first|(with_reducible assumption)|assumption)
                 have q343:x16_3 < (x14_37.length:Int):=of_decide_eq_true (by first|(with_reducible assumption)|assumption)
                 obtain ⟨ad343,A343_0,c343_0,e343,hx343_0,hl343_0,hi343_0⟩:=at_L2 (Kd.N_reads' HO_14.out).2.2 x16_3 p343 q343
                 cases e343
                 obtain ⟨ce343,hce343,hMe343,hcc343⟩:=Kd.N_get HO_14.out [] x16_3 p343 (by first|exact q343|exact of_decide_eq_true (by first|(with_reducible assumption)|assumption)|(have e_:=(Kd.N_reads' HO_14.out).1;omega))
                 obtain ⟨ua343_0,uc343_0,rfl,ul343_0,ge343_0⟩:=Kd.FK_slice_open hMe343
                 have hv343_0:=hcc343 0 _ rfl
                 rw [Nat.add_zero,show ((Kd.slice 5 (Kd.int .u8))).sz = 1 from rfl,Nat.mul_one] at hv343_0
                 replace hv343_0:=Option.some.inj (hv343_0.symm.trans hx343_0)
                 injection hv343_0 with hva_ hvn_ hvc_
                 rw [hva_] at ge343_0
                 rw [hvc_] at ul343_0
                 have HL343_0:=Aside0.mk (show Kd.V (Kd.int .u8) 5 _ w.heap.size _ _ (rd_L2 x14_37 x16_3) from Kd.V_mk ul343_0 ge343_0)
                 clear hva_ hvn_ hvc_ ge343_0 ul343_0
                 clear hcc343 hce343
                 have HR343_0:=Aside0.mk hi343_0
                 have HC343_0:=Aside0.mk hl343_0
                 clear hi343_0 hl343_0
                 replace p343:=eq_true p343
                 replace q343:=eq_true q343
                 go_wp2_with (first|((with_reducible refine gate_callee (f:=38) rfl ?_);refine goesL_ (some 121) rfl rfl Try.func38 (by kernel_rfl) rfl #[.int .i64 x17_73,.slice A343_0 (rd_L2 x14_37 x16_3).length c343_0] rfl (by (try simp only [List.map_toArray,List.map_cons,List.map_nil]);first|done|rfl|(simp only [List.length_drop,List.length_take];rfl)) ?_;(with_reducible refine (delta_Decode.calls kj73 x17_73 _ _ (rd_L2 x14_37 x16_3) t344 t345 _ ?side1 ?side2 A79.out).mono ?_);(case side1=>repeat (first|exact (by repeat (first|(with_reducible exact HR343_0.out)|(with_reducible refine Kd.C_alloc ?_ _)|(with_reducible refine Kd.C_drewN ?_ _)|(with_reducible refine Kd.C_drew ?_)|exact HR343_0.out))|(with_reducible refine Kd.C_alloc ?_ _)|(with_reducible refine Kd.C_drewN ?_ _)|(with_reducible refine Kd.C_drew ?_)));(case side2=>exact HC343_0.out);rintro e w84 ⟨v346,rfl,ho0,hb⟩;refine ⟨_,rfl,?_⟩;have n0_:=Aside0.mk (Kd.N_elder' (by (with_reducible repeat (first|apply Kd.N_alloc|apply Kd.N_drewN|apply Kd.N_drew));exact HO_14.out) (by first|exact Kd.N_base ho0|exact Kd.S_base ho0) hb);have n1_:=Aside0.mk (Kd.V_elder' (by (with_reducible repeat (first|apply Kd.V_alloc|apply Kd.V_drewN|apply Kd.V_drew));exact HL343_0.out) (by first|exact Kd.N_base ho0|exact Kd.S_base ho0) hb);have n2_:=Aside0.mk (Kd.N_lower (Kd.N_mono (ok':=fun k_=>(P1_ k_ ∨ w.heap.size ≤ k_) ∧ some k_ ≠ (.slice (some ad343) x14_37.length co75:Value).ownBlock) (Kd.S_N (Kd.S_bound ho0)) (fun k_ hk_=>⟨(.inr (Nat.le_trans (below_size (by repeat (first|(with_reducible first|exact HB.out|apply below_alloc|apply pw_below_drewN|apply below_drew1)|exact HB.out))) hk_.2.1)),(Kd.fresh' (Kd.N_lt (by (with_reducible repeat (first|apply Kd.N_alloc|apply Kd.N_drewN|apply Kd.N_drew));exact HO_14.out)) k_ hk_.2.1)⟩)) (below_size (by repeat (first|(with_reducible first|exact HB.out|apply below_alloc|apply pw_below_drewN|apply below_drew1)|exact HB.out))));have n3_:=Aside0.mk (Kd.C_below (by repeat (first|(with_reducible exact HR343_0.out)|(with_reducible refine Kd.C_alloc ?_ _)|(with_reducible refine Kd.C_drewN ?_ _)|(with_reducible refine Kd.C_drew ?_)|exact HR343_0.out)) hb);have n4_:=Aside0.mk (below_step (by repeat (first|(with_reducible first|exact HB.out|apply below_alloc|apply pw_below_drewN|apply below_drew1)|exact HB.out)) hb);clear HO_14;clear HL343_0;clear HR343_0;clear HB;have HO_14:=n0_;have HL343_0:=n1_;have HO347:=n2_;have HR343_0:=n3_;have HB:=n4_;clear n0_ n1_ n2_ n3_ n4_;(try clear hb);(try clear hb2);(try clear hk);(try clear hi);(try clear ho0);have p348:0 ≤ (x16_3:Int):=of_decide_eq_true (by first|(with_reducible assumption)|assumption);have q348:x16_3 < (x14_37.length:Int):=of_decide_eq_true (by first|(with_reducible assumption)|assumption);obtain ⟨ad348,A348_0,c348_0,e348,hx348_0,hl348_0,hi348_0⟩:=at_L2 (Kd.N_reads' HO_14.out).2.2 x16_3 p348 q348;obtain rfl:ad343 = ad348:=(by injection e348);obtain ⟨ce348,hce348,hMe348,hcc348⟩:=Kd.N_get HO_14.out [] x16_3 p348 (by first|exact q348|exact of_decide_eq_true (by first|(with_reducible assumption)|assumption)|(have e_:=(Kd.N_reads' HO_14.out).1;omega));obtain ⟨ua348_0,uc348_0,rfl,ul348_0,ge348_0⟩:=Kd.FK_slice_open hMe348;have hv348_0:=hcc348 0 _ rfl;rw [Nat.add_zero,show ((Kd.slice 5 (Kd.int .u8))).sz = 1 from rfl,Nat.mul_one] at hv348_0;replace hv348_0:=Option.some.inj (hv348_0.symm.trans hx348_0);injection hv348_0 with hva_ hvn_ hvc_;rw [hva_] at ge348_0;rw [hvc_] at ul348_0;have HL348_0:=Aside0.mk (show Kd.V (Kd.int .u8) 5 _ w.heap.size _ _ (rd_L2 x14_37 x16_3) from Kd.V_mk ul348_0 ge348_0);clear hva_ hvn_ hvc_ ge348_0 ul348_0;clear hcc348 hce348;have HR348_0:=Aside0.mk hi348_0;have HC348_0:=Aside0.mk hl348_0;clear hi348_0 hl348_0;replace p348:=eq_true p348;replace q348:=eq_true q348)|((with_reducible refine gate_callee (f:=39) rfl ?_);refine goesL_ (some 130) rfl rfl Try.func39 (by kernel_rfl) rfl #[.int .i64 x17_73,.slice A348_0 (rd_L2 x14_37 x16_3).length c348_0] rfl (by (try simp only [List.map_toArray,List.map_cons,List.map_nil]);first|done|rfl|(simp only [List.length_drop,List.length_take];rfl)) ?_;(with_reducible refine (ref26_Decode.calls kj73 x17_73 _ _ (rd_L2 x14_37 x16_3) t349 t350 _ ?side1 ?side2 A80.out).mono ?_);(case side1=>repeat (first|exact (by repeat (first|(with_reducible exact HR348_0.out)|(with_reducible refine Kd.C_alloc ?_ _)|(with_reducible refine Kd.C_drewN ?_ _)|(with_reducible refine Kd.C_drew ?_)|exact HR348_0.out))|(with_reducible refine Kd.C_alloc ?_ _)|(with_reducible refine Kd.C_drewN ?_ _)|(with_reducible refine Kd.C_drew ?_)));(case side2=>exact HC348_0.out);rintro e w85 ⟨v351,rfl,ho0,hb⟩;refine ⟨_,rfl,?_⟩;have n0_:=Aside0.mk (Kd.N_elder' (by (with_reducible repeat (first|apply Kd.N_alloc|apply Kd.N_drewN|apply Kd.N_drew));exact HO_14.out) (by first|exact Kd.N_base ho0|exact Kd.S_base ho0) hb);have n1_:=Aside0.mk (Kd.V_elder' (by (with_reducible repeat (first|apply Kd.V_alloc|apply Kd.V_drewN|apply Kd.V_drew));exact HL343_0.out) (by first|exact Kd.N_base ho0|exact Kd.S_base ho0) hb);have n2_:=Aside0.mk (Kd.N_elder' (by (with_reducible repeat (first|apply Kd.N_alloc|apply Kd.N_drewN|apply Kd.N_drew));exact HO347.out) (by first|exact Kd.N_base ho0|exact Kd.S_base ho0) hb);have n3_:=Aside0.mk (Kd.V_elder' (by (with_reducible repeat (first|apply Kd.V_alloc|apply Kd.V_drewN|apply Kd.V_drew));exact HL348_0.out) (by first|exact Kd.N_base ho0|exact Kd.S_base ho0) hb);have n4_:=Aside0.mk (Kd.N_lower (Kd.N_mono (ok':=fun k_=>(P1_ k_ ∨ w.heap.size ≤ k_) ∧ some k_ ≠ (.slice (some ad343) x14_37.length co75:Value).ownBlock ∧ some k_ ≠ (v346:Value).ownBlock) (Kd.S_N (Kd.S_bound ho0)) (fun k_ hk_=>⟨(.inr (Nat.le_trans (below_size (by repeat (first|(with_reducible first|exact HB.out|apply below_alloc|apply pw_below_drewN|apply below_drew1)|exact HB.out))) hk_.2.1)),(Kd.fresh' (Kd.N_lt (by (with_reducible repeat (first|apply Kd.N_alloc|apply Kd.N_drewN|apply Kd.N_drew));exact HO_14.out)) k_ hk_.2.1),(Kd.fresh' (Kd.N_lt (by (with_reducible repeat (first|apply Kd.N_alloc|apply Kd.N_drewN|apply Kd.N_drew));exact HO347.out)) k_ hk_.2.1)⟩)) (below_size (by repeat (first|(with_reducible first|exact HB.out|apply below_alloc|apply pw_below_drewN|apply below_drew1)|exact HB.out))));have n5_:=Aside0.mk (Kd.C_below (by repeat (first|(with_reducible exact HR343_0.out)|(with_reducible refine Kd.C_alloc ?_ _)|(with_reducible refine Kd.C_drewN ?_ _)|(with_reducible refine Kd.C_drew ?_)|exact HR343_0.out)) hb);have n6_:=Aside0.mk (Kd.C_below (by repeat (first|(with_reducible exact HR348_0.out)|(with_reducible refine Kd.C_alloc ?_ _)|(with_reducible refine Kd.C_drewN ?_ _)|(with_reducible refine Kd.C_drew ?_)|exact HR348_0.out)) hb);have n7_:=Aside0.mk (below_step (by repeat (first|(with_reducible first|exact HB.out|apply below_alloc|apply pw_below_drewN|apply below_drew1)|exact HB.out)) hb);clear HO_14;clear HL343_0;clear HO347;clear HL348_0;clear HR343_0;clear HR348_0;clear HB;have HO_14:=n0_;have HL343_0:=n1_;have HO347:=n2_;have HL348_0:=n3_;have HO352:=n4_;have HR343_0:=n5_;have HR348_0:=n6_;have HB:=n7_;clear n0_ n1_ n2_ n3_ n4_ n5_ n6_ n7_;(try clear hb);(try clear hb2);(try clear hk);(try clear hi);(try clear ho0);obtain ⟨Ao86,co86,eo86⟩:=Kd.N_slice HO347.out;subst eo86;obtain ⟨Ao87,co87,eo87⟩:=Kd.N_slice HO352.out;subst eo87)|(go_at_call 20;(with_reducible refine (ref26_Same.calls _ _ t344 _ _ t349 true _ ?side1 ?side2 ?side3 ?side4 A82.out).mono ?_);(case side1=>repeat (first|exact (Kd.N_reads' HO347.out).2.2|(with_reducible refine Kd.C_alloc ?_ _)|(with_reducible refine Kd.C_drewN ?_ _)|(with_reducible refine Kd.C_drew ?_)));(case side2=>exact (Kd.N_reads' HO347.out).2.1);(case side3=>repeat (first|exact (Kd.N_reads' HO352.out).2.2|(with_reducible refine Kd.C_alloc ?_ _)|(with_reducible refine Kd.C_drewN ?_ _)|(with_reducible refine Kd.C_drew ?_)));(case side4=>exact (Kd.N_reads' HO352.out).2.1);rintro e w' ⟨rfl,⟨nd,rfl⟩⟩))
                 go_roundg kj73
                 case measure=>have:=HJ7.out;have:=HJ37.out;have:=HK3.out;have:=HJ73.out;omega
                 case rel=>exact ⟨(wrap64 (x16_3 + 1)),(by first|rfl|(simp;done)|(simp [*];done)),H',⟨by have:=HJ7.out;have:=HJ37.out;have:=HK3.out;have:=HJ73.out;omega⟩,⟨by (with_reducible repeat (first|apply Kd.N_alloc|apply Kd.N_drewN|apply Kd.N_drew));exact Kd.N_mono HO_14.out (fun _ hk=>hk.1.1)⟩,⟨by repeat (first|(with_reducible first|exact HB.out|apply below_alloc|apply pw_below_drewN|apply below_drew1)|exact HB.out)⟩⟩
                ·replace c83:=Bool.eq_false_iff.mpr c83
                 subst c83
                 have H1:(some false) = some r:=by rw [if_neg (show ¬ (false = true) by decide)] at H;exact H
                 clear H
                 have H:=H1
                 clear H1
                 obtain rfl:=Option.some.inj H
                 have p343:0 ≤ (x16_3:Int):=of_decide_eq_true (by first|(with_reducible assumption)|assumption)
                 have q343:x16_3 < (x14_37.length:Int):=of_decide_eq_true (by first|(with_reducible assumption)|assumption)
                 obtain ⟨ad343,A343_0,c343_0,e343,hx343_0,hl343_0,hi343_0⟩:=at_L2 (Kd.N_reads' HO_14.out).2.2 x16_3 p343 q343
                 cases e343
                 obtain ⟨ce343,hce343,hMe343,hcc343⟩:=Kd.N_get HO_14.out [] x16_3 p343 (by first|exact q343|exact of_decide_eq_true (by first|(with_reducible assumption)|assumption)|(have e_:=(Kd.N_reads' HO_14.out).1;omega))
                 obtain ⟨ua343_0,uc343_0,rfl,ul343_0,ge343_0⟩:=Kd.FK_slice_open hMe343
                 have hv343_0:=hcc343 0 _ rfl
                 rw [Nat.add_zero,show ((Kd.slice 5 (Kd.int .u8))).sz = 1 from rfl,Nat.mul_one] at hv343_0
                 replace hv343_0:=Option.some.inj (hv343_0.symm.trans hx343_0)
                 injection hv343_0 with hva_ hvn_ hvc_
                 rw [hva_] at ge343_0
                 rw [hvc_] at ul343_0
                 have HL343_0:=Aside0.mk (show Kd.V (Kd.int .u8) 5 _ w.heap.size _ _ (rd_L2 x14_37 x16_3) from Kd.V_mk ul343_0 ge343_0)
                 clear hva_ hvn_ hvc_ ge343_0 ul343_0
                 clear hcc343 hce343
                 have HR343_0:=Aside0.mk hi343_0
                 have HC343_0:=Aside0.mk hl343_0
                 clear hi343_0 hl343_0
                 replace p343:=eq_true p343
                 replace q343:=eq_true q343
                 go_wp2_with (first|((with_reducible refine gate_callee (f:=38) rfl ?_);refine goesL_ (some 121) rfl rfl Try.func38 (by kernel_rfl) rfl #[.int .i64 x17_73,.slice A343_0 (rd_L2 x14_37 x16_3).length c343_0] rfl (by (try simp only [List.map_toArray,List.map_cons,List.map_nil]);first|done|rfl|(simp only [List.length_drop,List.length_take];rfl)) ?_;(with_reducible refine (delta_Decode.calls kj73 x17_73 _ _ (rd_L2 x14_37 x16_3) t344 t345 _ ?side1 ?side2 A79.out).mono ?_);(case side1=>repeat (first|exact (by repeat (first|(with_reducible exact HR343_0.out)|(with_reducible refine Kd.C_alloc ?_ _)|(with_reducible refine Kd.C_drewN ?_ _)|(with_reducible refine Kd.C_drew ?_)|exact HR343_0.out))|(with_reducible refine Kd.C_alloc ?_ _)|(with_reducible refine Kd.C_drewN ?_ _)|(with_reducible refine Kd.C_drew ?_)));(case side2=>exact HC343_0.out);rintro e w88 ⟨v346,rfl,ho0,hb⟩;refine ⟨_,rfl,?_⟩;have n0_:=Aside0.mk (Kd.N_elder' (by (with_reducible repeat (first|apply Kd.N_alloc|apply Kd.N_drewN|apply Kd.N_drew));exact HO_14.out) (by first|exact Kd.N_base ho0|exact Kd.S_base ho0) hb);have n1_:=Aside0.mk (Kd.V_elder' (by (with_reducible repeat (first|apply Kd.V_alloc|apply Kd.V_drewN|apply Kd.V_drew));exact HL343_0.out) (by first|exact Kd.N_base ho0|exact Kd.S_base ho0) hb);have n2_:=Aside0.mk (Kd.N_lower (Kd.N_mono (ok':=fun k_=>(P1_ k_ ∨ w.heap.size ≤ k_) ∧ some k_ ≠ (.slice (some ad343) x14_37.length co75:Value).ownBlock) (Kd.S_N (Kd.S_bound ho0)) (fun k_ hk_=>⟨(.inr (Nat.le_trans (below_size (by repeat (first|(with_reducible first|exact HB.out|apply below_alloc|apply pw_below_drewN|apply below_drew1)|exact HB.out))) hk_.2.1)),(Kd.fresh' (Kd.N_lt (by (with_reducible repeat (first|apply Kd.N_alloc|apply Kd.N_drewN|apply Kd.N_drew));exact HO_14.out)) k_ hk_.2.1)⟩)) (below_size (by repeat (first|(with_reducible first|exact HB.out|apply below_alloc|apply pw_below_drewN|apply below_drew1)|exact HB.out))));have n3_:=Aside0.mk (Kd.C_below (by repeat (first|(with_reducible exact HR343_0.out)|(with_reducible refine Kd.C_alloc ?_ _)|(with_reducible refine Kd.C_drewN ?_ _)|(with_reducible refine Kd.C_drew ?_)|exact HR343_0.out)) hb);have n4_:=Aside0.mk (below_step (by repeat (first|(with_reducible first|exact HB.out|apply below_alloc|apply pw_below_drewN|apply below_drew1)|exact HB.out)) hb);clear HO_14;clear HL343_0;clear HR343_0;clear HB;have HO_14:=n0_;have HL343_0:=n1_;have HO347:=n2_;have HR343_0:=n3_;have HB:=n4_;clear n0_ n1_ n2_ n3_ n4_;(try clear hb);(try clear hb2);(try clear hk);(try clear hi);(try clear ho0);have p348:0 ≤ (x16_3:Int):=of_decide_eq_true (by first|(with_reducible assumption)|assumption);have q348:x16_3 < (x14_37.length:Int):=of_decide_eq_true (by first|(with_reducible assumption)|assumption);obtain ⟨ad348,A348_0,c348_0,e348,hx348_0,hl348_0,hi348_0⟩:=at_L2 (Kd.N_reads' HO_14.out).2.2 x16_3 p348 q348;obtain rfl:ad343 = ad348:=(by injection e348);obtain ⟨ce348,hce348,hMe348,hcc348⟩:=Kd.N_get HO_14.out [] x16_3 p348 (by first|exact q348|exact of_decide_eq_true (by first|(with_reducible assumption)|assumption)|(have e_:=(Kd.N_reads' HO_14.out).1;omega));obtain ⟨ua348_0,uc348_0,rfl,ul348_0,ge348_0⟩:=Kd.FK_slice_open hMe348;have hv348_0:=hcc348 0 _ rfl;rw [Nat.add_zero,show ((Kd.slice 5 (Kd.int .u8))).sz = 1 from rfl,Nat.mul_one] at hv348_0;replace hv348_0:=Option.some.inj (hv348_0.symm.trans hx348_0);injection hv348_0 with hva_ hvn_ hvc_;rw [hva_] at ge348_0;rw [hvc_] at ul348_0;have HL348_0:=Aside0.mk (show Kd.V (Kd.int .u8) 5 _ w.heap.size _ _ (rd_L2 x14_37 x16_3) from Kd.V_mk ul348_0 ge348_0);clear hva_ hvn_ hvc_ ge348_0 ul348_0;clear hcc348 hce348;have HR348_0:=Aside0.mk hi348_0;have HC348_0:=Aside0.mk hl348_0;clear hi348_0 hl348_0;replace p348:=eq_true p348;replace q348:=eq_true q348)|((with_reducible refine gate_callee (f:=39) rfl ?_);refine goesL_ (some 130) rfl rfl Try.func39 (by kernel_rfl) rfl #[.int .i64 x17_73,.slice A348_0 (rd_L2 x14_37 x16_3).length c348_0] rfl (by (try simp only [List.map_toArray,List.map_cons,List.map_nil]);first|done|rfl|(simp only [List.length_drop,List.length_take];rfl)) ?_;(with_reducible refine (ref26_Decode.calls kj73 x17_73 _ _ (rd_L2 x14_37 x16_3) t349 t350 _ ?side1 ?side2 A80.out).mono ?_);(case side1=>repeat (first|exact (by repeat (first|(with_reducible exact HR348_0.out)|(with_reducible refine Kd.C_alloc ?_ _)|(with_reducible refine Kd.C_drewN ?_ _)|(with_reducible refine Kd.C_drew ?_)|exact HR348_0.out))|(with_reducible refine Kd.C_alloc ?_ _)|(with_reducible refine Kd.C_drewN ?_ _)|(with_reducible refine Kd.C_drew ?_)));(case side2=>exact HC348_0.out);rintro e w89 ⟨v351,rfl,ho0,hb⟩;refine ⟨_,rfl,?_⟩;have n0_:=Aside0.mk (Kd.N_elder' (by (with_reducible repeat (first|apply Kd.N_alloc|apply Kd.N_drewN|apply Kd.N_drew));exact HO_14.out) (by first|exact Kd.N_base ho0|exact Kd.S_base ho0) hb);have n1_:=Aside0.mk (Kd.V_elder' (by (with_reducible repeat (first|apply Kd.V_alloc|apply Kd.V_drewN|apply Kd.V_drew));exact HL343_0.out) (by first|exact Kd.N_base ho0|exact Kd.S_base ho0) hb);have n2_:=Aside0.mk (Kd.N_elder' (by (with_reducible repeat (first|apply Kd.N_alloc|apply Kd.N_drewN|apply Kd.N_drew));exact HO347.out) (by first|exact Kd.N_base ho0|exact Kd.S_base ho0) hb);have n3_:=Aside0.mk (Kd.V_elder' (by (with_reducible repeat (first|apply Kd.V_alloc|apply Kd.V_drewN|apply Kd.V_drew));exact HL348_0.out) (by first|exact Kd.N_base ho0|exact Kd.S_base ho0) hb);have n4_:=Aside0.mk (Kd.N_lower (Kd.N_mono (ok':=fun k_=>(P1_ k_ ∨ w.heap.size ≤ k_) ∧ some k_ ≠ (.slice (some ad343) x14_37.length co75:Value).ownBlock ∧ some k_ ≠ (v346:Value).ownBlock) (Kd.S_N (Kd.S_bound ho0)) (fun k_ hk_=>⟨(.inr (Nat.le_trans (below_size (by repeat (first|(with_reducible first|exact HB.out|apply below_alloc|apply pw_below_drewN|apply below_drew1)|exact HB.out))) hk_.2.1)),(Kd.fresh' (Kd.N_lt (by (with_reducible repeat (first|apply Kd.N_alloc|apply Kd.N_drewN|apply Kd.N_drew));exact HO_14.out)) k_ hk_.2.1),(Kd.fresh' (Kd.N_lt (by (with_reducible repeat (first|apply Kd.N_alloc|apply Kd.N_drewN|apply Kd.N_drew));exact HO347.out)) k_ hk_.2.1)⟩)) (below_size (by repeat (first|(with_reducible first|exact HB.out|apply below_alloc|apply pw_below_drewN|apply below_drew1)|exact HB.out))));have n5_:=Aside0.mk (Kd.C_below (by repeat (first|(with_reducible exact HR343_0.out)|(with_reducible refine Kd.C_alloc ?_ _)|(with_reducible refine Kd.C_drewN ?_ _)|(with_reducible refine Kd.C_drew ?_)|exact HR343_0.out)) hb);have n6_:=Aside0.mk (Kd.C_below (by repeat (first|(with_reducible exact HR348_0.out)|(with_reducible refine Kd.C_alloc ?_ _)|(with_reducible refine Kd.C_drewN ?_ _)|(with_reducible refine Kd.C_drew ?_)|exact HR348_0.out)) hb);have n7_:=Aside0.mk (below_step (by repeat (first|(with_reducible first|exact HB.out|apply below_alloc|apply pw_below_drewN|apply below_drew1)|exact HB.out)) hb);clear HO_14;clear HL343_0;clear HO347;clear HL348_0;clear HR343_0;clear HR348_0;clear HB;have HO_14:=n0_;have HL343_0:=n1_;have HO347:=n2_;have HL348_0:=n3_;have HO352:=n4_;have HR343_0:=n5_;have HR348_0:=n6_;have HB:=n7_;clear n0_ n1_ n2_ n3_ n4_ n5_ n6_ n7_;(try clear hb);(try clear hb2);(try clear hk);(try clear hi);(try clear ho0);obtain ⟨Ao90,co90,eo90⟩:=Kd.N_slice HO347.out;subst eo90;obtain ⟨Ao91,co91,eo91⟩:=Kd.N_slice HO352.out;subst eo91)|(go_at_call 20;(with_reducible refine (ref26_Same.calls _ _ t344 _ _ t349 false _ ?side1 ?side2 ?side3 ?side4 A82.out).mono ?_);(case side1=>repeat (first|exact (Kd.N_reads' HO347.out).2.2|(with_reducible refine Kd.C_alloc ?_ _)|(with_reducible refine Kd.C_drewN ?_ _)|(with_reducible refine Kd.C_drew ?_)));(case side2=>exact (Kd.N_reads' HO347.out).2.1);(case side3=>repeat (first|exact (Kd.N_reads' HO352.out).2.2|(with_reducible refine Kd.C_alloc ?_ _)|(with_reducible refine Kd.C_drewN ?_ _)|(with_reducible refine Kd.C_drew ?_)));(case side4=>exact (Kd.N_reads' HO352.out).2.1);rintro e w' ⟨rfl,⟨nd,rfl⟩⟩))
                 go_ret
                 exact ⟨by first|rfl|(simp [errW_none,errW_some] <;> rfl)|(simp [*,errW_none,errW_some] <;> rfl),by repeat (first|(with_reducible first|exact HB.out|apply below_alloc|apply pw_below_drewN|apply below_drew1)|exact HB.out)⟩
               ·rw [if_neg c81] at H
                have c81b0:(t345 == t350) = false:=beq_eq_false_iff_ne.mpr c81
                have c81b1:(t345 != t350) = true:=bne_iff_ne.mpr c81
                obtain rfl:=Option.some.inj H
                have p343:0 ≤ (x16_3:Int):=of_decide_eq_true (by first|(with_reducible assumption)|assumption)
                have q343:x16_3 < (x14_37.length:Int):=of_decide_eq_true (by first|(with_reducible assumption)|assumption)
                obtain ⟨ad343,A343_0,c343_0,e343,hx343_0,hl343_0,hi343_0⟩:=at_L2 (Kd.N_reads' HO_14.out).2.2 x16_3 p343 q343
                cases e343
                obtain ⟨ce343,hce343,hMe343,hcc343⟩:=Kd.N_get HO_14.out [] x16_3 p343 (by first|exact q343|exact of_decide_eq_true (by first|(with_reducible assumption)|assumption)|(have e_:=(Kd.N_reads' HO_14.out).1;omega))
                obtain ⟨ua343_0,uc343_0,rfl,ul343_0,ge343_0⟩:=Kd.FK_slice_open hMe343
                have hv343_0:=hcc343 0 _ rfl
                rw [Nat.add_zero,show ((Kd.slice 5 (Kd.int .u8))).sz = 1 from rfl,Nat.mul_one] at hv343_0
                replace hv343_0:=Option.some.inj (hv343_0.symm.trans hx343_0)
                injection hv343_0 with hva_ hvn_ hvc_
                rw [hva_] at ge343_0
                rw [hvc_] at ul343_0
                have HL343_0:=Aside0.mk (show Kd.V (Kd.int .u8) 5 _ w.heap.size _ _ (rd_L2 x14_37 x16_3) from Kd.V_mk ul343_0 ge343_0)
                clear hva_ hvn_ hvc_ ge343_0 ul343_0
                clear hcc343 hce343
                have HR343_0:=Aside0.mk hi343_0
                have HC343_0:=Aside0.mk hl343_0
                clear hi343_0 hl343_0
                replace p343:=eq_true p343
                replace q343:=eq_true q343
                go_wp2_with (first|((with_reducible refine gate_callee (f:=38) rfl ?_);refine goesL_ (some 121) rfl rfl Try.func38 (by kernel_rfl) rfl #[.int .i64 x17_73,.slice A343_0 (rd_L2 x14_37 x16_3).length c343_0] rfl (by (try simp only [List.map_toArray,List.map_cons,List.map_nil]);first|done|rfl|(simp only [List.length_drop,List.length_take];rfl)) ?_;(with_reducible refine (delta_Decode.calls kj73 x17_73 _ _ (rd_L2 x14_37 x16_3) t344 t345 _ ?side1 ?side2 A79.out).mono ?_);(case side1=>repeat (first|exact (by repeat (first|(with_reducible exact HR343_0.out)|(with_reducible refine Kd.C_alloc ?_ _)|(with_reducible refine Kd.C_drewN ?_ _)|(with_reducible refine Kd.C_drew ?_)|exact HR343_0.out))|(with_reducible refine Kd.C_alloc ?_ _)|(with_reducible refine Kd.C_drewN ?_ _)|(with_reducible refine Kd.C_drew ?_)));(case side2=>exact HC343_0.out);rintro e w92 ⟨v346,rfl,ho0,hb⟩;refine ⟨_,rfl,?_⟩;have n0_:=Aside0.mk (Kd.N_elder' (by (with_reducible repeat (first|apply Kd.N_alloc|apply Kd.N_drewN|apply Kd.N_drew));exact HO_14.out) (by first|exact Kd.N_base ho0|exact Kd.S_base ho0) hb);have n1_:=Aside0.mk (Kd.V_elder' (by (with_reducible repeat (first|apply Kd.V_alloc|apply Kd.V_drewN|apply Kd.V_drew));exact HL343_0.out) (by first|exact Kd.N_base ho0|exact Kd.S_base ho0) hb);have n2_:=Aside0.mk (Kd.N_lower (Kd.N_mono (ok':=fun k_=>(P1_ k_ ∨ w.heap.size ≤ k_) ∧ some k_ ≠ (.slice (some ad343) x14_37.length co75:Value).ownBlock) (Kd.S_N (Kd.S_bound ho0)) (fun k_ hk_=>⟨(.inr (Nat.le_trans (below_size (by repeat (first|(with_reducible first|exact HB.out|apply below_alloc|apply pw_below_drewN|apply below_drew1)|exact HB.out))) hk_.2.1)),(Kd.fresh' (Kd.N_lt (by (with_reducible repeat (first|apply Kd.N_alloc|apply Kd.N_drewN|apply Kd.N_drew));exact HO_14.out)) k_ hk_.2.1)⟩)) (below_size (by repeat (first|(with_reducible first|exact HB.out|apply below_alloc|apply pw_below_drewN|apply below_drew1)|exact HB.out))));have n3_:=Aside0.mk (Kd.C_below (by repeat (first|(with_reducible exact HR343_0.out)|(with_reducible refine Kd.C_alloc ?_ _)|(with_reducible refine Kd.C_drewN ?_ _)|(with_reducible refine Kd.C_drew ?_)|exact HR343_0.out)) hb);have n4_:=Aside0.mk (below_step (by repeat (first|(with_reducible first|exact HB.out|apply below_alloc|apply pw_below_drewN|apply below_drew1)|exact HB.out)) hb);clear HO_14;clear HL343_0;clear HR343_0;clear HB;have HO_14:=n0_;have HL343_0:=n1_;have HO347:=n2_;have HR343_0:=n3_;have HB:=n4_;clear n0_ n1_ n2_ n3_ n4_;(try clear hb);(try clear hb2);(try clear hk);(try clear hi);(try clear ho0);have p348:0 ≤ (x16_3:Int):=of_decide_eq_true (by first|(with_reducible assumption)|assumption);have q348:x16_3 < (x14_37.length:Int):=of_decide_eq_true (by first|(with_reducible assumption)|assumption);obtain ⟨ad348,A348_0,c348_0,e348,hx348_0,hl348_0,hi348_0⟩:=at_L2 (Kd.N_reads' HO_14.out).2.2 x16_3 p348 q348;obtain rfl:ad343 = ad348:=(by injection e348);obtain ⟨ce348,hce348,hMe348,hcc348⟩:=Kd.N_get HO_14.out [] x16_3 p348 (by first|exact q348|exact of_decide_eq_true (by first|(with_reducible assumption)|assumption)|(have e_:=(Kd.N_reads' HO_14.out).1;omega));obtain ⟨ua348_0,uc348_0,rfl,ul348_0,ge348_0⟩:=Kd.FK_slice_open hMe348;have hv348_0:=hcc348 0 _ rfl;rw [Nat.add_zero,show ((Kd.slice 5 (Kd.int .u8))).sz = 1 from rfl,Nat.mul_one] at hv348_0;replace hv348_0:=Option.some.inj (hv348_0.symm.trans hx348_0);injection hv348_0 with hva_ hvn_ hvc_;rw [hva_] at ge348_0;rw [hvc_] at ul348_0;have HL348_0:=Aside0.mk (show Kd.V (Kd.int .u8) 5 _ w.heap.size _ _ (rd_L2 x14_37 x16_3) from Kd.V_mk ul348_0 ge348_0);clear hva_ hvn_ hvc_ ge348_0 ul348_0;clear hcc348 hce348;have HR348_0:=Aside0.mk hi348_0;have HC348_0:=Aside0.mk hl348_0;clear hi348_0 hl348_0;replace p348:=eq_true p348;replace q348:=eq_true q348)|((with_reducible refine gate_callee (f:=39) rfl ?_);refine goesL_ (some 130) rfl rfl Try.func39 (by kernel_rfl) rfl #[.int .i64 x17_73,.slice A348_0 (rd_L2 x14_37 x16_3).length c348_0] rfl (by (try simp only [List.map_toArray,List.map_cons,List.map_nil]);first|done|rfl|(simp only [List.length_drop,List.length_take];rfl)) ?_;(with_reducible refine (ref26_Decode.calls kj73 x17_73 _ _ (rd_L2 x14_37 x16_3) t349 t350 _ ?side1 ?side2 A80.out).mono ?_);(case side1=>repeat (first|exact (by repeat (first|(with_reducible exact HR348_0.out)|(with_reducible refine Kd.C_alloc ?_ _)|(with_reducible refine Kd.C_drewN ?_ _)|(with_reducible refine Kd.C_drew ?_)|exact HR348_0.out))|(with_reducible refine Kd.C_alloc ?_ _)|(with_reducible refine Kd.C_drewN ?_ _)|(with_reducible refine Kd.C_drew ?_)));(case side2=>exact HC348_0.out);rintro e w93 ⟨v351,rfl,ho0,hb⟩;refine ⟨_,rfl,?_⟩;have n0_:=Aside0.mk (Kd.N_elder' (by (with_reducible repeat (first|apply Kd.N_alloc|apply Kd.N_drewN|apply Kd.N_drew));exact HO_14.out) (by first|exact Kd.N_base ho0|exact Kd.S_base ho0) hb);have n1_:=Aside0.mk (Kd.V_elder' (by (with_reducible repeat (first|apply Kd.V_alloc|apply Kd.V_drewN|apply Kd.V_drew));exact HL343_0.out) (by first|exact Kd.N_base ho0|exact Kd.S_base ho0) hb);have n2_:=Aside0.mk (Kd.N_elder' (by (with_reducible repeat (first|apply Kd.N_alloc|apply Kd.N_drewN|apply Kd.N_drew));exact HO347.out) (by first|exact Kd.N_base ho0|exact Kd.S_base ho0) hb);have n3_:=Aside0.mk (Kd.V_elder' (by (with_reducible repeat (first|apply Kd.V_alloc|apply Kd.V_drewN|apply Kd.V_drew));exact HL348_0.out) (by first|exact Kd.N_base ho0|exact Kd.S_base ho0) hb);have n4_:=Aside0.mk (Kd.N_lower (Kd.N_mono (ok':=fun k_=>(P1_ k_ ∨ w.heap.size ≤ k_) ∧ some k_ ≠ (.slice (some ad343) x14_37.length co75:Value).ownBlock ∧ some k_ ≠ (v346:Value).ownBlock) (Kd.S_N (Kd.S_bound ho0)) (fun k_ hk_=>⟨(.inr (Nat.le_trans (below_size (by repeat (first|(with_reducible first|exact HB.out|apply below_alloc|apply pw_below_drewN|apply below_drew1)|exact HB.out))) hk_.2.1)),(Kd.fresh' (Kd.N_lt (by (with_reducible repeat (first|apply Kd.N_alloc|apply Kd.N_drewN|apply Kd.N_drew));exact HO_14.out)) k_ hk_.2.1),(Kd.fresh' (Kd.N_lt (by (with_reducible repeat (first|apply Kd.N_alloc|apply Kd.N_drewN|apply Kd.N_drew));exact HO347.out)) k_ hk_.2.1)⟩)) (below_size (by repeat (first|(with_reducible first|exact HB.out|apply below_alloc|apply pw_below_drewN|apply below_drew1)|exact HB.out))));have n5_:=Aside0.mk (Kd.C_below (by repeat (first|(with_reducible exact HR343_0.out)|(with_reducible refine Kd.C_alloc ?_ _)|(with_reducible refine Kd.C_drewN ?_ _)|(with_reducible refine Kd.C_drew ?_)|exact HR343_0.out)) hb);have n6_:=Aside0.mk (Kd.C_below (by repeat (first|(with_reducible exact HR348_0.out)|(with_reducible refine Kd.C_alloc ?_ _)|(with_reducible refine Kd.C_drewN ?_ _)|(with_reducible refine Kd.C_drew ?_)|exact HR348_0.out)) hb);have n7_:=Aside0.mk (below_step (by repeat (first|(with_reducible first|exact HB.out|apply below_alloc|apply pw_below_drewN|apply below_drew1)|exact HB.out)) hb);clear HO_14;clear HL343_0;clear HO347;clear HL348_0;clear HR343_0;clear HR348_0;clear HB;have HO_14:=n0_;have HL343_0:=n1_;have HO347:=n2_;have HL348_0:=n3_;have HO352:=n4_;have HR343_0:=n5_;have HR348_0:=n6_;have HB:=n7_;clear n0_ n1_ n2_ n3_ n4_ n5_ n6_ n7_;(try clear hb);(try clear hb2);(try clear hk);(try clear hi);(try clear ho0)))
                go_ret
                exact ⟨by first|rfl|(simp [errW_none,errW_some] <;> rfl)|(simp [*,errW_none,errW_some] <;> rfl),by repeat (first|(with_reducible first|exact HB.out|apply below_alloc|apply pw_below_drewN|apply below_drew1)|exact HB.out)⟩
              ·rw [if_neg c78] at H
               exact absurd H (by simp)
             ·rw [if_neg c77] at H
              exact absurd H (by simp)
          ·rw [if_neg c73] at H
           have c73b0:decide (x16_3 < (x14_37.length:Int)) = false:=decide_eq_false c73
           clear c73
           obtain rfl:=Option.some.inj H
           obtain ⟨Ao94,co94,eo94⟩:=Kd.N_slice HO_14.out
           subst eo94
           go_wp2
           go_ret
           exact ⟨by first|rfl|(simp [errW_none,errW_some] <;> rfl)|(simp [*,errW_none,errW_some] <;> rfl),by repeat (first|(with_reducible first|exact HB.out|apply below_alloc|apply pw_below_drewN|apply below_drew1)|exact HB.out)⟩
     ·rw [if_neg c37] at H
      exact absurd H (by simp)
    ·rw [if_neg c35] at H
     exact absurd H (by simp)

/-- THE ONE PURE STATEMENT of law26_DeltaForms: yours. -/
def law26_DeltaForms.Pure:Prop:=∀ (a0:Int) (l1:List Int) (l2:List Int),(Lit.int .i64 a0).wf = true → l1.length ≤ maxLen → l1.length * 1 ≤ 140737488351232 → (∀ x ∈ l1,(Lit.int .u8 x).wf = true) → l2.length ≤ maxLen → l2.length * 8 ≤ 140737488351232 → (∀ x ∈ l2,(Lit.int .i64 x).wf = true) → ∃ k,law26_DeltaForms.f k a0 l1 l2 = some true
theorem law26_DeltaForms.walk (P:law26_DeltaForms.Pure) (a0:Int) (a1:Option Addr) (len1 cap1:Nat) (z1:List Int) (a2:Option Addr) (len2 cap2:Nat) (z2:List Int) (w:World) (w0:(Lit.int .i64 a0).wf = true) (w1:(a1 = none ∧ len1 = 0 ∧ cap1 = 0 ∧ z1 = []) ∨ ∃ x,a1 = some x ∧ len1 ≤ cap1 ∧ cap1 ≤ maxLen ∧ z1.length = cap1 ∧ (∀ i,i < z1.length → w.cell? (x.add i) = some (.int .u8 (z1.getD i 0))) ∧ ∀ n ∈ z1,(Lit.int .u8 n).wf = true) (y1:len1 * 1 ≤ 140737488351232) (w2:(a2 = none ∧ len2 = 0 ∧ cap2 = 0 ∧ z2 = []) ∨ ∃ x,a2 = some x ∧ len2 ≤ cap2 ∧ cap2 ≤ maxLen ∧ z2.length = cap2 ∧ (∀ i,i < z2.length → w.cell? (x.add i) = some (.int .i64 (z2.getD i 0))) ∧ ∀ n ∈ z2,(Lit.int .i64 n).wf = true) (y2:len2 * 8 ≤ 140737488351232) :
  Calls Try.prog 12 #[.int .i64 a0,.slice a1 len1 cap1,.slice a2 len2 cap2] w fun e w'=>e = .returned (.bool true) ∧ Below w.heap.size w w':=by
 obtain ⟨l1,rfl,hr1,hm1,hw1,hc1⟩:=ReadsInt.ofRowC w1
 obtain ⟨l2,rfl,hr2,hm2,hw2,hc2⟩:=ReadsInt.ofRowC w2
 obtain ⟨k,h⟩:=P a0 l1 l2 w0 hm1 y1 hw1 hm2 y2 hw2
 refine (law26_DeltaForms.calls k a0 (fun k_=>k_ < w.heap.size) _ _ l1 _ _ l2 true w (Kd.V_mk hc1 (Kd.C_F (Kd.heap_int _) (Kd.C_of_reads (d:=(0:Int)) (h1:=fun _=>rfl) hr1))) (Kd.C_of_reads (d:=(0:Int)) (h1:=fun _=>rfl) hr2) hc2 h).mono ?_
 rintro e w' ⟨rfl,hd⟩
 exact ⟨rfl,hd⟩

end Go.Proofs.Ytjckjcekapkkjaa.P
