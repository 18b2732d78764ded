-- WRITTEN BY myprint.py (wip/tools) for this seat
import Derived.Test.YtjckjcekapkkjaaPx0
import Derived.Test.YtjckjcekapkkjaaPx1
import Derived.Test.YtjckjcekapkkjaaPx2
import Derived.Test.YtjckjcekapkkjaaPx3
import Derived.Test.YtjckjcekapkkjaaHContains
import Derived.Test.YtjckjcekapkkjaaHKnown
import Derived.Test.YtjckjcekapkkjaaHMake
namespace Go.Proofs.Ytjckjcekapkkjaa.P
open Go.RowKit Go.Proofs.YtjckjcekapkkjaaW.PrintWords Go.Proofs.YtjckjcekapkkjaaW.PrintLast Go.Proofs.YtjckjcekapkkjaaW.PrintMore
attribute [local go_sem] max2_int min2_int max_two min_two max_three min_three max_four min_four   -- for this text's walks alone
set_option linter.unusedVariables false
set_option linter.unusedSimpArgs false

/-! ### law26_DeltaGreedy: function 14 -/
mutual
def law26_DeltaGreedy.j0:Nat → List Int → List Int → List (S39) → Bool → Option (Bool)
 | 0,_,_,_,_=>none
 | k + 1,x4,x5,x6,x36=>if x36 = true then (some false) else (law26_DeltaGreedy.l0 k x4 x5 x6 0 0)
def law26_DeltaGreedy.l0:Nat → List Int → List Int → List (S39) → Int → Int → Option (Bool)
 | 0,_,_,_,_,_=>none
 | k + 1,x4,x5,x6,x8,x9=>if x9 < (x6.length:Int) then (law26_DeltaGreedy.l1 k x4 x5 x6 x8 x9 0) else (some true)
def law26_DeltaGreedy.l1:Nat → List Int → List Int → List (S39) → Int → Int → Int → Option (Bool)
 | 0,_,_,_,_,_,_=>none
 | k + 1,x4,x5,x6,x8,x9,x10=>if 0 ≤ x9 then (if x9 < (x6.length:Int) then (if x10 < (((rd_T39 x6 x9).f2).length:Int) then (law26_DeltaGreedy.j3 k x4 x5 x6 x8 x9 x10 (decide ((wrap64 ((wrap64 (x8 + x10)) + 4)) ≤ (x5.length:Int)))) else (law26_DeltaGreedy.j3 k x4 x5 x6 x8 x9 x10 false)) else (none)) else (none)
def law26_DeltaGreedy.j3:Nat → List Int → List Int → List (S39) → Int → Int → Int → Bool → Option (Bool)
 | 0,_,_,_,_,_,_,_=>none
 | k + 1,x4,x5,x6,x8,x9,x10,x59=>if x59 = true then (if 0 ≤ (wrap64 (x8 + x10)) then (if (wrap64 (x8 + x10)) ≤ (wrap64 ((wrap64 (x8 + x10)) + 4)) then (if (wrap64 ((wrap64 (x8 + x10)) + 4)) ≤ (x5.length:Int) then ((strings_Contains.f (strOfNums x4) (strOfNums ((x5.take ((wrap64 ((wrap64 (x8 + x10)) + 4)):Int).toNat).drop ((wrap64 (x8 + x10)):Int).toNat))).bind fun t180=>(if t180 = true then (some false) else (law26_DeltaGreedy.l1 k x4 x5 x6 x8 x9 (wrap64 (x10 + 1))))) else (none)) else (none)) else (none)) else (if 0 ≤ x9 then (if x9 < (x6.length:Int) then (if ((rd_T39 x6 x9).f1) > 0 then (if ((rd_T39 x6 x9).f1) < 4 then (some false) else (law26_DeltaGreedy.l0 k x4 x5 x6 (wrap64 (x8 + (wrap64 (((rd_T39 x6 x9).f1) + (((rd_T39 x6 x9).f2).length:Int))))) (wrap64 (x9 + 1)))) else (law26_DeltaGreedy.l0 k x4 x5 x6 (wrap64 (x8 + (wrap64 (((rd_T39 x6 x9).f1) + (((rd_T39 x6 x9).f2).length:Int))))) (wrap64 (x9 + 1)))) else (none)) else (none))
end
def law26_DeltaGreedy.f (k:Nat) (l0:List Int):Option (Bool):=(law26_text.f k l0 0 60).bind fun bt161=>((law26_text.f k l0 bt161.2 60).bind fun bt165=>((delta_Make.f bt161.1 bt165.1).bind fun bt169=>((law26_known.f).bind fun t173=>(if t173 = true then (if bt169.2 = 0 then ((law26_size.f k bt169.1).bind fun t174=>(law26_DeltaGreedy.j0 k bt161.1 bt165.1 bt169.1 (t174 != (bt165.1.length:Int)))) else (law26_DeltaGreedy.j0 k bt161.1 bt165.1 bt169.1 true)) else (law26_DeltaGreedy.j0 k bt161.1 bt165.1 bt169.1 true)))))
set_option maxHeartbeats 8000000 in
set_option maxRecDepth 100000 in
theorem law26_DeltaGreedy.calls (k:Nat) (A0:Option Addr) (c0:Nat) (l0:List Int) (r:Bool) (w:World) (hmx:MaxL w) (hr0:Kd.C (Kd.int .i64) w A0 l0.length l0) (hc0:l0.length ≤ c0) (h:law26_DeltaGreedy.f k l0 = some r) :
  Calls Try.prog 14 #[.slice A0 l0.length c0] w fun e w'=>e = .returned (.bool r) ∧ Below w.heap.size w w':=by
 have HMX:=Aside0.mk hmx
 have hu25:=Try.underlying25
 have HR0:=Aside0.mk hr0
 have HC0:=Aside0.mk hc0
 clear hr0 hc0
 have HB:=Aside0.mk (Below.refl w.heap.size w)
 have H:((law26_text.f k l0 0 60).bind fun bt161=>((law26_text.f k l0 bt161.2 60).bind fun bt165=>((delta_Make.f bt161.1 bt165.1).bind fun bt169=>((law26_known.f).bind fun t173=>(if t173 = true then (if bt169.2 = 0 then ((law26_size.f k bt169.1).bind fun t174=>(law26_DeltaGreedy.j0 k bt161.1 bt165.1 bt169.1 (t174 != (bt165.1.length:Int)))) else (law26_DeltaGreedy.j0 k bt161.1 bt165.1 bt169.1 true)) else (law26_DeltaGreedy.j0 k bt161.1 bt165.1 bt169.1 true)))))) = some r:=h
 clear h
 replace H:=Option.bind_eq_some_iff.mp H
 obtain ⟨⟨t161,t164⟩,A20,H⟩:=H
 replace H:((law26_text.f k l0 t164 60).bind fun bt165=>((delta_Make.f t161 bt165.1).bind fun bt169=>((law26_known.f).bind fun t173=>(if t173 = true then (if bt169.2 = 0 then ((law26_size.f k bt169.1).bind fun t174=>(law26_DeltaGreedy.j0 k t161 bt165.1 bt169.1 (t174 != (bt165.1.length:Int)))) else (law26_DeltaGreedy.j0 k t161 bt165.1 bt169.1 true)) else (law26_DeltaGreedy.j0 k t161 bt165.1 bt169.1 true))))) = some r:=H
 have A2:=Aside0.mk A20
 clear A20
 replace H:=Option.bind_eq_some_iff.mp H
 obtain ⟨⟨t165,t168⟩,A30,H⟩:=H
 replace H:((delta_Make.f t161 t165).bind fun bt169=>((law26_known.f).bind fun t173=>(if t173 = true then (if bt169.2 = 0 then ((law26_size.f k bt169.1).bind fun t174=>(law26_DeltaGreedy.j0 k t161 t165 bt169.1 (t174 != (t165.length:Int)))) else (law26_DeltaGreedy.j0 k t161 t165 bt169.1 true)) else (law26_DeltaGreedy.j0 k t161 t165 bt169.1 true)))) = some r:=H
 have A3:=Aside0.mk A30
 clear A30
 replace H:=Option.bind_eq_some_iff.mp H
 obtain ⟨⟨t169,t170⟩,A40,H⟩:=H
 replace H:((law26_known.f).bind fun t173=>(if t173 = true then (if t170 = 0 then ((law26_size.f k t169).bind fun t174=>(law26_DeltaGreedy.j0 k t161 t165 t169 (t174 != (t165.length:Int)))) else (law26_DeltaGreedy.j0 k t161 t165 t169 true)) else (law26_DeltaGreedy.j0 k t161 t165 t169 true))) = some r:=H
 have A4:=Aside0.mk A40
 clear A40
 have HC5:=Aside0.mk H
 clear H
 go_enter Try.func14,Try.ntmps14
 go_upto_region 4 with (first|((with_reducible refine gate_dst (N:=13) rfl ?_);(try (refine gate_guard (by rfl) ?_;dsimp only));refine box_event ?hg (N:=13) ?hd (cs:=#[.slice A0 l0.length c0,.int .i64 0]) (t:=25) ?hr ?_;(case hd=>rfl);(case hg=>rfl);(case hr=>first|(go_simp;done)|(go_simp;rfl));intro gb160 hg w6 hbox hb;have n0_:=Aside0.mk (below_step (by repeat (first|(with_reducible first|exact HB.out|apply below_alloc|apply pw_below_drewN|apply below_drew1)|exact HB.out)) hb);have n1_:=Aside0.mk ((by rw [hg];exact (below_size (by repeat (first|(with_reducible first|exact HB.out|apply below_alloc|apply pw_below_drewN|apply below_drew1)|exact HB.out))):w.heap.size ≤ gb160));have n2_:=Aside0.mk ((by rw [hg];exact (below_size (by repeat (first|(with_reducible first|exact HB.out|apply below_alloc|apply pw_below_drewN|apply below_drew1)|exact HB.out))):w.heap.size ≤ gb160));have n3_:=Aside0.mk ((show IsS25 w w6 gb160 l0 0 from ⟨_,_,hbox,(by rw [hg];exact (below_size (by repeat (first|(with_reducible first|exact HB.out|apply below_alloc|apply pw_below_drewN|apply below_drew1)|exact HB.out))):w.heap.size ≤ gb160),HR0.out⟩));clear HB;have HB:=n0_;have GW160:=n1_;have GE160:=n2_;have HI160:=n3_;clear n0_ n1_ n2_ n3_;clear hb hbox hg)|(go_at_call 15;(with_reducible refine (law26_text.calls k gb160 l0 0 60 t161 t164 w _ ?side1 ?side2 A2.out).mono ?_);(case side1=>repeat (first|(with_reducible first|exact HI160.out|apply IsS25.alloc|apply IsS25.drewN|apply IsS25.drew|apply IsS25.set_1)|exact HI160.out));(case side2=>repeat (first|(with_reducible first|exact HB.out|apply below_alloc|apply pw_below_drewN|apply below_drew1|refine below_set ?_ (IsS25.ge HI160.out))|exact HB.out));rintro e w7 ⟨v162,rfl,ho0,hi,hb,hk⟩;have n0_:=Aside0.mk (Kd.R_lower ho0 (below_size (by repeat (first|(with_reducible first|exact HB.out|apply below_alloc|apply pw_below_drewN|apply below_drew1|refine below_set ?_ (IsS25.ge HI160.out))|exact HB.out))));have n1_:=Aside0.mk (hb);have n2_:=Aside0.mk (hi);clear HB;clear HI160;have HO163:=n0_;have HB:=n1_;have HI160:=n2_;clear n0_ n1_ n2_;(try clear hb);(try clear hb2);(try clear hk);(try clear hi);(try clear ho0))|(go_at_call 15;(with_reducible refine (law26_text.calls k gb160 l0 t164 60 t165 t168 w _ ?side1 ?side2 A3.out).mono ?_);(case side1=>repeat (first|(with_reducible first|exact HI160.out|apply IsS25.alloc|apply IsS25.drewN|apply IsS25.drew|apply IsS25.set_1)|exact HI160.out));(case side2=>repeat (first|(with_reducible first|exact HB.out|apply below_alloc|apply pw_below_drewN|apply below_drew1|refine below_set ?_ (IsS25.ge HI160.out))|exact HB.out));rintro e w8 ⟨v166,rfl,ho0,hi,hb,hk⟩;have n0_:=Aside0.mk (Kd.R_mono (Kd.R_told (Kd.R_oldK (IsS25.apart (show IsS25 w _ gb160 l0 t164 from by repeat (first|(with_reducible first|exact HI160.out|apply IsS25.alloc|apply IsS25.drewN|apply IsS25.drew|apply IsS25.set_1)|exact HI160.out)) (by (with_reducible repeat (first|apply Kd.R_alloc|apply Kd.R_drewN|apply Kd.R_drew));exact HO163.out) (by decide)) hk) (Kd.R_base ho0)) (fun _ h_=>h_.1));have n1_:=Aside0.mk (Kd.R_lower (Kd.R_new' ho0 (Kd.R_lt (by (with_reducible repeat (first|apply Kd.R_alloc|apply Kd.R_drewN|apply Kd.R_drew));exact HO163.out))) (below_size (by repeat (first|(with_reducible first|exact HB.out|apply below_alloc|apply pw_below_drewN|apply below_drew1|refine below_set ?_ (IsS25.ge HI160.out))|exact HB.out))));have n2_:=Aside0.mk (hb);have n3_:=Aside0.mk (hi);clear HO163;clear HB;clear HI160;have HO163:=n0_;have HO167:=n1_;have HB:=n2_;have HI160:=n3_;clear n0_ n1_ n2_ n3_;(try clear hb);(try clear hb2);(try clear hk);(try clear hi);(try clear ho0);obtain ⟨Ao9,co9,eo9⟩:=Kd.R_slice HO163.out;subst eo9;obtain ⟨Ao10,co10,eo10⟩:=Kd.R_slice HO167.out;subst eo10)|(go_at_call 17;(with_reducible refine (delta_Make.calls _ _ t161 _ _ t165 t169 t170 _ ?side1 ?side2 ?side3 ?side4 A4.out).mono ?_);(case side1=>repeat (first|exact (Kd.R_reads' HO163.out).2.2|(with_reducible refine Kd.C_alloc ?_ _)|(with_reducible refine Kd.C_drewN ?_ _)|(with_reducible refine Kd.C_drew ?_)));(case side2=>exact (Kd.R_reads' HO163.out).2.1);(case side3=>repeat (first|exact (Kd.R_reads' HO167.out).2.2|(with_reducible refine Kd.C_alloc ?_ _)|(with_reducible refine Kd.C_drewN ?_ _)|(with_reducible refine Kd.C_drew ?_)));(case side4=>exact (Kd.R_reads' HO167.out).2.1);rintro e w11 ⟨v171,rfl,ho0,hb⟩;have n0_:=Aside0.mk (Kd.R_below (by (with_reducible repeat (first|apply Kd.R_alloc|apply Kd.R_drewN|apply Kd.R_drew));exact HO163.out) hb);have n1_:=Aside0.mk (Kd.R_below (by (with_reducible repeat (first|apply Kd.R_alloc|apply Kd.R_drewN|apply Kd.R_drew));exact HO167.out) hb);have n2_:=Aside0.mk (Kd.S_lower (Kd.S_new' (Kd.S_new' ho0 (Kd.R_lt (by (with_reducible repeat (first|apply Kd.R_alloc|apply Kd.R_drewN|apply Kd.R_drew));exact HO163.out))) (Kd.R_lt (by (with_reducible repeat (first|apply Kd.R_alloc|apply Kd.R_drewN|apply Kd.R_drew));exact HO167.out))) (below_size (by repeat (first|(with_reducible first|exact HB.out|apply below_alloc|apply pw_below_drewN|apply below_drew1|refine below_set ?_ (IsS25.ge HI160.out))|exact HB.out))));have n3_:=Aside0.mk (IsS25.below (by repeat (first|(with_reducible first|exact HI160.out|apply IsS25.alloc|apply IsS25.drewN|apply IsS25.drew|apply IsS25.set_1)|exact HI160.out)) hb);have n4_:=Aside0.mk (below_step (by repeat (first|(with_reducible first|exact HB.out|apply below_alloc|apply pw_below_drewN|apply below_drew1|refine below_set ?_ (IsS25.ge HI160.out))|exact HB.out)) hb);clear HO163;clear HO167;clear HI160;clear HB;have HO163:=n0_;have HO167:=n1_;have HO172:=n2_;have HI160:=n3_;have HB:=n4_;clear n0_ n1_ n2_ n3_ n4_;(try clear hb);(try clear hb2);(try clear hk);(try clear hi);(try clear ho0)))
 repeat (go_quiet (first|((with_reducible refine gate_dst (N:=13) rfl ?_);(try (refine gate_guard (by rfl) ?_;dsimp only));refine box_event ?hg (N:=13) ?hd (cs:=#[.slice A0 l0.length c0,.int .i64 0]) (t:=25) ?hr ?_;(case hd=>rfl);(case hg=>rfl);(case hr=>first|(go_simp;done)|(go_simp;rfl));intro gb160 hg w6 hbox hb;have n0_:=Aside0.mk (below_step (by repeat (first|(with_reducible first|exact HB.out|apply below_alloc|apply pw_below_drewN|apply below_drew1)|exact HB.out)) hb);have n1_:=Aside0.mk ((by rw [hg];exact (below_size (by repeat (first|(with_reducible first|exact HB.out|apply below_alloc|apply pw_below_drewN|apply below_drew1)|exact HB.out))):w.heap.size ≤ gb160));have n2_:=Aside0.mk ((by rw [hg];exact (below_size (by repeat (first|(with_reducible first|exact HB.out|apply below_alloc|apply pw_below_drewN|apply below_drew1)|exact HB.out))):w.heap.size ≤ gb160));have n3_:=Aside0.mk ((show IsS25 w w6 gb160 l0 0 from ⟨_,_,hbox,(by rw [hg];exact (below_size (by repeat (first|(with_reducible first|exact HB.out|apply below_alloc|apply pw_below_drewN|apply below_drew1)|exact HB.out))):w.heap.size ≤ gb160),HR0.out⟩));clear HB;have HB:=n0_;have GW160:=n1_;have GE160:=n2_;have HI160:=n3_;clear n0_ n1_ n2_ n3_;clear hb hbox hg)|(go_at_call 15;(with_reducible refine (law26_text.calls k gb160 l0 0 60 t161 t164 w _ ?side1 ?side2 A2.out).mono ?_);(case side1=>repeat (first|(with_reducible first|exact HI160.out|apply IsS25.alloc|apply IsS25.drewN|apply IsS25.drew|apply IsS25.set_1)|exact HI160.out));(case side2=>repeat (first|(with_reducible first|exact HB.out|apply below_alloc|apply pw_below_drewN|apply below_drew1|refine below_set ?_ (IsS25.ge HI160.out))|exact HB.out));rintro e w7 ⟨v162,rfl,ho0,hi,hb,hk⟩;have n0_:=Aside0.mk (Kd.R_lower ho0 (below_size (by repeat (first|(with_reducible first|exact HB.out|apply below_alloc|apply pw_below_drewN|apply below_drew1|refine below_set ?_ (IsS25.ge HI160.out))|exact HB.out))));have n1_:=Aside0.mk (hb);have n2_:=Aside0.mk (hi);clear HB;clear HI160;have HO163:=n0_;have HB:=n1_;have HI160:=n2_;clear n0_ n1_ n2_;(try clear hb);(try clear hb2);(try clear hk);(try clear hi);(try clear ho0))|(go_at_call 15;(with_reducible refine (law26_text.calls k gb160 l0 t164 60 t165 t168 w _ ?side1 ?side2 A3.out).mono ?_);(case side1=>repeat (first|(with_reducible first|exact HI160.out|apply IsS25.alloc|apply IsS25.drewN|apply IsS25.drew|apply IsS25.set_1)|exact HI160.out));(case side2=>repeat (first|(with_reducible first|exact HB.out|apply below_alloc|apply pw_below_drewN|apply below_drew1|refine below_set ?_ (IsS25.ge HI160.out))|exact HB.out));rintro e w8 ⟨v166,rfl,ho0,hi,hb,hk⟩;have n0_:=Aside0.mk (Kd.R_mono (Kd.R_told (Kd.R_oldK (IsS25.apart (show IsS25 w _ gb160 l0 t164 from by repeat (first|(with_reducible first|exact HI160.out|apply IsS25.alloc|apply IsS25.drewN|apply IsS25.drew|apply IsS25.set_1)|exact HI160.out)) (by (with_reducible repeat (first|apply Kd.R_alloc|apply Kd.R_drewN|apply Kd.R_drew));exact HO163.out) (by decide)) hk) (Kd.R_base ho0)) (fun _ h_=>h_.1));have n1_:=Aside0.mk (Kd.R_lower (Kd.R_new' ho0 (Kd.R_lt (by (with_reducible repeat (first|apply Kd.R_alloc|apply Kd.R_drewN|apply Kd.R_drew));exact HO163.out))) (below_size (by repeat (first|(with_reducible first|exact HB.out|apply below_alloc|apply pw_below_drewN|apply below_drew1|refine below_set ?_ (IsS25.ge HI160.out))|exact HB.out))));have n2_:=Aside0.mk (hb);have n3_:=Aside0.mk (hi);clear HO163;clear HB;clear HI160;have HO163:=n0_;have HO167:=n1_;have HB:=n2_;have HI160:=n3_;clear n0_ n1_ n2_ n3_;(try clear hb);(try clear hb2);(try clear hk);(try clear hi);(try clear ho0);obtain ⟨Ao9,co9,eo9⟩:=Kd.R_slice HO163.out;subst eo9;obtain ⟨Ao10,co10,eo10⟩:=Kd.R_slice HO167.out;subst eo10)|(go_at_call 17;(with_reducible refine (delta_Make.calls _ _ t161 _ _ t165 t169 t170 _ ?side1 ?side2 ?side3 ?side4 A4.out).mono ?_);(case side1=>repeat (first|exact (Kd.R_reads' HO163.out).2.2|(with_reducible refine Kd.C_alloc ?_ _)|(with_reducible refine Kd.C_drewN ?_ _)|(with_reducible refine Kd.C_drew ?_)));(case side2=>exact (Kd.R_reads' HO163.out).2.1);(case side3=>repeat (first|exact (Kd.R_reads' HO167.out).2.2|(with_reducible refine Kd.C_alloc ?_ _)|(with_reducible refine Kd.C_drewN ?_ _)|(with_reducible refine Kd.C_drew ?_)));(case side4=>exact (Kd.R_reads' HO167.out).2.1);rintro e w11 ⟨v171,rfl,ho0,hb⟩;have n0_:=Aside0.mk (Kd.R_below (by (with_reducible repeat (first|apply Kd.R_alloc|apply Kd.R_drewN|apply Kd.R_drew));exact HO163.out) hb);have n1_:=Aside0.mk (Kd.R_below (by (with_reducible repeat (first|apply Kd.R_alloc|apply Kd.R_drewN|apply Kd.R_drew));exact HO167.out) hb);have n2_:=Aside0.mk (Kd.S_lower (Kd.S_new' (Kd.S_new' ho0 (Kd.R_lt (by (with_reducible repeat (first|apply Kd.R_alloc|apply Kd.R_drewN|apply Kd.R_drew));exact HO163.out))) (Kd.R_lt (by (with_reducible repeat (first|apply Kd.R_alloc|apply Kd.R_drewN|apply Kd.R_drew));exact HO167.out))) (below_size (by repeat (first|(with_reducible first|exact HB.out|apply below_alloc|apply pw_below_drewN|apply below_drew1|refine below_set ?_ (IsS25.ge HI160.out))|exact HB.out))));have n3_:=Aside0.mk (IsS25.below (by repeat (first|(with_reducible first|exact HI160.out|apply IsS25.alloc|apply IsS25.drewN|apply IsS25.drew|apply IsS25.set_1)|exact HI160.out)) hb);have n4_:=Aside0.mk (below_step (by repeat (first|(with_reducible first|exact HB.out|apply below_alloc|apply pw_below_drewN|apply below_drew1|refine below_set ?_ (IsS25.ge HI160.out))|exact HB.out)) hb);clear HO163;clear HO167;clear HI160;clear HB;have HO163:=n0_;have HO167:=n1_;have HO172:=n2_;have HI160:=n3_;have HB:=n4_;clear n0_ n1_ n2_ n3_ n4_;(try clear hb);(try clear hb2);(try clear hk);(try clear hi);(try clear ho0)));go_upto_region 4 with (first|((with_reducible refine gate_dst (N:=13) rfl ?_);(try (refine gate_guard (by rfl) ?_;dsimp only));refine box_event ?hg (N:=13) ?hd (cs:=#[.slice A0 l0.length c0,.int .i64 0]) (t:=25) ?hr ?_;(case hd=>rfl);(case hg=>rfl);(case hr=>first|(go_simp;done)|(go_simp;rfl));intro gb160 hg w6 hbox hb;have n0_:=Aside0.mk (below_step (by repeat (first|(with_reducible first|exact HB.out|apply below_alloc|apply pw_below_drewN|apply below_drew1)|exact HB.out)) hb);have n1_:=Aside0.mk ((by rw [hg];exact (below_size (by repeat (first|(with_reducible first|exact HB.out|apply below_alloc|apply pw_below_drewN|apply below_drew1)|exact HB.out))):w.heap.size ≤ gb160));have n2_:=Aside0.mk ((by rw [hg];exact (below_size (by repeat (first|(with_reducible first|exact HB.out|apply below_alloc|apply pw_below_drewN|apply below_drew1)|exact HB.out))):w.heap.size ≤ gb160));have n3_:=Aside0.mk ((show IsS25 w w6 gb160 l0 0 from ⟨_,_,hbox,(by rw [hg];exact (below_size (by repeat (first|(with_reducible first|exact HB.out|apply below_alloc|apply pw_below_drewN|apply below_drew1)|exact HB.out))):w.heap.size ≤ gb160),HR0.out⟩));clear HB;have HB:=n0_;have GW160:=n1_;have GE160:=n2_;have HI160:=n3_;clear n0_ n1_ n2_ n3_;clear hb hbox hg)|(go_at_call 15;(with_reducible refine (law26_text.calls k gb160 l0 0 60 t161 t164 w _ ?side1 ?side2 A2.out).mono ?_);(case side1=>repeat (first|(with_reducible first|exact HI160.out|apply IsS25.alloc|apply IsS25.drewN|apply IsS25.drew|apply IsS25.set_1)|exact HI160.out));(case side2=>repeat (first|(with_reducible first|exact HB.out|apply below_alloc|apply pw_below_drewN|apply below_drew1|refine below_set ?_ (IsS25.ge HI160.out))|exact HB.out));rintro e w7 ⟨v162,rfl,ho0,hi,hb,hk⟩;have n0_:=Aside0.mk (Kd.R_lower ho0 (below_size (by repeat (first|(with_reducible first|exact HB.out|apply below_alloc|apply pw_below_drewN|apply below_drew1|refine below_set ?_ (IsS25.ge HI160.out))|exact HB.out))));have n1_:=Aside0.mk (hb);have n2_:=Aside0.mk (hi);clear HB;clear HI160;have HO163:=n0_;have HB:=n1_;have HI160:=n2_;clear n0_ n1_ n2_;(try clear hb);(try clear hb2);(try clear hk);(try clear hi);(try clear ho0))|(go_at_call 15;(with_reducible refine (law26_text.calls k gb160 l0 t164 60 t165 t168 w _ ?side1 ?side2 A3.out).mono ?_);(case side1=>repeat (first|(with_reducible first|exact HI160.out|apply IsS25.alloc|apply IsS25.drewN|apply IsS25.drew|apply IsS25.set_1)|exact HI160.out));(case side2=>repeat (first|(with_reducible first|exact HB.out|apply below_alloc|apply pw_below_drewN|apply below_drew1|refine below_set ?_ (IsS25.ge HI160.out))|exact HB.out));rintro e w8 ⟨v166,rfl,ho0,hi,hb,hk⟩;have n0_:=Aside0.mk (Kd.R_mono (Kd.R_told (Kd.R_oldK (IsS25.apart (show IsS25 w _ gb160 l0 t164 from by repeat (first|(with_reducible first|exact HI160.out|apply IsS25.alloc|apply IsS25.drewN|apply IsS25.drew|apply IsS25.set_1)|exact HI160.out)) (by (with_reducible repeat (first|apply Kd.R_alloc|apply Kd.R_drewN|apply Kd.R_drew));exact HO163.out) (by decide)) hk) (Kd.R_base ho0)) (fun _ h_=>h_.1));have n1_:=Aside0.mk (Kd.R_lower (Kd.R_new' ho0 (Kd.R_lt (by (with_reducible repeat (first|apply Kd.R_alloc|apply Kd.R_drewN|apply Kd.R_drew));exact HO163.out))) (below_size (by repeat (first|(with_reducible first|exact HB.out|apply below_alloc|apply pw_below_drewN|apply below_drew1|refine below_set ?_ (IsS25.ge HI160.out))|exact HB.out))));have n2_:=Aside0.mk (hb);have n3_:=Aside0.mk (hi);clear HO163;clear HB;clear HI160;have HO163:=n0_;have HO167:=n1_;have HB:=n2_;have HI160:=n3_;clear n0_ n1_ n2_ n3_;(try clear hb);(try clear hb2);(try clear hk);(try clear hi);(try clear ho0);obtain ⟨Ao9,co9,eo9⟩:=Kd.R_slice HO163.out;subst eo9;obtain ⟨Ao10,co10,eo10⟩:=Kd.R_slice HO167.out;subst eo10)|(go_at_call 17;(with_reducible refine (delta_Make.calls _ _ t161 _ _ t165 t169 t170 _ ?side1 ?side2 ?side3 ?side4 A4.out).mono ?_);(case side1=>repeat (first|exact (Kd.R_reads' HO163.out).2.2|(with_reducible refine Kd.C_alloc ?_ _)|(with_reducible refine Kd.C_drewN ?_ _)|(with_reducible refine Kd.C_drew ?_)));(case side2=>exact (Kd.R_reads' HO163.out).2.1);(case side3=>repeat (first|exact (Kd.R_reads' HO167.out).2.2|(with_reducible refine Kd.C_alloc ?_ _)|(with_reducible refine Kd.C_drewN ?_ _)|(with_reducible refine Kd.C_drew ?_)));(case side4=>exact (Kd.R_reads' HO167.out).2.1);rintro e w11 ⟨v171,rfl,ho0,hb⟩;have n0_:=Aside0.mk (Kd.R_below (by (with_reducible repeat (first|apply Kd.R_alloc|apply Kd.R_drewN|apply Kd.R_drew));exact HO163.out) hb);have n1_:=Aside0.mk (Kd.R_below (by (with_reducible repeat (first|apply Kd.R_alloc|apply Kd.R_drewN|apply Kd.R_drew));exact HO167.out) hb);have n2_:=Aside0.mk (Kd.S_lower (Kd.S_new' (Kd.S_new' ho0 (Kd.R_lt (by (with_reducible repeat (first|apply Kd.R_alloc|apply Kd.R_drewN|apply Kd.R_drew));exact HO163.out))) (Kd.R_lt (by (with_reducible repeat (first|apply Kd.R_alloc|apply Kd.R_drewN|apply Kd.R_drew));exact HO167.out))) (below_size (by repeat (first|(with_reducible first|exact HB.out|apply below_alloc|apply pw_below_drewN|apply below_drew1|refine below_set ?_ (IsS25.ge HI160.out))|exact HB.out))));have n3_:=Aside0.mk (IsS25.below (by repeat (first|(with_reducible first|exact HI160.out|apply IsS25.alloc|apply IsS25.drewN|apply IsS25.drew|apply IsS25.set_1)|exact HI160.out)) hb);have n4_:=Aside0.mk (below_step (by repeat (first|(with_reducible first|exact HB.out|apply below_alloc|apply pw_below_drewN|apply below_drew1|refine below_set ?_ (IsS25.ge HI160.out))|exact HB.out)) hb);clear HO163;clear HO167;clear HI160;clear HB;have HO163:=n0_;have HO167:=n1_;have HO172:=n2_;have HI160:=n3_;have HB:=n4_;clear n0_ n1_ n2_ n3_ n4_;(try clear hb);(try clear hb2);(try clear hk);(try clear hi);(try clear ho0))))
 (try simp only [Act.put,List.setIfInBounds_toArray,List.set_cons_zero,List.set_cons_succ])
 go_cut [36] (fun v36 wc=>∃ (kq:Nat) (x36_4:Bool),v36 = .bool x36_4 ∧ Aside0 (law26_DeltaGreedy.j0 kq t161 t165 t169 x36_4 = some r) ∧ Aside0 (kq ≤ k) ∧ Aside0 (Kd.R (Kd.int .u8) 5 wc w.heap.size (fun k_=>some k_ ≠ ((.slice Ao10 t165.length co10):Value).ownBlock) (.slice Ao9 t161.length co9) t161) ∧ Aside0 (Kd.R (Kd.int .u8) 5 wc w.heap.size (fun k_=>some k_ ≠ ((.slice Ao9 t161.length co9):Value).ownBlock) (.slice Ao10 t165.length co10) t165) ∧ Aside0 (Kd.S k39 39 wc w.heap.size (fun k_=>some k_ ≠ ((.slice Ao9 t161.length co9):Value).ownBlock ∧ some k_ ≠ ((.slice Ao10 t165.length co10):Value).ownBlock) v171 t169) ∧ Aside0 (Below w.heap.size w wc))
 case first =>
  have H:=HC5.out
  clear HC5
  replace H:=Option.bind_eq_some_iff.mp H
  obtain ⟨t173,A120,H⟩:=H
  replace H:(if t173 = true then (if t170 = 0 then ((law26_size.f k t169).bind fun t174=>(law26_DeltaGreedy.j0 k t161 t165 t169 (t174 != (t165.length:Int)))) else (law26_DeltaGreedy.j0 k t161 t165 t169 true)) else (law26_DeltaGreedy.j0 k t161 t165 t169 true)) = some r:=H
  have A12:=Aside0.mk A120
  clear A120
  by_cases c13:t173 = true
  ·subst c13
   have H1:(if t170 = 0 then ((law26_size.f k t169).bind fun t174=>(law26_DeltaGreedy.j0 k t161 t165 t169 (t174 != (t165.length:Int)))) else (law26_DeltaGreedy.j0 k t161 t165 t169 true)) = some r:=by rw [if_pos rfl] at H;exact H
   clear H
   have H:=H1
   clear H1
   by_cases c14:t170 = 0
   ·rw [if_pos c14] at H
    have c14b0:(t170 == 0) = true:=beq_iff_eq.mpr c14
    have c14b1:(t170 != 0) = false:=bne_eq_false_iff_eq.mpr c14
    clear c14
    (first|rw [c14b0]|(simp only [i64_w,i32_w];rw [c14b0])|skip)
    replace H:=Option.bind_eq_some_iff.mp H
    obtain ⟨t174,A150,H⟩:=H
    replace H:(law26_DeltaGreedy.j0 k t161 t165 t169 (t174 != (t165.length:Int))) = some r:=H
    have A15:=Aside0.mk A150
    clear A150
    have H':=Aside0.mk H
    clear H
    go_wp2_with (first|(go_at_call 19;(with_reducible refine (law26_known.calls  true _ A12.out).mono ?_);rintro e w16 ⟨rfl,hb⟩;have n0_:=Aside0.mk (Kd.R_below (by (with_reducible repeat (first|apply Kd.R_alloc|apply Kd.R_drewN|apply Kd.R_drew));exact HO163.out) hb);have n1_:=Aside0.mk (Kd.R_below (by (with_reducible repeat (first|apply Kd.R_alloc|apply Kd.R_drewN|apply Kd.R_drew));exact HO167.out) hb);have n2_:=Aside0.mk (Kd.S_below (by (with_reducible repeat (first|apply Kd.S_alloc|apply Kd.S_drewN|apply Kd.S_drew));exact HO172.out) hb);have n3_:=Aside0.mk (IsS25.below (by repeat (first|(with_reducible first|exact HI160.out|apply IsS25.alloc|apply IsS25.drewN|apply IsS25.drew|apply IsS25.set_1)|exact HI160.out)) hb);have n4_:=Aside0.mk (below_step (by repeat (first|(with_reducible first|exact HB.out|apply below_alloc|apply pw_below_drewN|apply below_drew1|refine below_set ?_ (IsS25.ge HI160.out))|exact HB.out)) hb);clear HO163;clear HO167;clear HO172;clear HI160;clear HB;have HO163:=n0_;have HO167:=n1_;have HO172:=n2_;have HI160:=n3_;have HB:=n4_;clear n0_ n1_ n2_ n3_ n4_;(try clear hb);(try clear hb2);(try clear hk);(try clear hi);obtain ⟨Ao17,co17,eo17⟩:=Kd.S_slice HO172.out;subst eo17)|(go_at_call 33;(with_reducible refine (law26_size.calls k _ _ t169 t174 _ ?side1 ?side2 A15.out).mono ?_);(case side1=>repeat (first|exact (Kd.S_reads' HO172.out).2.2|(with_reducible refine Kd.C_alloc ?_ _)|(with_reducible refine Kd.C_drewN ?_ _)|(with_reducible refine Kd.C_drew ?_)));(case side2=>exact (Kd.S_reads' HO172.out).2.1);rintro e w' ⟨rfl,⟨nd,rfl⟩⟩;(try first|exact ⟨rfl,_,World.drewN_drewN _ _ _⟩|exact ⟨rfl,_,Eq.trans (World.drewN_drewN _ _ _) (congrArg (World.drewN _) (Nat.add_assoc _ _ _))⟩)))
    repeat (go_quiet (first|(go_at_call 19;(with_reducible refine (law26_known.calls  true _ A12.out).mono ?_);rintro e w16 ⟨rfl,hb⟩;have n0_:=Aside0.mk (Kd.R_below (by (with_reducible repeat (first|apply Kd.R_alloc|apply Kd.R_drewN|apply Kd.R_drew));exact HO163.out) hb);have n1_:=Aside0.mk (Kd.R_below (by (with_reducible repeat (first|apply Kd.R_alloc|apply Kd.R_drewN|apply Kd.R_drew));exact HO167.out) hb);have n2_:=Aside0.mk (Kd.S_below (by (with_reducible repeat (first|apply Kd.S_alloc|apply Kd.S_drewN|apply Kd.S_drew));exact HO172.out) hb);have n3_:=Aside0.mk (IsS25.below (by repeat (first|(with_reducible first|exact HI160.out|apply IsS25.alloc|apply IsS25.drewN|apply IsS25.drew|apply IsS25.set_1)|exact HI160.out)) hb);have n4_:=Aside0.mk (below_step (by repeat (first|(with_reducible first|exact HB.out|apply below_alloc|apply pw_below_drewN|apply below_drew1|refine below_set ?_ (IsS25.ge HI160.out))|exact HB.out)) hb);clear HO163;clear HO167;clear HO172;clear HI160;clear HB;have HO163:=n0_;have HO167:=n1_;have HO172:=n2_;have HI160:=n3_;have HB:=n4_;clear n0_ n1_ n2_ n3_ n4_;(try clear hb);(try clear hb2);(try clear hk);(try clear hi);obtain ⟨Ao17,co17,eo17⟩:=Kd.S_slice HO172.out;subst eo17)|(go_at_call 33;(with_reducible refine (law26_size.calls k _ _ t169 t174 _ ?side1 ?side2 A15.out).mono ?_);(case side1=>repeat (first|exact (Kd.S_reads' HO172.out).2.2|(with_reducible refine Kd.C_alloc ?_ _)|(with_reducible refine Kd.C_drewN ?_ _)|(with_reducible refine Kd.C_drew ?_)));(case side2=>exact (Kd.S_reads' HO172.out).2.1);rintro e w' ⟨rfl,⟨nd,rfl⟩⟩;(try first|exact ⟨rfl,_,World.drewN_drewN _ _ _⟩|exact ⟨rfl,_,Eq.trans (World.drewN_drewN _ _ _) (congrArg (World.drewN _) (Nat.add_assoc _ _ _))⟩)));try go_wp2_with (first|(go_at_call 19;(with_reducible refine (law26_known.calls  true _ A12.out).mono ?_);rintro e w16 ⟨rfl,hb⟩;have n0_:=Aside0.mk (Kd.R_below (by (with_reducible repeat (first|apply Kd.R_alloc|apply Kd.R_drewN|apply Kd.R_drew));exact HO163.out) hb);have n1_:=Aside0.mk (Kd.R_below (by (with_reducible repeat (first|apply Kd.R_alloc|apply Kd.R_drewN|apply Kd.R_drew));exact HO167.out) hb);have n2_:=Aside0.mk (Kd.S_below (by (with_reducible repeat (first|apply Kd.S_alloc|apply Kd.S_drewN|apply Kd.S_drew));exact HO172.out) hb);have n3_:=Aside0.mk (IsS25.below (by repeat (first|(with_reducible first|exact HI160.out|apply IsS25.alloc|apply IsS25.drewN|apply IsS25.drew|apply IsS25.set_1)|exact HI160.out)) hb);have n4_:=Aside0.mk (below_step (by repeat (first|(with_reducible first|exact HB.out|apply below_alloc|apply pw_below_drewN|apply below_drew1|refine below_set ?_ (IsS25.ge HI160.out))|exact HB.out)) hb);clear HO163;clear HO167;clear HO172;clear HI160;clear HB;have HO163:=n0_;have HO167:=n1_;have HO172:=n2_;have HI160:=n3_;have HB:=n4_;clear n0_ n1_ n2_ n3_ n4_;(try clear hb);(try clear hb2);(try clear hk);(try clear hi);obtain ⟨Ao17,co17,eo17⟩:=Kd.S_slice HO172.out;subst eo17)|(go_at_call 33;(with_reducible refine (law26_size.calls k _ _ t169 t174 _ ?side1 ?side2 A15.out).mono ?_);(case side1=>repeat (first|exact (Kd.S_reads' HO172.out).2.2|(with_reducible refine Kd.C_alloc ?_ _)|(with_reducible refine Kd.C_drewN ?_ _)|(with_reducible refine Kd.C_drew ?_)));(case side2=>exact (Kd.S_reads' HO172.out).2.1);rintro e w' ⟨rfl,⟨nd,rfl⟩⟩;(try first|exact ⟨rfl,_,World.drewN_drewN _ _ _⟩|exact ⟨rfl,_,Eq.trans (World.drewN_drewN _ _ _) (congrArg (World.drewN _) (Nat.add_assoc _ _ _))⟩))))
    go_meet
    case rel=>exact ⟨_,((t174 != (t165.length:Int))),(by first|rfl|(simp;done)|(simp [*];done)),H',⟨by first|omega|exact Nat.le_refl _⟩,⟨by (with_reducible repeat (first|apply Kd.R_alloc|apply Kd.R_drewN|apply Kd.R_drew));exact Kd.R_mono HO163.out (fun _ hk=>hk.2)⟩,⟨by (with_reducible repeat (first|apply Kd.R_alloc|apply Kd.R_drewN|apply Kd.R_drew));exact Kd.R_mono HO167.out (fun _ hk=>hk.2)⟩,⟨by (with_reducible repeat (first|apply Kd.S_alloc|apply Kd.S_drewN|apply Kd.S_drew));exact Kd.S_mono HO172.out (fun _ hk=>⟨hk.1.2,hk.2⟩)⟩,⟨by repeat (first|(with_reducible first|exact HB.out|apply below_alloc|apply pw_below_drewN|apply below_drew1|refine below_set ?_ (IsS25.ge HI160.out))|exact HB.out)⟩⟩
   ·rw [if_neg c14] at H
    have c14b0:(t170 == 0) = false:=beq_eq_false_iff_ne.mpr c14
    have c14b1:(t170 != 0) = true:=bne_iff_ne.mpr c14
    (first|rw [c14b0]|(simp only [i64_w,i32_w];rw [c14b0])|skip)
    have H':=Aside0.mk H
    clear H
    go_wp2_with (first|(go_at_call 19;(with_reducible refine (law26_known.calls  true _ A12.out).mono ?_);rintro e w18 ⟨rfl,hb⟩;have n0_:=Aside0.mk (Kd.R_below (by (with_reducible repeat (first|apply Kd.R_alloc|apply Kd.R_drewN|apply Kd.R_drew));exact HO163.out) hb);have n1_:=Aside0.mk (Kd.R_below (by (with_reducible repeat (first|apply Kd.R_alloc|apply Kd.R_drewN|apply Kd.R_drew));exact HO167.out) hb);have n2_:=Aside0.mk (Kd.S_below (by (with_reducible repeat (first|apply Kd.S_alloc|apply Kd.S_drewN|apply Kd.S_drew));exact HO172.out) hb);have n3_:=Aside0.mk (IsS25.below (by repeat (first|(with_reducible first|exact HI160.out|apply IsS25.alloc|apply IsS25.drewN|apply IsS25.drew|apply IsS25.set_1)|exact HI160.out)) hb);have n4_:=Aside0.mk (below_step (by repeat (first|(with_reducible first|exact HB.out|apply below_alloc|apply pw_below_drewN|apply below_drew1|refine below_set ?_ (IsS25.ge HI160.out))|exact HB.out)) hb);clear HO163;clear HO167;clear HO172;clear HI160;clear HB;have HO163:=n0_;have HO167:=n1_;have HO172:=n2_;have HI160:=n3_;have HB:=n4_;clear n0_ n1_ n2_ n3_ n4_;(try clear hb);(try clear hb2);(try clear hk);(try clear hi)))
    repeat (go_quiet (first|(go_at_call 19;(with_reducible refine (law26_known.calls  true _ A12.out).mono ?_);rintro e w18 ⟨rfl,hb⟩;have n0_:=Aside0.mk (Kd.R_below (by (with_reducible repeat (first|apply Kd.R_alloc|apply Kd.R_drewN|apply Kd.R_drew));exact HO163.out) hb);have n1_:=Aside0.mk (Kd.R_below (by (with_reducible repeat (first|apply Kd.R_alloc|apply Kd.R_drewN|apply Kd.R_drew));exact HO167.out) hb);have n2_:=Aside0.mk (Kd.S_below (by (with_reducible repeat (first|apply Kd.S_alloc|apply Kd.S_drewN|apply Kd.S_drew));exact HO172.out) hb);have n3_:=Aside0.mk (IsS25.below (by repeat (first|(with_reducible first|exact HI160.out|apply IsS25.alloc|apply IsS25.drewN|apply IsS25.drew|apply IsS25.set_1)|exact HI160.out)) hb);have n4_:=Aside0.mk (below_step (by repeat (first|(with_reducible first|exact HB.out|apply below_alloc|apply pw_below_drewN|apply below_drew1|refine below_set ?_ (IsS25.ge HI160.out))|exact HB.out)) hb);clear HO163;clear HO167;clear HO172;clear HI160;clear HB;have HO163:=n0_;have HO167:=n1_;have HO172:=n2_;have HI160:=n3_;have HB:=n4_;clear n0_ n1_ n2_ n3_ n4_;(try clear hb);(try clear hb2);(try clear hk);(try clear hi)));try go_wp2_with (first|(go_at_call 19;(with_reducible refine (law26_known.calls  true _ A12.out).mono ?_);rintro e w18 ⟨rfl,hb⟩;have n0_:=Aside0.mk (Kd.R_below (by (with_reducible repeat (first|apply Kd.R_alloc|apply Kd.R_drewN|apply Kd.R_drew));exact HO163.out) hb);have n1_:=Aside0.mk (Kd.R_below (by (with_reducible repeat (first|apply Kd.R_alloc|apply Kd.R_drewN|apply Kd.R_drew));exact HO167.out) hb);have n2_:=Aside0.mk (Kd.S_below (by (with_reducible repeat (first|apply Kd.S_alloc|apply Kd.S_drewN|apply Kd.S_drew));exact HO172.out) hb);have n3_:=Aside0.mk (IsS25.below (by repeat (first|(with_reducible first|exact HI160.out|apply IsS25.alloc|apply IsS25.drewN|apply IsS25.drew|apply IsS25.set_1)|exact HI160.out)) hb);have n4_:=Aside0.mk (below_step (by repeat (first|(with_reducible first|exact HB.out|apply below_alloc|apply pw_below_drewN|apply below_drew1|refine below_set ?_ (IsS25.ge HI160.out))|exact HB.out)) hb);clear HO163;clear HO167;clear HO172;clear HI160;clear HB;have HO163:=n0_;have HO167:=n1_;have HO172:=n2_;have HI160:=n3_;have HB:=n4_;clear n0_ n1_ n2_ n3_ n4_;(try clear hb);(try clear hb2);(try clear hk);(try clear hi))))
    go_meet
    case rel=>exact ⟨_,(true),(by first|rfl|(simp;done)|(simp [*];done)),H',⟨by first|omega|exact Nat.le_refl _⟩,⟨by (with_reducible repeat (first|apply Kd.R_alloc|apply Kd.R_drewN|apply Kd.R_drew));exact Kd.R_mono HO163.out (fun _ hk=>hk.2)⟩,⟨by (with_reducible repeat (first|apply Kd.R_alloc|apply Kd.R_drewN|apply Kd.R_drew));exact Kd.R_mono HO167.out (fun _ hk=>hk.2)⟩,⟨by (with_reducible repeat (first|apply Kd.S_alloc|apply Kd.S_drewN|apply Kd.S_drew));exact Kd.S_mono HO172.out (fun _ hk=>⟨hk.1.2,hk.2⟩)⟩,⟨by repeat (first|(with_reducible first|exact HB.out|apply below_alloc|apply pw_below_drewN|apply below_drew1|refine below_set ?_ (IsS25.ge HI160.out))|exact HB.out)⟩⟩
  ·replace c13:=Bool.eq_false_iff.mpr c13
   subst c13
   have H1:(law26_DeltaGreedy.j0 k t161 t165 t169 true) = some r:=by rw [if_neg (show ¬ (false = true) by decide)] at H;exact H
   clear H
   have H:=H1
   clear H1
   have H':=Aside0.mk H
   clear H
   go_wp2_with (first|(go_at_call 19;(with_reducible refine (law26_known.calls  false _ A12.out).mono ?_);rintro e w19 ⟨rfl,hb⟩;have n0_:=Aside0.mk (Kd.R_below (by (with_reducible repeat (first|apply Kd.R_alloc|apply Kd.R_drewN|apply Kd.R_drew));exact HO163.out) hb);have n1_:=Aside0.mk (Kd.R_below (by (with_reducible repeat (first|apply Kd.R_alloc|apply Kd.R_drewN|apply Kd.R_drew));exact HO167.out) hb);have n2_:=Aside0.mk (Kd.S_below (by (with_reducible repeat (first|apply Kd.S_alloc|apply Kd.S_drewN|apply Kd.S_drew));exact HO172.out) hb);have n3_:=Aside0.mk (IsS25.below (by repeat (first|(with_reducible first|exact HI160.out|apply IsS25.alloc|apply IsS25.drewN|apply IsS25.drew|apply IsS25.set_1)|exact HI160.out)) hb);have n4_:=Aside0.mk (below_step (by repeat (first|(with_reducible first|exact HB.out|apply below_alloc|apply pw_below_drewN|apply below_drew1|refine below_set ?_ (IsS25.ge HI160.out))|exact HB.out)) hb);clear HO163;clear HO167;clear HO172;clear HI160;clear HB;have HO163:=n0_;have HO167:=n1_;have HO172:=n2_;have HI160:=n3_;have HB:=n4_;clear n0_ n1_ n2_ n3_ n4_;(try clear hb);(try clear hb2);(try clear hk);(try clear hi)))
   repeat (go_quiet (first|(go_at_call 19;(with_reducible refine (law26_known.calls  false _ A12.out).mono ?_);rintro e w19 ⟨rfl,hb⟩;have n0_:=Aside0.mk (Kd.R_below (by (with_reducible repeat (first|apply Kd.R_alloc|apply Kd.R_drewN|apply Kd.R_drew));exact HO163.out) hb);have n1_:=Aside0.mk (Kd.R_below (by (with_reducible repeat (first|apply Kd.R_alloc|apply Kd.R_drewN|apply Kd.R_drew));exact HO167.out) hb);have n2_:=Aside0.mk (Kd.S_below (by (with_reducible repeat (first|apply Kd.S_alloc|apply Kd.S_drewN|apply Kd.S_drew));exact HO172.out) hb);have n3_:=Aside0.mk (IsS25.below (by repeat (first|(with_reducible first|exact HI160.out|apply IsS25.alloc|apply IsS25.drewN|apply IsS25.drew|apply IsS25.set_1)|exact HI160.out)) hb);have n4_:=Aside0.mk (below_step (by repeat (first|(with_reducible first|exact HB.out|apply below_alloc|apply pw_below_drewN|apply below_drew1|refine below_set ?_ (IsS25.ge HI160.out))|exact HB.out)) hb);clear HO163;clear HO167;clear HO172;clear HI160;clear HB;have HO163:=n0_;have HO167:=n1_;have HO172:=n2_;have HI160:=n3_;have HB:=n4_;clear n0_ n1_ n2_ n3_ n4_;(try clear hb);(try clear hb2);(try clear hk);(try clear hi)));try go_wp2_with (first|(go_at_call 19;(with_reducible refine (law26_known.calls  false _ A12.out).mono ?_);rintro e w19 ⟨rfl,hb⟩;have n0_:=Aside0.mk (Kd.R_below (by (with_reducible repeat (first|apply Kd.R_alloc|apply Kd.R_drewN|apply Kd.R_drew));exact HO163.out) hb);have n1_:=Aside0.mk (Kd.R_below (by (with_reducible repeat (first|apply Kd.R_alloc|apply Kd.R_drewN|apply Kd.R_drew));exact HO167.out) hb);have n2_:=Aside0.mk (Kd.S_below (by (with_reducible repeat (first|apply Kd.S_alloc|apply Kd.S_drewN|apply Kd.S_drew));exact HO172.out) hb);have n3_:=Aside0.mk (IsS25.below (by repeat (first|(with_reducible first|exact HI160.out|apply IsS25.alloc|apply IsS25.drewN|apply IsS25.drew|apply IsS25.set_1)|exact HI160.out)) hb);have n4_:=Aside0.mk (below_step (by repeat (first|(with_reducible first|exact HB.out|apply below_alloc|apply pw_below_drewN|apply below_drew1|refine below_set ?_ (IsS25.ge HI160.out))|exact HB.out)) hb);clear HO163;clear HO167;clear HO172;clear HI160;clear HB;have HO163:=n0_;have HO167:=n1_;have HO172:=n2_;have HI160:=n3_;have HB:=n4_;clear n0_ n1_ n2_ n3_ n4_;(try clear hb);(try clear hb2);(try clear hk);(try clear hi))))
   go_meet
   case rel=>exact ⟨_,(true),(by first|rfl|(simp;done)|(simp [*];done)),H',⟨by first|omega|exact Nat.le_refl _⟩,⟨by (with_reducible repeat (first|apply Kd.R_alloc|apply Kd.R_drewN|apply Kd.R_drew));exact Kd.R_mono HO163.out (fun _ hk=>hk.2)⟩,⟨by (with_reducible repeat (first|apply Kd.R_alloc|apply Kd.R_drewN|apply Kd.R_drew));exact Kd.R_mono HO167.out (fun _ hk=>hk.2)⟩,⟨by (with_reducible repeat (first|apply Kd.S_alloc|apply Kd.S_drewN|apply Kd.S_drew));exact Kd.S_mono HO172.out (fun _ hk=>⟨hk.1.2,hk.2⟩)⟩,⟨by repeat (first|(with_reducible first|exact HB.out|apply below_alloc|apply pw_below_drewN|apply below_drew1|refine below_set ?_ (IsS25.ge HI160.out))|exact HB.out)⟩⟩
 case rest =>
  clear HC5
  try clear c1
  try clear p2
  try clear c13
  try clear c14
  try clear c14b0
  try clear c14b1
  obtain ⟨kq,x36_4,rfl,HA,HJ4,HO_4,HO_5,HO_6,HB⟩:=hcut
  cases kq with
  | zero=>exact absurd HA.out (by simp [law26_DeltaGreedy.j0])
  | succ kj4 =>
   have H:=HA.out
   clear HA
   simp only [law26_DeltaGreedy.j0] at H
   by_cases c20:x36_4 = true
   ·subst c20
    have H1:(some false) = some r:=by rw [if_pos rfl] at H;exact H
    clear H
    have H:=H1
    clear H1
    obtain rfl:=Option.some.inj H
    go_wp2
    repeat (go_quiet (fail);try go_wp2)
    go_ret
    exact ⟨by first|rfl|(simp [errW_none,errW_some] <;> rfl)|(simp [*,errW_none,errW_some] <;> rfl),by repeat (first|(with_reducible first|exact HB.out|apply below_alloc|apply pw_below_drewN|apply below_drew1)|exact HB.out)⟩
   ·replace c20:=Bool.eq_false_iff.mpr c20
    subst c20
    have H1:(law26_DeltaGreedy.l0 kj4 t161 t165 t169 0 0) = some r:=by rw [if_neg (show ¬ (false = true) by decide)] at H;exact H
    clear H
    have H:=H1
    clear H1
    have H':=Aside0.mk H
    clear H
    go_wp2
    repeat (go_quiet (fail);try go_wp2)
    go_loopg [8,9] kj4 (fun kq v8 v9 w'=>∃ (x8_2:Int) (x9_2:Int),v8 = .int .i64 x8_2 ∧ v9 = .int .i64 x9_2 ∧ Aside0 (law26_DeltaGreedy.l0 kq t161 t165 t169 x8_2 x9_2 = some r) ∧ Aside0 (kq ≤ kj4) ∧ Aside0 (Kd.R (Kd.int .u8) 5 w' w.heap.size (fun k_=>some k_ ≠ ((.slice Ao10 t165.length co10):Value).ownBlock) (.slice Ao9 t161.length co9) t161) ∧ Aside0 (Kd.R (Kd.int .u8) 5 w' w.heap.size (fun k_=>some k_ ≠ ((.slice Ao9 t161.length co9):Value).ownBlock) (.slice Ao10 t165.length co10) t165) ∧ Aside0 (Kd.S k39 39 w' w.heap.size (fun k_=>some k_ ≠ ((.slice Ao9 t161.length co9):Value).ownBlock ∧ some k_ ≠ ((.slice Ao10 t165.length co10):Value).ownBlock) v171 t169) ∧ Aside0 (Below w.heap.size w w'))
    case atStart=>exact ⟨(0),(0),(by first|rfl|(simp;done)|(simp [*];done)),(by first|rfl|(simp;done)|(simp [*];done)),H',⟨Nat.le_refl _⟩,⟨by (with_reducible repeat (first|apply Kd.R_alloc|apply Kd.R_drewN|apply Kd.R_drew));exact HO_4.out⟩,⟨by (with_reducible repeat (first|apply Kd.R_alloc|apply Kd.R_drewN|apply Kd.R_drew));exact HO_5.out⟩,⟨by (with_reducible repeat (first|apply Kd.S_alloc|apply Kd.S_drewN|apply Kd.S_drew));exact HO_6.out⟩,⟨by repeat (first|(with_reducible first|exact HB.out|apply below_alloc|apply pw_below_drewN|apply below_drew1)|exact HB.out)⟩⟩
    case round =>
     clear H'
     try clear c1
     try clear c2
     try clear p2
     try clear c13
     try clear c14
     try clear c14b0
     try clear c14b1
     try clear c20
     try clear p2
     obtain ⟨x8_2,x9_2,rfl,rfl,HA,HK2,HO_4,HO_5,HO_6,HB⟩:=hrel
     cases gk with
     | zero=>exact absurd HA.out (by simp [law26_DeltaGreedy.l0])
     | succ k2 =>
      have H:=HA.out
      clear HA
      simp only [law26_DeltaGreedy.l0] at H
      by_cases c21:x9_2 < (t169.length:Int)
      ·rw [if_pos c21] at H
       have c21b0:decide (x9_2 < (t169.length:Int)) = true:=decide_eq_true c21
       clear c21
       have H':=Aside0.mk H
       clear H
       obtain ⟨Ao22,co22,eo22⟩:=Kd.S_slice HO_6.out
       subst eo22
       go_wp2
       repeat (go_quiet (fail);try go_wp2)
       go_loopg [10] k2 (fun kq v10 w'=>∃ (x10_3:Int),v10 = .int .i64 x10_3 ∧ Aside0 (law26_DeltaGreedy.l1 kq t161 t165 t169 x8_2 x9_2 x10_3 = some r) ∧ Aside0 (kq ≤ k2) ∧ Aside0 (Kd.R (Kd.int .u8) 5 w' w.heap.size (fun k_=>some k_ ≠ ((.slice Ao10 t165.length co10):Value).ownBlock) (.slice Ao9 t161.length co9) t161) ∧ Aside0 (Kd.R (Kd.int .u8) 5 w' w.heap.size (fun k_=>some k_ ≠ ((.slice Ao9 t161.length co9):Value).ownBlock) (.slice Ao10 t165.length co10) t165) ∧ Aside0 (Kd.S k39 39 w' w.heap.size (fun k_=>some k_ ≠ ((.slice Ao9 t161.length co9):Value).ownBlock ∧ some k_ ≠ ((.slice Ao10 t165.length co10):Value).ownBlock) (.slice Ao22 t169.length co22) t169) ∧ Aside0 (Below w.heap.size w w'))
       case atStart=>exact ⟨(0),(by first|rfl|(simp;done)|(simp [*];done)),H',⟨Nat.le_refl _⟩,⟨by (with_reducible repeat (first|apply Kd.R_alloc|apply Kd.R_drewN|apply Kd.R_drew));exact HO_4.out⟩,⟨by (with_reducible repeat (first|apply Kd.R_alloc|apply Kd.R_drewN|apply Kd.R_drew));exact HO_5.out⟩,⟨by (with_reducible repeat (first|apply Kd.S_alloc|apply Kd.S_drewN|apply Kd.S_drew));exact HO_6.out⟩,⟨by repeat (first|(with_reducible first|exact HB.out|apply below_alloc|apply pw_below_drewN|apply below_drew1)|exact HB.out)⟩⟩
       case round =>
        clear H'
        try clear c1
        try clear c2
        try clear p2
        try clear c13
        try clear c14
        try clear c14b0
        try clear c14b1
        try clear c20
        try clear c21
        try clear c21b0
        try clear p2
        obtain ⟨x10_3,rfl,HA,HK3,HO_4,HO_5,HO_6,HB⟩:=hrel
        cases gk with
        | zero=>exact absurd HA.out (by simp [law26_DeltaGreedy.l1])
        | succ k3 =>
         have H:=HA.out
         clear HA
         simp only [law26_DeltaGreedy.l1] at H
         have HC23:=Aside0.mk H
         clear H
         go_upto_region 11 with (fail)
         repeat (go_quiet (fail);go_upto_region 11 with (fail))
         go_cut [59] (fun v59 wc=>∃ (kq:Nat) (x59_22:Bool),v59 = .bool x59_22 ∧ Aside0 (law26_DeltaGreedy.j3 kq t161 t165 t169 x8_2 x9_2 x10_3 x59_22 = some r) ∧ Aside0 (kq ≤ k3) ∧ Aside0 (Kd.R (Kd.int .u8) 5 wc w.heap.size (fun k_=>some k_ ≠ ((.slice Ao10 t165.length co10):Value).ownBlock) (.slice Ao9 t161.length co9) t161) ∧ Aside0 (Kd.R (Kd.int .u8) 5 wc w.heap.size (fun k_=>some k_ ≠ ((.slice Ao9 t161.length co9):Value).ownBlock) (.slice Ao10 t165.length co10) t165) ∧ Aside0 (Kd.S k39 39 wc w.heap.size (fun k_=>some k_ ≠ ((.slice Ao9 t161.length co9):Value).ownBlock ∧ some k_ ≠ ((.slice Ao10 t165.length co10):Value).ownBlock) (.slice Ao22 t169.length co22) t169) ∧ Aside0 (Below w.heap.size w wc))
         case first =>
          have H:=HC23.out
          clear HC23
          by_cases c24:0 ≤ x9_2
          ·rw [if_pos c24] at H
           have c24b0:decide (0 ≤ x9_2) = true:=decide_eq_true c24
           clear c24
           (first|rw [c24b0]|(simp only [i64_w,i32_w];rw [c24b0])|skip)
           by_cases c25:x9_2 < (t169.length:Int)
           ·rw [if_pos c25] at H
            have c25b0:decide (x9_2 < (t169.length:Int)) = true:=decide_eq_true c25
            clear c25
            by_cases c26:x10_3 < (((rd_T39 t169 x9_2).f2).length:Int)
            ·rw [if_pos c26] at H
             have c26b0:decide (x10_3 < (((rd_T39 t169 x9_2).f2).length:Int)) = true:=decide_eq_true c26
             clear c26
             have H':=Aside0.mk H
             clear H
             have p175:0 ≤ (x9_2:Int):=of_decide_eq_true (by first|(with_reducible assumption)|assumption)
             have q175:x9_2 < (t169.length:Int):=of_decide_eq_true (by first|(with_reducible assumption)|assumption)
             obtain ⟨ad175,A175_2,c175_2,e175,hx175_0,hx175_1,hx175_2,hl175_2,hi175_2⟩:=at_T39 (Kd.S_reads' HO_6.out).2.2 x9_2 p175 q175
             cases e175
             obtain ⟨ce175,hce175,hMe175,hcc175⟩:=Kd.S_get HO_6.out z39 x9_2 p175 (by first|exact q175|exact of_decide_eq_true (by first|(with_reducible assumption)|assumption)|(have e_:=(Kd.S_reads' HO_6.out).1;omega))
             obtain ⟨ve175_2,rfl,ge175_2⟩:=k39_openM hMe175
             have hv175_2:=hcc175 2 _ rfl
             rw [add_field _ _ 2 (by omega)] at hv175_2
             replace hv175_2:=Option.some.inj (hv175_2.symm.trans hx175_2)
             rw [hv175_2] at ge175_2
             have HL175_2:=Aside0.mk (show Kd.R (Kd.int .u8) 5 _ _ _ _ ((rd_T39 t169 x9_2).f2) from ge175_2)
             clear hv175_2 ge175_2
             clear hcc175 hce175
             have HR175_2:=Aside0.mk hi175_2
             have HC175_2:=Aside0.mk hl175_2
             clear hi175_2 hl175_2
             replace p175:=eq_true p175
             replace q175:=eq_true q175
             go_wp2
             repeat (go_quiet (fail);try go_wp2)
             go_meet
             case rel=>exact ⟨_,(decide ((wrap64 ((wrap64 (x8_2 + x10_3)) + 4)) ≤ (t165.length:Int))),(by first|rfl|(simp;done)|(simp [*];done)),H',⟨by have:=HJ4.out;have:=HK2.out;have:=HK3.out;first|omega|exact Nat.le_refl _⟩,⟨by (with_reducible repeat (first|apply Kd.R_alloc|apply Kd.R_drewN|apply Kd.R_drew));exact HO_4.out⟩,⟨by (with_reducible repeat (first|apply Kd.R_alloc|apply Kd.R_drewN|apply Kd.R_drew));exact HO_5.out⟩,⟨by (with_reducible repeat (first|apply Kd.S_alloc|apply Kd.S_drewN|apply Kd.S_drew));exact HO_6.out⟩,⟨by repeat (first|(with_reducible first|exact HB.out|apply below_alloc|apply pw_below_drewN|apply below_drew1)|exact HB.out)⟩⟩
            ·rw [if_neg c26] at H
             have c26b0:decide (x10_3 < (((rd_T39 t169 x9_2).f2).length:Int)) = false:=decide_eq_false c26
             clear c26
             have H':=Aside0.mk H
             clear H
             have p175:0 ≤ (x9_2:Int):=of_decide_eq_true (by first|(with_reducible assumption)|assumption)
             have q175:x9_2 < (t169.length:Int):=of_decide_eq_true (by first|(with_reducible assumption)|assumption)
             obtain ⟨ad175,A175_2,c175_2,e175,hx175_0,hx175_1,hx175_2,hl175_2,hi175_2⟩:=at_T39 (Kd.S_reads' HO_6.out).2.2 x9_2 p175 q175
             cases e175
             obtain ⟨ce175,hce175,hMe175,hcc175⟩:=Kd.S_get HO_6.out z39 x9_2 p175 (by first|exact q175|exact of_decide_eq_true (by first|(with_reducible assumption)|assumption)|(have e_:=(Kd.S_reads' HO_6.out).1;omega))
             obtain ⟨ve175_2,rfl,ge175_2⟩:=k39_openM hMe175
             have hv175_2:=hcc175 2 _ rfl
             rw [add_field _ _ 2 (by omega)] at hv175_2
             replace hv175_2:=Option.some.inj (hv175_2.symm.trans hx175_2)
             rw [hv175_2] at ge175_2
             have HL175_2:=Aside0.mk (show Kd.R (Kd.int .u8) 5 _ _ _ _ ((rd_T39 t169 x9_2).f2) from ge175_2)
             clear hv175_2 ge175_2
             clear hcc175 hce175
             have HR175_2:=Aside0.mk hi175_2
             have HC175_2:=Aside0.mk hl175_2
             clear hi175_2 hl175_2
             replace p175:=eq_true p175
             replace q175:=eq_true q175
             go_wp2
             repeat (go_quiet (fail);try go_wp2)
             go_meet
             case rel=>exact ⟨_,(false),(by first|rfl|(simp;done)|(simp [*];done)),H',⟨by have:=HJ4.out;have:=HK2.out;have:=HK3.out;first|omega|exact Nat.le_refl _⟩,⟨by (with_reducible repeat (first|apply Kd.R_alloc|apply Kd.R_drewN|apply Kd.R_drew));exact HO_4.out⟩,⟨by (with_reducible repeat (first|apply Kd.R_alloc|apply Kd.R_drewN|apply Kd.R_drew));exact HO_5.out⟩,⟨by (with_reducible repeat (first|apply Kd.S_alloc|apply Kd.S_drewN|apply Kd.S_drew));exact HO_6.out⟩,⟨by repeat (first|(with_reducible first|exact HB.out|apply below_alloc|apply pw_below_drewN|apply below_drew1)|exact HB.out)⟩⟩
           ·rw [if_neg c25] at H
            exact absurd H (by simp)
          ·rw [if_neg c24] at H
           exact absurd H (by simp)
         case rest =>
          clear HC23
          try clear c1
          try clear p1
          try clear q1
          try clear hx1
          try clear c2
          try clear p2
          try clear p6
          try clear c13
          try clear c14
          try clear c14b0
          try clear c14b1
          try clear c17
          try clear p17
          try clear q17
          try clear hx17
          try clear c20
          try clear c21
          try clear c21b0
          try clear c24
          try clear c24b0
          try clear c25
          try clear c25b0
          try clear c26
          try clear c26b0
          try clear hx175_0
          try clear hx175_1
          try clear hx175_2
          try clear p175
          try clear p2
          try clear q175
          obtain ⟨kq,x59_22,rfl,HA,HJ22,HO_4,HO_5,HO_6,HB⟩:=hcut
          cases kq with
          | zero=>exact absurd HA.out (by simp [law26_DeltaGreedy.j3])
          | succ kj22 =>
           have H:=HA.out
           clear HA
           simp only [law26_DeltaGreedy.j3] at H
           by_cases c27:x59_22 = true
           ·subst c27
            have H1:(if 0 ≤ (wrap64 (x8_2 + x10_3)) then (if (wrap64 (x8_2 + x10_3)) ≤ (wrap64 ((wrap64 (x8_2 + x10_3)) + 4)) then (if (wrap64 ((wrap64 (x8_2 + x10_3)) + 4)) ≤ (t165.length:Int) then ((strings_Contains.f (strOfNums t161) (strOfNums ((t165.take ((wrap64 ((wrap64 (x8_2 + x10_3)) + 4)):Int).toNat).drop ((wrap64 (x8_2 + x10_3)):Int).toNat))).bind fun t180=>(if t180 = true then (some false) else (law26_DeltaGreedy.l1 kj22 t161 t165 t169 x8_2 x9_2 (wrap64 (x10_3 + 1))))) else (none)) else (none)) else (none)) = some r:=by rw [if_pos rfl] at H;exact H
            clear H
            have H:=H1
            clear H1
            obtain ⟨ji28,hji28⟩:∃ j_:Int,(wrap64 (x8_2 + x10_3)) = j_:=⟨_,rfl⟩
            replace H:(if 0 ≤ (ji28) then (if (ji28) ≤ (wrap64 ((ji28) + 4)) then (if (wrap64 ((ji28) + 4)) ≤ (t165.length:Int) then ((strings_Contains.f (strOfNums t161) (strOfNums ((t165.take ((wrap64 ((ji28) + 4)):Int).toNat).drop ((ji28):Int).toNat))).bind fun t180=>(if t180 = true then (some false) else (law26_DeltaGreedy.l1 kj22 t161 t165 t169 x8_2 x9_2 (wrap64 (x10_3 + 1))))) else (none)) else (none)) else (none)) = some r:=by first|(rw [hji28] at H;exact H)|(simp only [hji28] at H ⊢;exact H)
            have hji28w:(IntKind.i64.wrap (x8_2 + x10_3)) = ji28:=(i64_w _).trans hji28
            by_cases c29:0 ≤ (ji28)
            ·rw [if_pos c29] at H
             have c29b0:=eq_true c29
             have c29b1:decide (0 ≤ (ji28)) = true:=decide_eq_true c29
             clear c29
             by_cases c30:(ji28) ≤ (wrap64 ((ji28) + 4))
             ·rw [if_pos c30] at H
              have c30b0:=eq_true c30
              have c30b1:decide ((ji28) ≤ (wrap64 ((ji28) + 4))) = true:=decide_eq_true c30
              by_cases c31:(wrap64 ((ji28) + 4)) ≤ (t165.length:Int)
              ·rw [if_pos c31] at H
               have c31b0:=eq_true c31
               have c31b1:decide ((wrap64 ((ji28) + 4)) ≤ (t165.length:Int)) = true:=decide_eq_true c31
               obtain ⟨y176,hy176⟩:∃ y_:List Int,y_ = ((t165.take ((wrap64 ((ji28) + 4)):Int).toNat).drop ((ji28):Int).toNat):=⟨_,rfl⟩
               replace H:((strings_Contains.f (strOfNums t161) (strOfNums y176)).bind fun t180=>(if t180 = true then (some false) else (law26_DeltaGreedy.l1 kj22 t161 t165 t169 x8_2 x9_2 (wrap64 (x10_3 + 1))))) = some r:=by first|(rw [hy176];with_reducible exact H)|(have H2_:=(Option.bind_some _ _).symm.trans H;rw [hy176];with_reducible exact H2_)|(have H2_:=(Option.bind_some _ _).symm.trans H;with_reducible exact H2_)|with_reducible exact H|(rw [hy176];exact H)|exact H
               have Ny176:=Aside0.mk hy176
               clear hy176
               replace H:=Option.bind_eq_some_iff.mp H
               obtain ⟨t180,A320,H⟩:=H
               replace H:(if t180 = true then (some false) else (law26_DeltaGreedy.l1 kj22 t161 t165 t169 x8_2 x9_2 (wrap64 (x10_3 + 1)))) = some r:=H
               have A32:=Aside0.mk A320
               clear A320
               by_cases c33:t180 = true
               ·subst c33
                have H1:(some false) = some r:=by rw [if_pos rfl] at H;exact H
                clear H
                have H:=H1
                clear H1
                obtain rfl:=Option.some.inj H
                have hcv34:=own_string (P:=Try.prog) Try.underlying26 Try.underlying5 Try.underlying9 (Kd.own_of_R HO_4.out)
                have hcv34q:=fun (n_:Nat)=>own_string (P:=Try.prog) Try.underlying26 Try.underlying5 Try.underlying9 (Kd.own_of_R (Kd.R_drewN HO_4.out n_))
                have q35:((wrap64 ((ji28) + 4)):Int) ≤ ((t165.length:Int):Int):=of_decide_eq_true (by first|(with_reducible assumption)|assumption)
                obtain ⟨i035,hi035,_,hsz35,_⟩:=info_parts info5
                have hroom35:t165.length ≤ co10:=(Kd.R_reads' HO_5.out).2.1
                have hC35:Kd.C (Kd.int .u8) _ Ao10 t165.length t165:=(Kd.R_reads' HO_5.out).2.2
                have ql35:((ji28):Int) ≤ ((wrap64 ((ji28) + 4)):Int):=of_decide_eq_true (by first|(with_reducible assumption)|assumption)
                have q035:(0:Int) ≤ ((ji28):Int):=of_decide_eq_true (by first|(with_reducible assumption)|assumption)
                have hcut35:=cut_mid (P:=Try.prog) 26 5 .i64 .i64 Try.underlying26 hi035 1 hsz35 Ao10 t165.length co10 (ji28) (wrap64 ((ji28) + 4)) q035 ql35 q35 hroom35
                have hr35:=Kd.C_mid (lo:=((ji28):Int).toNat) (hi:=((wrap64 ((ji28) + 4)):Int).toNat) (c:=co10) hC35 (by omega) (by omega) hroom35
                obtain ⟨A35,hA35⟩:∃ A1,A1 = (if co10 = ((ji28):Int).toNat then Ao10 else (Ao10:Option Addr).map (·.add (((ji28):Int).toNat * 1))):=⟨_,rfl⟩
                obtain ⟨c35,hc35⟩:∃ c1,c1 = co10 - ((ji28):Int).toNat:=⟨_,rfl⟩
                have hy35:y176.length = ((wrap64 ((ji28) + 4)):Int).toNat - ((ji28):Int).toNat:=(by rw [Ny176.out,List.length_drop,List.length_take] <;> omega)
                rw [show ((t165).take ((wrap64 ((ji28) + 4)):Int).toNat).drop ((ji28):Int).toNat = y176 from Ny176.out.symm] at hr35
                replace hr35:Kd.C (Kd.int .u8) _ A35 y176.length y176:=(by rw [hA35];exact hr35)
                rw [← hy35,← hA35,← hc35] at hcut35
                have HR179:=Aside0.mk hr35
                have HC179:=Aside0.mk (show y176.length ≤ c35 from by rw [hy35,hc35];exact Nat.sub_le_sub_right (Nat.le_trans (by omega) hroom35) _)
                clear hr35 hC35 hroom35 hi035 hsz35 hc35
                have KY35:=Aside0.mk hy35
                have KA35:=Aside0.mk hA35
                clear hy35 hA35
                have KL35:=Aside0.mk (show ((wrap64 ((ji28) + 4)):Int).toNat ≤ t165.length from by omega)
                have KM35:=Aside0.mk (show ((ji28):Int).toNat ≤ ((wrap64 ((ji28) + 4)):Int).toNat from by omega)
                replace q35:=eq_true q35
                have hcv36:=Kd.C_string (P:=Try.prog) (A:=A35) (c:=c35) Try.underlying26 Try.underlying5 Try.underlying9 (by repeat (first|(with_reducible exact HR179.out)|(with_reducible refine Kd.C_alloc ?_ _)|(with_reducible refine Kd.C_drewN ?_ _)|(with_reducible refine Kd.C_drew ?_)|exact HR179.out))
                have hcv36q:=fun (n_:Nat)=>Kd.C_string (P:=Try.prog) (A:=A35) (c:=c35) Try.underlying26 Try.underlying5 Try.underlying9 (Kd.C_drewN (by repeat (first|(with_reducible exact HR179.out)|(with_reducible refine Kd.C_alloc ?_ _)|(with_reducible refine Kd.C_drewN ?_ _)|(with_reducible refine Kd.C_drew ?_)|exact HR179.out)) n_)
                go_wp2_with (first|(go_at_call 40;(with_reducible refine (strings_Contains.callsM (strOfNums t161) (strOfNums y176) true w _ HMX.out (by repeat (first|exact HB.out|apply pw_below_drewN|apply below_drew1)) A32.out).mono ?_);rintro e w' ⟨rfl,⟨nd,rfl⟩⟩;(try first|exact ⟨rfl,_,World.drewN_drewN _ _ _⟩|exact ⟨rfl,_,Eq.trans (World.drewN_drewN _ _ _) (congrArg (World.drewN _) (Nat.add_assoc _ _ _))⟩)))
                repeat (go_quiet (first|(go_at_call 40;(with_reducible refine (strings_Contains.callsM (strOfNums t161) (strOfNums y176) true w _ HMX.out (by repeat (first|exact HB.out|apply pw_below_drewN|apply below_drew1)) A32.out).mono ?_);rintro e w' ⟨rfl,⟨nd,rfl⟩⟩;(try first|exact ⟨rfl,_,World.drewN_drewN _ _ _⟩|exact ⟨rfl,_,Eq.trans (World.drewN_drewN _ _ _) (congrArg (World.drewN _) (Nat.add_assoc _ _ _))⟩)));try go_wp2_with (first|(go_at_call 40;(with_reducible refine (strings_Contains.callsM (strOfNums t161) (strOfNums y176) true w _ HMX.out (by repeat (first|exact HB.out|apply pw_below_drewN|apply below_drew1)) A32.out).mono ?_);rintro e w' ⟨rfl,⟨nd,rfl⟩⟩;(try first|exact ⟨rfl,_,World.drewN_drewN _ _ _⟩|exact ⟨rfl,_,Eq.trans (World.drewN_drewN _ _ _) (congrArg (World.drewN _) (Nat.add_assoc _ _ _))⟩))))
                go_ret
                exact ⟨by first|rfl|(simp [errW_none,errW_some] <;> rfl)|(simp only [← hji28];first|rfl|(simp [errW_none,errW_some] <;> rfl))|(simp [*,errW_none,errW_some] <;> rfl),by repeat (first|(with_reducible first|exact HB.out|apply below_alloc|apply pw_below_drewN|apply below_drew1)|exact HB.out)⟩
               ·replace c33:=Bool.eq_false_iff.mpr c33
                subst c33
                have H1:(law26_DeltaGreedy.l1 kj22 t161 t165 t169 x8_2 x9_2 (wrap64 (x10_3 + 1))) = some r:=by rw [if_neg (show ¬ (false = true) by decide)] at H;exact H
                clear H
                have H:=H1
                clear H1
                have H':=Aside0.mk H
                clear H
                have hcv37:=own_string (P:=Try.prog) Try.underlying26 Try.underlying5 Try.underlying9 (Kd.own_of_R HO_4.out)
                have hcv37q:=fun (n_:Nat)=>own_string (P:=Try.prog) Try.underlying26 Try.underlying5 Try.underlying9 (Kd.own_of_R (Kd.R_drewN HO_4.out n_))
                have q38:((wrap64 ((ji28) + 4)):Int) ≤ ((t165.length:Int):Int):=of_decide_eq_true (by first|(with_reducible assumption)|assumption)
                obtain ⟨i038,hi038,_,hsz38,_⟩:=info_parts info5
                have hroom38:t165.length ≤ co10:=(Kd.R_reads' HO_5.out).2.1
                have hC38:Kd.C (Kd.int .u8) _ Ao10 t165.length t165:=(Kd.R_reads' HO_5.out).2.2
                have ql38:((ji28):Int) ≤ ((wrap64 ((ji28) + 4)):Int):=of_decide_eq_true (by first|(with_reducible assumption)|assumption)
                have q038:(0:Int) ≤ ((ji28):Int):=of_decide_eq_true (by first|(with_reducible assumption)|assumption)
                have hcut38:=cut_mid (P:=Try.prog) 26 5 .i64 .i64 Try.underlying26 hi038 1 hsz38 Ao10 t165.length co10 (ji28) (wrap64 ((ji28) + 4)) q038 ql38 q38 hroom38
                have hr38:=Kd.C_mid (lo:=((ji28):Int).toNat) (hi:=((wrap64 ((ji28) + 4)):Int).toNat) (c:=co10) hC38 (by omega) (by omega) hroom38
                obtain ⟨A38,hA38⟩:∃ A1,A1 = (if co10 = ((ji28):Int).toNat then Ao10 else (Ao10:Option Addr).map (·.add (((ji28):Int).toNat * 1))):=⟨_,rfl⟩
                obtain ⟨c38,hc38⟩:∃ c1,c1 = co10 - ((ji28):Int).toNat:=⟨_,rfl⟩
                have hy38:y176.length = ((wrap64 ((ji28) + 4)):Int).toNat - ((ji28):Int).toNat:=(by rw [Ny176.out,List.length_drop,List.length_take] <;> omega)
                rw [show ((t165).take ((wrap64 ((ji28) + 4)):Int).toNat).drop ((ji28):Int).toNat = y176 from Ny176.out.symm] at hr38
                replace hr38:Kd.C (Kd.int .u8) _ A38 y176.length y176:=(by rw [hA38];exact hr38)
                rw [← hy38,← hA38,← hc38] at hcut38
                have HR179:=Aside0.mk hr38
                have HC179:=Aside0.mk (show y176.length ≤ c38 from by rw [hy38,hc38];exact Nat.sub_le_sub_right (Nat.le_trans (by omega) hroom38) _)
                clear hr38 hC38 hroom38 hi038 hsz38 hc38
                have KY38:=Aside0.mk hy38
                have KA38:=Aside0.mk hA38
                clear hy38 hA38
                have KL38:=Aside0.mk (show ((wrap64 ((ji28) + 4)):Int).toNat ≤ t165.length from by omega)
                have KM38:=Aside0.mk (show ((ji28):Int).toNat ≤ ((wrap64 ((ji28) + 4)):Int).toNat from by omega)
                replace q38:=eq_true q38
                have hcv39:=Kd.C_string (P:=Try.prog) (A:=A38) (c:=c38) Try.underlying26 Try.underlying5 Try.underlying9 (by repeat (first|(with_reducible exact HR179.out)|(with_reducible refine Kd.C_alloc ?_ _)|(with_reducible refine Kd.C_drewN ?_ _)|(with_reducible refine Kd.C_drew ?_)|exact HR179.out))
                have hcv39q:=fun (n_:Nat)=>Kd.C_string (P:=Try.prog) (A:=A38) (c:=c38) Try.underlying26 Try.underlying5 Try.underlying9 (Kd.C_drewN (by repeat (first|(with_reducible exact HR179.out)|(with_reducible refine Kd.C_alloc ?_ _)|(with_reducible refine Kd.C_drewN ?_ _)|(with_reducible refine Kd.C_drew ?_)|exact HR179.out)) n_)
                go_wp2_with (first|(go_at_call 40;(with_reducible refine (strings_Contains.callsM (strOfNums t161) (strOfNums y176) false w _ HMX.out (by repeat (first|exact HB.out|apply pw_below_drewN|apply below_drew1)) A32.out).mono ?_);rintro e w' ⟨rfl,⟨nd,rfl⟩⟩;(try first|exact ⟨rfl,_,World.drewN_drewN _ _ _⟩|exact ⟨rfl,_,Eq.trans (World.drewN_drewN _ _ _) (congrArg (World.drewN _) (Nat.add_assoc _ _ _))⟩)))
                repeat (go_quiet (first|(go_at_call 40;(with_reducible refine (strings_Contains.callsM (strOfNums t161) (strOfNums y176) false w _ HMX.out (by repeat (first|exact HB.out|apply pw_below_drewN|apply below_drew1)) A32.out).mono ?_);rintro e w' ⟨rfl,⟨nd,rfl⟩⟩;(try first|exact ⟨rfl,_,World.drewN_drewN _ _ _⟩|exact ⟨rfl,_,Eq.trans (World.drewN_drewN _ _ _) (congrArg (World.drewN _) (Nat.add_assoc _ _ _))⟩)));try go_wp2_with (first|(go_at_call 40;(with_reducible refine (strings_Contains.callsM (strOfNums t161) (strOfNums y176) false w _ HMX.out (by repeat (first|exact HB.out|apply pw_below_drewN|apply below_drew1)) A32.out).mono ?_);rintro e w' ⟨rfl,⟨nd,rfl⟩⟩;(try first|exact ⟨rfl,_,World.drewN_drewN _ _ _⟩|exact ⟨rfl,_,Eq.trans (World.drewN_drewN _ _ _) (congrArg (World.drewN _) (Nat.add_assoc _ _ _))⟩))))
                go_roundg kj22
                case measure=>have:=HJ4.out;have:=HK2.out;have:=HK3.out;have:=HJ22.out;omega
                case rel=>exact ⟨(wrap64 (x10_3 + 1)),(by first|rfl|(simp;done)|(simp [*];done)),H',⟨by have:=HJ4.out;have:=HK2.out;have:=HK3.out;have:=HJ22.out;omega⟩,⟨by (with_reducible repeat (first|apply Kd.R_alloc|apply Kd.R_drewN|apply Kd.R_drew));exact HO_4.out⟩,⟨by (with_reducible repeat (first|apply Kd.R_alloc|apply Kd.R_drewN|apply Kd.R_drew));exact HO_5.out⟩,⟨by (with_reducible repeat (first|apply Kd.S_alloc|apply Kd.S_drewN|apply Kd.S_drew));exact HO_6.out⟩,⟨by repeat (first|(with_reducible first|exact HB.out|apply below_alloc|apply pw_below_drewN|apply below_drew1)|exact HB.out)⟩⟩
              ·rw [if_neg c31] at H
               exact absurd H (by simp)
             ·rw [if_neg c30] at H
              exact absurd H (by simp)
            ·rw [if_neg c29] at H
             exact absurd H (by simp)
           ·replace c27:=Bool.eq_false_iff.mpr c27
            subst c27
            have H1:(if 0 ≤ x9_2 then (if x9_2 < (t169.length:Int) then (if ((rd_T39 t169 x9_2).f1) > 0 then (if ((rd_T39 t169 x9_2).f1) < 4 then (some false) else (law26_DeltaGreedy.l0 kj22 t161 t165 t169 (wrap64 (x8_2 + (wrap64 (((rd_T39 t169 x9_2).f1) + (((rd_T39 t169 x9_2).f2).length:Int))))) (wrap64 (x9_2 + 1)))) else (law26_DeltaGreedy.l0 kj22 t161 t165 t169 (wrap64 (x8_2 + (wrap64 (((rd_T39 t169 x9_2).f1) + (((rd_T39 t169 x9_2).f2).length:Int))))) (wrap64 (x9_2 + 1)))) else (none)) else (none)) = some r:=by rw [if_neg (show ¬ (false = true) by decide)] at H;exact H
            clear H
            have H:=H1
            clear H1
            by_cases c40:0 ≤ x9_2
            ·rw [if_pos c40] at H
             have c40b0:decide (0 ≤ x9_2) = true:=decide_eq_true c40
             clear c40
             by_cases c41:x9_2 < (t169.length:Int)
             ·rw [if_pos c41] at H
              have c41b0:decide (x9_2 < (t169.length:Int)) = true:=decide_eq_true c41
              clear c41
              by_cases c42:((rd_T39 t169 x9_2).f1) > 0
              ·rw [if_pos c42] at H
               have c42b0:decide (0 < ((rd_T39 t169 x9_2).f1)) = true:=decide_eq_true c42
               clear c42
               by_cases c43:((rd_T39 t169 x9_2).f1) < 4
               ·rw [if_pos c43] at H
                have c43b0:decide (((rd_T39 t169 x9_2).f1) < 4) = true:=decide_eq_true c43
                clear c43
                obtain rfl:=Option.some.inj H
                have p181:0 ≤ (x9_2:Int):=of_decide_eq_true (by first|(with_reducible assumption)|assumption)
                have q181:x9_2 < (t169.length:Int):=of_decide_eq_true (by first|(with_reducible assumption)|assumption)
                obtain ⟨ad181,A181_2,c181_2,e181,hx181_0,hx181_1,hx181_2,hl181_2,hi181_2⟩:=at_T39 (Kd.S_reads' HO_6.out).2.2 x9_2 p181 q181
                cases e181
                obtain ⟨ce181,hce181,hMe181,hcc181⟩:=Kd.S_get HO_6.out z39 x9_2 p181 (by first|exact q181|exact of_decide_eq_true (by first|(with_reducible assumption)|assumption)|(have e_:=(Kd.S_reads' HO_6.out).1;omega))
                obtain ⟨ve181_2,rfl,ge181_2⟩:=k39_openM hMe181
                have hv181_2:=hcc181 2 _ rfl
                rw [add_field _ _ 2 (by omega)] at hv181_2
                replace hv181_2:=Option.some.inj (hv181_2.symm.trans hx181_2)
                rw [hv181_2] at ge181_2
                have HL181_2:=Aside0.mk (show Kd.R (Kd.int .u8) 5 _ _ _ _ ((rd_T39 t169 x9_2).f2) from ge181_2)
                clear hv181_2 ge181_2
                clear hcc181 hce181
                have HR181_2:=Aside0.mk hi181_2
                have HC181_2:=Aside0.mk hl181_2
                clear hi181_2 hl181_2
                replace p181:=eq_true p181
                replace q181:=eq_true q181
                have p182:0 ≤ (x9_2:Int):=of_decide_eq_true (by first|(with_reducible assumption)|assumption)
                have q182:x9_2 < (t169.length:Int):=of_decide_eq_true (by first|(with_reducible assumption)|assumption)
                obtain ⟨ad182,A182_2,c182_2,e182,hx182_0,hx182_1,hx182_2,hl182_2,hi182_2⟩:=at_T39 (Kd.S_reads' HO_6.out).2.2 x9_2 p182 q182
                obtain rfl:ad181 = ad182:=(by injection e182)
                obtain ⟨ce182,hce182,hMe182,hcc182⟩:=Kd.S_get HO_6.out z39 x9_2 p182 (by first|exact q182|exact of_decide_eq_true (by first|(with_reducible assumption)|assumption)|(have e_:=(Kd.S_reads' HO_6.out).1;omega))
                obtain ⟨ve182_2,rfl,ge182_2⟩:=k39_openM hMe182
                have hv182_2:=hcc182 2 _ rfl
                rw [add_field _ _ 2 (by omega)] at hv182_2
                replace hv182_2:=Option.some.inj (hv182_2.symm.trans hx182_2)
                rw [hv182_2] at ge182_2
                have HL182_2:=Aside0.mk (show Kd.R (Kd.int .u8) 5 _ _ _ _ ((rd_T39 t169 x9_2).f2) from ge182_2)
                clear hv182_2 ge182_2
                clear hcc182 hce182
                have HR182_2:=Aside0.mk hi182_2
                have HC182_2:=Aside0.mk hl182_2
                clear hi182_2 hl182_2
                replace p182:=eq_true p182
                replace q182:=eq_true q182
                have ea_:=Option.some.inj (hx181_2.symm.trans hx182_2)
                injection ea_ with ea_ en_ ec_
                subst ea_
                subst ec_
                clear en_
                go_wp2
                repeat (go_quiet (fail);try go_wp2)
                go_ret
                exact ⟨by first|rfl|(simp [errW_none,errW_some] <;> rfl)|(simp [*,errW_none,errW_some] <;> rfl),by repeat (first|(with_reducible first|exact HB.out|apply below_alloc|apply pw_below_drewN|apply below_drew1)|exact HB.out)⟩
               ·rw [if_neg c43] at H
                have c43b0:decide (((rd_T39 t169 x9_2).f1) < 4) = false:=decide_eq_false c43
                clear c43
                have H':=Aside0.mk H
                clear H
                have p181:0 ≤ (x9_2:Int):=of_decide_eq_true (by first|(with_reducible assumption)|assumption)
                have q181:x9_2 < (t169.length:Int):=of_decide_eq_true (by first|(with_reducible assumption)|assumption)
                obtain ⟨ad181,A181_2,c181_2,e181,hx181_0,hx181_1,hx181_2,hl181_2,hi181_2⟩:=at_T39 (Kd.S_reads' HO_6.out).2.2 x9_2 p181 q181
                cases e181
                obtain ⟨ce181,hce181,hMe181,hcc181⟩:=Kd.S_get HO_6.out z39 x9_2 p181 (by first|exact q181|exact of_decide_eq_true (by first|(with_reducible assumption)|assumption)|(have e_:=(Kd.S_reads' HO_6.out).1;omega))
                obtain ⟨ve181_2,rfl,ge181_2⟩:=k39_openM hMe181
                have hv181_2:=hcc181 2 _ rfl
                rw [add_field _ _ 2 (by omega)] at hv181_2
                replace hv181_2:=Option.some.inj (hv181_2.symm.trans hx181_2)
                rw [hv181_2] at ge181_2
                have HL181_2:=Aside0.mk (show Kd.R (Kd.int .u8) 5 _ _ _ _ ((rd_T39 t169 x9_2).f2) from ge181_2)
                clear hv181_2 ge181_2
                clear hcc181 hce181
                have HR181_2:=Aside0.mk hi181_2
                have HC181_2:=Aside0.mk hl181_2
                clear hi181_2 hl181_2
                replace p181:=eq_true p181
                replace q181:=eq_true q181
                have p182:0 ≤ (x9_2:Int):=of_decide_eq_true (by first|(with_reducible assumption)|assumption)
                have q182:x9_2 < (t169.length:Int):=of_decide_eq_true (by first|(with_reducible assumption)|assumption)
                obtain ⟨ad182,A182_2,c182_2,e182,hx182_0,hx182_1,hx182_2,hl182_2,hi182_2⟩:=at_T39 (Kd.S_reads' HO_6.out).2.2 x9_2 p182 q182
                obtain rfl:ad181 = ad182:=(by injection e182)
                obtain ⟨ce182,hce182,hMe182,hcc182⟩:=Kd.S_get HO_6.out z39 x9_2 p182 (by first|exact q182|exact of_decide_eq_true (by first|(with_reducible assumption)|assumption)|(have e_:=(Kd.S_reads' HO_6.out).1;omega))
                obtain ⟨ve182_2,rfl,ge182_2⟩:=k39_openM hMe182
                have hv182_2:=hcc182 2 _ rfl
                rw [add_field _ _ 2 (by omega)] at hv182_2
                replace hv182_2:=Option.some.inj (hv182_2.symm.trans hx182_2)
                rw [hv182_2] at ge182_2
                have HL182_2:=Aside0.mk (show Kd.R (Kd.int .u8) 5 _ _ _ _ ((rd_T39 t169 x9_2).f2) from ge182_2)
                clear hv182_2 ge182_2
                clear hcc182 hce182
                have HR182_2:=Aside0.mk hi182_2
                have HC182_2:=Aside0.mk hl182_2
                clear hi182_2 hl182_2
                replace p182:=eq_true p182
                replace q182:=eq_true q182
                have ea_:=Option.some.inj (hx181_2.symm.trans hx182_2)
                injection ea_ with ea_ en_ ec_
                subst ea_
                subst ec_
                clear en_
                have p183:0 ≤ (x9_2:Int):=of_decide_eq_true (by first|(with_reducible assumption)|assumption)
                have q183:x9_2 < (t169.length:Int):=of_decide_eq_true (by first|(with_reducible assumption)|assumption)
                obtain ⟨ad183,A183_2,c183_2,e183,hx183_0,hx183_1,hx183_2,hl183_2,hi183_2⟩:=at_T39 (Kd.S_reads' HO_6.out).2.2 x9_2 p183 q183
                obtain rfl:ad181 = ad183:=(by injection e183)
                obtain ⟨ce183,hce183,hMe183,hcc183⟩:=Kd.S_get HO_6.out z39 x9_2 p183 (by first|exact q183|exact of_decide_eq_true (by first|(with_reducible assumption)|assumption)|(have e_:=(Kd.S_reads' HO_6.out).1;omega))
                obtain ⟨ve183_2,rfl,ge183_2⟩:=k39_openM hMe183
                have hv183_2:=hcc183 2 _ rfl
                rw [add_field _ _ 2 (by omega)] at hv183_2
                replace hv183_2:=Option.some.inj (hv183_2.symm.trans hx183_2)
                rw [hv183_2] at ge183_2
                have HL183_2:=Aside0.mk (show Kd.R (Kd.int .u8) 5 _ _ _ _ ((rd_T39 t169 x9_2).f2) from ge183_2)
                clear hv183_2 ge183_2
                clear hcc183 hce183
                have HR183_2:=Aside0.mk hi183_2
                have HC183_2:=Aside0.mk hl183_2
                clear hi183_2 hl183_2
                replace p183:=eq_true p183
                replace q183:=eq_true q183
                have ea_:=Option.some.inj (hx181_2.symm.trans hx183_2)
                injection ea_ with ea_ en_ ec_
                subst ea_
                subst ec_
                clear en_
                have p184:0 ≤ (x9_2:Int):=of_decide_eq_true (by first|(with_reducible assumption)|assumption)
                have q184:x9_2 < (t169.length:Int):=of_decide_eq_true (by first|(with_reducible assumption)|assumption)
                obtain ⟨ad184,A184_2,c184_2,e184,hx184_0,hx184_1,hx184_2,hl184_2,hi184_2⟩:=at_T39 (Kd.S_reads' HO_6.out).2.2 x9_2 p184 q184
                obtain rfl:ad181 = ad184:=(by injection e184)
                obtain ⟨ce184,hce184,hMe184,hcc184⟩:=Kd.S_get HO_6.out z39 x9_2 p184 (by first|exact q184|exact of_decide_eq_true (by first|(with_reducible assumption)|assumption)|(have e_:=(Kd.S_reads' HO_6.out).1;omega))
                obtain ⟨ve184_2,rfl,ge184_2⟩:=k39_openM hMe184
                have hv184_2:=hcc184 2 _ rfl
                rw [add_field _ _ 2 (by omega)] at hv184_2
                replace hv184_2:=Option.some.inj (hv184_2.symm.trans hx184_2)
                rw [hv184_2] at ge184_2
                have HL184_2:=Aside0.mk (show Kd.R (Kd.int .u8) 5 _ _ _ _ ((rd_T39 t169 x9_2).f2) from ge184_2)
                clear hv184_2 ge184_2
                clear hcc184 hce184
                have HR184_2:=Aside0.mk hi184_2
                have HC184_2:=Aside0.mk hl184_2
                clear hi184_2 hl184_2
                replace p184:=eq_true p184
                replace q184:=eq_true q184
                have ea_:=Option.some.inj (hx181_2.symm.trans hx184_2)
                injection ea_ with ea_ en_ ec_
                subst ea_
                subst ec_
                clear en_
                go_wp2
                repeat (go_quiet (fail);try go_wp2)
                go_roundg kj22
                case measure=>have:=HJ4.out;have:=HK2.out;have:=HK3.out;have:=HJ22.out;omega
                case rel=>exact ⟨(wrap64 (x8_2 + (wrap64 (((rd_T39 t169 x9_2).f1) + (((rd_T39 t169 x9_2).f2).length:Int))))),(wrap64 (x9_2 + 1)),(by first|rfl|(simp;done)|(simp [*];done)),(by first|rfl|(simp;done)|(simp [*];done)),H',⟨by have:=HJ4.out;have:=HK2.out;have:=HK3.out;have:=HJ22.out;omega⟩,⟨by (with_reducible repeat (first|apply Kd.R_alloc|apply Kd.R_drewN|apply Kd.R_drew));exact HO_4.out⟩,⟨by (with_reducible repeat (first|apply Kd.R_alloc|apply Kd.R_drewN|apply Kd.R_drew));exact HO_5.out⟩,⟨by (with_reducible repeat (first|apply Kd.S_alloc|apply Kd.S_drewN|apply Kd.S_drew));exact HO_6.out⟩,⟨by repeat (first|(with_reducible first|exact HB.out|apply below_alloc|apply pw_below_drewN|apply below_drew1)|exact HB.out)⟩⟩
              ·rw [if_neg c42] at H
               have c42b0:decide (0 < ((rd_T39 t169 x9_2).f1)) = false:=decide_eq_false c42
               clear c42
               have H':=Aside0.mk H
               clear H
               have p181:0 ≤ (x9_2:Int):=of_decide_eq_true (by first|(with_reducible assumption)|assumption)
               have q181:x9_2 < (t169.length:Int):=of_decide_eq_true (by first|(with_reducible assumption)|assumption)
               obtain ⟨ad181,A181_2,c181_2,e181,hx181_0,hx181_1,hx181_2,hl181_2,hi181_2⟩:=at_T39 (Kd.S_reads' HO_6.out).2.2 x9_2 p181 q181
               cases e181
               obtain ⟨ce181,hce181,hMe181,hcc181⟩:=Kd.S_get HO_6.out z39 x9_2 p181 (by first|exact q181|exact of_decide_eq_true (by first|(with_reducible assumption)|assumption)|(have e_:=(Kd.S_reads' HO_6.out).1;omega))
               obtain ⟨ve181_2,rfl,ge181_2⟩:=k39_openM hMe181
               have hv181_2:=hcc181 2 _ rfl
               rw [add_field _ _ 2 (by omega)] at hv181_2
               replace hv181_2:=Option.some.inj (hv181_2.symm.trans hx181_2)
               rw [hv181_2] at ge181_2
               have HL181_2:=Aside0.mk (show Kd.R (Kd.int .u8) 5 _ _ _ _ ((rd_T39 t169 x9_2).f2) from ge181_2)
               clear hv181_2 ge181_2
               clear hcc181 hce181
               have HR181_2:=Aside0.mk hi181_2
               have HC181_2:=Aside0.mk hl181_2
               clear hi181_2 hl181_2
               replace p181:=eq_true p181
               replace q181:=eq_true q181
               have p185:0 ≤ (x9_2:Int):=of_decide_eq_true (by first|(with_reducible assumption)|assumption)
               have q185:x9_2 < (t169.length:Int):=of_decide_eq_true (by first|(with_reducible assumption)|assumption)
               obtain ⟨ad185,A185_2,c185_2,e185,hx185_0,hx185_1,hx185_2,hl185_2,hi185_2⟩:=at_T39 (Kd.S_reads' HO_6.out).2.2 x9_2 p185 q185
               obtain rfl:ad181 = ad185:=(by injection e185)
               obtain ⟨ce185,hce185,hMe185,hcc185⟩:=Kd.S_get HO_6.out z39 x9_2 p185 (by first|exact q185|exact of_decide_eq_true (by first|(with_reducible assumption)|assumption)|(have e_:=(Kd.S_reads' HO_6.out).1;omega))
               obtain ⟨ve185_2,rfl,ge185_2⟩:=k39_openM hMe185
               have hv185_2:=hcc185 2 _ rfl
               rw [add_field _ _ 2 (by omega)] at hv185_2
               replace hv185_2:=Option.some.inj (hv185_2.symm.trans hx185_2)
               rw [hv185_2] at ge185_2
               have HL185_2:=Aside0.mk (show Kd.R (Kd.int .u8) 5 _ _ _ _ ((rd_T39 t169 x9_2).f2) from ge185_2)
               clear hv185_2 ge185_2
               clear hcc185 hce185
               have HR185_2:=Aside0.mk hi185_2
               have HC185_2:=Aside0.mk hl185_2
               clear hi185_2 hl185_2
               replace p185:=eq_true p185
               replace q185:=eq_true q185
               have ea_:=Option.some.inj (hx181_2.symm.trans hx185_2)
               injection ea_ with ea_ en_ ec_
               subst ea_
               subst ec_
               clear en_
               have p186:0 ≤ (x9_2:Int):=of_decide_eq_true (by first|(with_reducible assumption)|assumption)
               have q186:x9_2 < (t169.length:Int):=of_decide_eq_true (by first|(with_reducible assumption)|assumption)
               obtain ⟨ad186,A186_2,c186_2,e186,hx186_0,hx186_1,hx186_2,hl186_2,hi186_2⟩:=at_T39 (Kd.S_reads' HO_6.out).2.2 x9_2 p186 q186
               obtain rfl:ad181 = ad186:=(by injection e186)
               obtain ⟨ce186,hce186,hMe186,hcc186⟩:=Kd.S_get HO_6.out z39 x9_2 p186 (by first|exact q186|exact of_decide_eq_true (by first|(with_reducible assumption)|assumption)|(have e_:=(Kd.S_reads' HO_6.out).1;omega))
               obtain ⟨ve186_2,rfl,ge186_2⟩:=k39_openM hMe186
               have hv186_2:=hcc186 2 _ rfl
               rw [add_field _ _ 2 (by omega)] at hv186_2
               replace hv186_2:=Option.some.inj (hv186_2.symm.trans hx186_2)
               rw [hv186_2] at ge186_2
               have HL186_2:=Aside0.mk (show Kd.R (Kd.int .u8) 5 _ _ _ _ ((rd_T39 t169 x9_2).f2) from ge186_2)
               clear hv186_2 ge186_2
               clear hcc186 hce186
               have HR186_2:=Aside0.mk hi186_2
               have HC186_2:=Aside0.mk hl186_2
               clear hi186_2 hl186_2
               replace p186:=eq_true p186
               replace q186:=eq_true q186
               have ea_:=Option.some.inj (hx181_2.symm.trans hx186_2)
               injection ea_ with ea_ en_ ec_
               subst ea_
               subst ec_
               clear en_
               go_wp2
               repeat (go_quiet (fail);try go_wp2)
               go_roundg kj22
               case measure=>have:=HJ4.out;have:=HK2.out;have:=HK3.out;have:=HJ22.out;omega
               case rel=>exact ⟨(wrap64 (x8_2 + (wrap64 (((rd_T39 t169 x9_2).f1) + (((rd_T39 t169 x9_2).f2).length:Int))))),(wrap64 (x9_2 + 1)),(by first|rfl|(simp;done)|(simp [*];done)),(by first|rfl|(simp;done)|(simp [*];done)),H',⟨by have:=HJ4.out;have:=HK2.out;have:=HK3.out;have:=HJ22.out;omega⟩,⟨by (with_reducible repeat (first|apply Kd.R_alloc|apply Kd.R_drewN|apply Kd.R_drew));exact HO_4.out⟩,⟨by (with_reducible repeat (first|apply Kd.R_alloc|apply Kd.R_drewN|apply Kd.R_drew));exact HO_5.out⟩,⟨by (with_reducible repeat (first|apply Kd.S_alloc|apply Kd.S_drewN|apply Kd.S_drew));exact HO_6.out⟩,⟨by repeat (first|(with_reducible first|exact HB.out|apply below_alloc|apply pw_below_drewN|apply below_drew1)|exact HB.out)⟩⟩
             ·rw [if_neg c41] at H
              exact absurd H (by simp)
            ·rw [if_neg c40] at H
             exact absurd H (by simp)
      ·rw [if_neg c21] at H
       have c21b0:decide (x9_2 < (t169.length:Int)) = false:=decide_eq_false c21
       clear c21
       obtain rfl:=Option.some.inj H
       obtain ⟨Ao44,co44,eo44⟩:=Kd.S_slice HO_6.out
       subst eo44
       go_wp2
       repeat (go_quiet (fail);try go_wp2)
       go_ret
       exact ⟨by first|rfl|(simp [errW_none,errW_some] <;> rfl)|(simp [*,errW_none,errW_some] <;> rfl),by repeat (first|(with_reducible first|exact HB.out|apply below_alloc|apply pw_below_drewN|apply below_drew1)|exact HB.out)⟩

/-- THE ONE PURE STATEMENT of law26_DeltaGreedy: yours. -/
def law26_DeltaGreedy.Pure:Prop:=∀ (l0:List Int),l0.length ≤ maxLen → l0.length * 8 ≤ 140737488351232 → (∀ x ∈ l0,(Lit.int .i64 x).wf = true) → ∃ k,law26_DeltaGreedy.f k l0 = some true
theorem law26_DeltaGreedy.walk (P:law26_DeltaGreedy.Pure) (a0:Option Addr) (len0 cap0:Nat) (z0:List Int) (w:World) (hmx:MaxL w) (w0:(a0 = none ∧ len0 = 0 ∧ cap0 = 0 ∧ z0 = []) ∨ ∃ x,a0 = some x ∧ len0 ≤ cap0 ∧ cap0 ≤ maxLen ∧ z0.length = cap0 ∧ (∀ i,i < z0.length → w.cell? (x.add i) = some (.int .i64 (z0.getD i 0))) ∧ ∀ n ∈ z0,(Lit.int .i64 n).wf = true) (y0:len0 * 8 ≤ 140737488351232) :
  Calls Try.prog 14 #[.slice a0 len0 cap0] w fun e w'=>e = .returned (.bool true) ∧ Below w.heap.size w w':=by
 obtain ⟨l0,rfl,hr0,hm0,hw0,hc0⟩:=ReadsInt.ofRowC w0
 obtain ⟨k,h⟩:=P l0 hm0 y0 hw0
 refine (law26_DeltaGreedy.calls k _ _ l0 true w hmx (Kd.C_of_reads (d:=(0:Int)) (h1:=fun _=>rfl) hr0) hc0 h).mono ?_
 rintro e w' ⟨rfl,hd⟩
 exact ⟨rfl,hd⟩

end Go.Proofs.Ytjckjcekapkkjaa.P
