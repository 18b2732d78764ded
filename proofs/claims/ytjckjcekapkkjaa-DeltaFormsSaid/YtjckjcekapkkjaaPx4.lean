-- WRITTEN BY myprint.py (wip/tools) for this seat
import Derived.Test.YtjckjcekapkkjaaPx0
import Derived.Test.YtjckjcekapkkjaaPx1
import Derived.Test.YtjckjcekapkkjaaPx3
namespace Go.Proofs.Ytjckjcekapkkjaa.P
open Go.RowKit Go.Proofs.YtjckjcekapkkjaaW.PrintWords Go.Proofs.YtjckjcekapkkjaaW.PrintLast Go.Proofs.YtjckjcekapkkjaaW.PrintMore
attribute [local go_sem] max2_int min2_int max_two min_two max_three min_three max_four min_four   -- for this text's walks alone
set_option linter.unusedVariables false
set_option linter.unusedSimpArgs false

/-! ### law26_made: function 32 -/
mutual
def law26_made.l0:Nat → Int → List (S39) → Int → List Int → Int → Option ((List (S39)) × Int)
 | 0,_,_,_,_,_=>none
 | k + 1,x1,x5,x6,x1000,x1001=>if x6 > 0 then (if x1 = 0 then (law26_made.j1 k x1 x5 x6 true x1000 x1001) else ((make_Tape_Next.f x1000 x1001 2).bind fun bt150=>(law26_made.j1 k x1 x5 x6 (bt150.1 == 0) x1000 bt150.2))) else (some (x5,x1001))
def law26_made.j1:Nat → Int → List (S39) → Int → Bool → List Int → Int → Option ((List (S39)) × Int)
 | 0,_,_,_,_,_,_=>none
 | k + 1,x1,x5,x6,x21,x1000,x1001=>if x21 = true then ((make_Tape_Next.f x1000 x1001 4).bind fun bt152=>((make_Tape_Bytes.f k x1000 bt152.2 (wrap64 (1 + bt152.1)) 3).bind fun bt154=>(if x5.length < 3518437208883 then (law26_made.l0 k x1 (x5 ++ [(⟨0,0,bt154.1⟩:S39)]) (wrap64 (x6 - 1)) x1000 bt154.2) else (none)))) else ((make_Tape_Next.f x1000 x1001 x1).bind fun bt161=>(if (wrap64 ((x5.length:Int) - 1)) ≥ 0 then (if 0 ≤ (wrap64 ((x5.length:Int) - 1)) then (if (wrap64 ((x5.length:Int) - 1)) < (x5.length:Int) then (if ((rd_T39 x5 (wrap64 ((x5.length:Int) - 1))).f1) > 0 then (if (wrap64 (((rd_T39 x5 (wrap64 ((x5.length:Int) - 1))).f0) + ((rd_T39 x5 (wrap64 ((x5.length:Int) - 1))).f1))) < x1 then ((make_Tape_Next.f x1000 bt161.2 2).bind fun bt167=>(law26_made.j2 k x1 x5 x6 (wrap64 ((x5.length:Int) - 1)) (bt167.1 == 0) x1000 bt167.2 bt161.1 0)) else (law26_made.j2 k x1 x5 x6 (wrap64 ((x5.length:Int) - 1)) false x1000 bt161.2 bt161.1 0)) else (law26_made.j2 k x1 x5 x6 (wrap64 ((x5.length:Int) - 1)) false x1000 bt161.2 bt161.1 0)) else (none)) else (none)) else (law26_made.j2 k x1 x5 x6 (wrap64 ((x5.length:Int) - 1)) false x1000 bt161.2 bt161.1 0)))
def law26_made.j2:Nat → Int → List (S39) → Int → Int → Bool → List Int → Int → Int → Int → Option ((List (S39)) × Int)
 | 0,_,_,_,_,_,_,_,_,_=>none
 | k + 1,x1,x5,x6,x8,x67,x1000,x1001,x164000,x164001=>if x67 = true then (if 0 ≤ x8 then (if x8 < (x5.length:Int) then (law26_made.j3 k x1 x5 x6 x1000 x1001 (wrap64 (((rd_T39 x5 x8).f0) + ((rd_T39 x5 x8).f1))) x164001) else (none)) else (none)) else (law26_made.j3 k x1 x5 x6 x1000 x1001 x164000 x164001)
def law26_made.j3:Nat → Int → List (S39) → Int → List Int → Int → Int → Int → Option ((List (S39)) × Int)
 | 0,_,_,_,_,_,_,_=>none
 | k + 1,x1,x5,x6,x1000,x1001,x164000,x164001=>(make_Tape_Next.f x1000 x1001 (wrap64 (x1 - x164000))).bind fun bt171=>(if x5.length < 3518437208883 then (law26_made.l0 k x1 (x5 ++ [(⟨x164000,wrap64 (1 + bt171.1),([]:List Int)⟩:S39)]) (wrap64 (x6 - 1)) x1000 bt171.2) else (none))
end
def law26_made.f (k:Nat) (s0_0:List Int) (s0_1:Int) (a1:Int):Option ((List (S39)) × Int):=(make_Tape_Next.f s0_0 s0_1 8).bind fun bt148=>(law26_made.l0 k a1 ([]:List (S39)) bt148.1 s0_0 bt148.2)
def law26_made.T9:Bool × List (List Nat × List Nat):=(true,[([],[]),([0],[0]),([1],[1]),([2],[2]),([2],[2]),([3,4,2],[2,3,4]),([5,2],[2,5]),([6,2],[2,6]),([7,2],[2,7]),([2,8],[2,8]),([9,2],[9]),([10],[10]),([10],[10]),([11,12,10],[10,11,12]),([13,10],[10,13]),([14,10],[10,14]),([10],[10]),([10],[10]),([16,17,10],[10,16,17]),([18,10],[10,18]),([19,10],[10,19]),([15,20,10],[10,15,20]),([10],[10]),([21,22,10],[10,21,22]),([10,23],[10,23]),([24,10],[24]),([25],[25]),([26,25,25],[25,26]),([27,25],[25,27]),([25,28],[25,28])])
def law26_made.B9:List Nat:=[0,1,3,7,7,31,63,127,255,511,1023,2047,2047,8191,16383,32767,2047,2047,198655,460799,985087,2097151,2047,8388607,16777215,33554431,67108863,134217727,268435455,536870911]
theorem law26_made.tab9:rtab .any (opsOf Try.f32 9) = law26_made.T9:=by kernel_rfl
theorem law26_made.bits9:waitsOk law26_made.T9.2 law26_made.B9 = true:=by kernel_rfl
def law26_made.T10:Bool × List (List Nat × List Nat):=(true,[([],[]),([],[]),([0,1],[0,1]),([2],[2]),([3],[3]),([],[]),([],[]),([5,6],[5,6]),([7],[7]),([8],[8]),([4,9],[4,9]),([0,1,2,3,4,5,6,7,8,9,10],[]),([11,10,0,1,2,3,4,5,6,7,8,9,10],[10,11])])
def law26_made.B10:List Nat:=[0,0,3,7,15,0,0,96,224,480,1023,2047,4095]
theorem law26_made.tab10:rtab .any (opsOf Try.f32 10) = law26_made.T10:=by kernel_rfl
theorem law26_made.bits10:waitsOk law26_made.T10.2 law26_made.B10 = true:=by kernel_rfl
set_option maxHeartbeats 8000000 in
set_option maxRecDepth 100000 in
theorem law26_made.calls (k:Nat) (g:Nat) (s0_0:List Int) (s0_1:Int) (a1:Int) (r1:List (S39)) (r2:Int) (w0 w:World) (hI:IsS25 w0 w g s0_0 s0_1) (hB:Below w0.heap.size w0 w) (h:law26_made.f k s0_0 s0_1 a1 = some (r1,r2)) :
  Calls Try.prog 32 #[.pointer (some ⟨g,0,none⟩),.int .i64 a1] w fun e w'=>∃ v0_:Value,e = .returned (v0_) ∧ Kd.S k39 39 w' w.heap.size (fun _=>True) v0_ r1 ∧ IsS25 w0 w' g s0_0 r2 ∧ Below w0.heap.size w0 w' ∧ KeepBut w w' g none:=by
 have hu39:=Try.underlying39
 have HI0:=Aside0.mk hI
 have HK:=Aside0.mk (KeepBut.refl w g none)
 have HL:=Aside0.mk hB.size
 clear hI
 have HW0:=Aside0.mk hB.size
 have HB:=Aside0.mk hB
 clear hB
 have H:((make_Tape_Next.f s0_0 s0_1 8).bind fun bt148=>(law26_made.l0 k a1 ([]:List (S39)) bt148.1 s0_0 bt148.2)) = some (r1,r2):=h
 clear h
 replace H:=Option.bind_eq_some_iff.mp H
 obtain ⟨⟨t148,t149⟩,A30,H⟩:=H
 replace H:(law26_made.l0 k a1 ([]:List (S39)) t148 s0_0 t149) = some (r1,r2):=H
 have A3:=Aside0.mk A30
 clear A30
 have H':=Aside0.mk H
 clear H
 go_enter Try.func32,Try.ntmps32
 go_wp2_with (first|((with_reducible refine gate_callee (f:=16) rfl ?_);refine goesL_ (some 10) rfl rfl Try.func16 (by kernel_rfl) rfl #[.pointer (some ⟨g,0,none⟩),.int .i64 8] rfl (by (try simp only [List.map_toArray,List.map_cons,List.map_nil]);first|done|rfl|(simp only [List.length_drop,List.length_take];rfl)) ?_;(with_reducible refine (make_Tape_Next.calls g s0_0 s0_1 8 t148 t149 w0 _ ?side1 ?side2 A3.out).mono ?_);(case side1=>repeat (first|(with_reducible first|exact HI0.out|apply IsS25.alloc|apply IsS25.drewN|apply IsS25.drew|apply IsS25.set_1)|exact HI0.out));(case side2=>repeat (first|(with_reducible first|exact HB.out|apply below_alloc|apply pw_below_drewN|apply below_drew1|refine below_set ?_ (IsS25.ge HI0.out))|exact HB.out));rintro e w4 ⟨rfl,hi,hb,hk⟩;refine ⟨_,rfl,?_⟩;have n0_:=Aside0.mk (KeepBut.trans (by repeat (first|(with_reducible first|exact HK.out|apply KeepBut.set_|apply keep_drewN|apply keep_drew|apply keep_alloc)|exact HK.out)) hk (.inl rfl));have n1_:=Aside0.mk (hb);have n2_:=Aside0.mk (hi);clear HK;clear HB;clear HI0;have HK:=n0_;have HB:=n1_;have HI0:=n2_;clear n0_ n1_ n2_;(try clear hb);(try clear hb2);(try clear hk);(try clear hi)))
 go_loopg [5,6] k (fun kq v5 v6 w'=>∃ (x5_1:List (S39)) (x6_1:Int) (x1001_1:Int),v6 = .int .i64 x6_1 ∧ Aside0 (law26_made.l0 kq a1 x5_1 x6_1 s0_0 x1001_1 = some (r1,r2)) ∧ Aside0 (kq ≤ k) ∧ Aside0 (Kd.S k39 39 w' w.heap.size (fun _=>True) v5 x5_1) ∧ Aside0 (IsS25 w0 w' g s0_0 x1001_1) ∧ Aside0 (KeepBut w w' g none) ∧ Aside0 (Below w0.heap.size w0 w'))
 case atStart=>exact ⟨(([]:List (S39))),(t148),(t149),(by first|rfl|(simp;done)|(simp [*];done)),H',⟨Nat.le_refl _⟩,⟨by first|exact Kd.S_nil _ _ _ _ _|exact Kd.N_nil _ _ _ _ _|exact Kd.V_nil _ _ _ _ _|exact Kd.Q_nil _ _ _ _ _|exact Kd.R_nil _ _ _ _ _⟩,⟨by repeat (first|(with_reducible first|exact HI0.out|apply IsS25.alloc|apply IsS25.drewN|apply IsS25.drew|apply IsS25.set_1)|exact HI0.out)⟩,⟨by repeat (first|(with_reducible first|exact HK.out|apply KeepBut.set_|apply keep_drewN|apply keep_drew|apply keep_alloc)|exact HK.out)⟩,⟨by repeat (first|(with_reducible first|exact HB.out|apply below_alloc|apply pw_below_drewN|apply below_drew1|refine below_set ?_ (IsS25.ge HI0.out))|exact HB.out)⟩⟩
 case round =>
  clear H'
  try clear c1
  try clear p2
  try clear c3
  obtain ⟨x5_1,x6_1,x1001_1,rfl,HA,HK1,HO_5,HI0,HK,HB⟩:=hrel
  cases gk with
  | zero=>exact absurd HA.out (by simp [law26_made.l0])
  | succ k1 =>
   have H:=HA.out
   clear HA
   simp only [law26_made.l0] at H
   by_cases c5:x6_1 > 0
   ·rw [if_pos c5] at H
    have c5b0:decide (0 < x6_1) = true:=decide_eq_true c5
    clear c5
    have HC6:=Aside0.mk H
    clear H
    go_upto_region 5 with (fail)
    go_cut [21] (fun v21 wc=>∃ (kq:Nat) (x21_5:Bool) (x1001_5:Int),v21 = .bool x21_5 ∧ Aside0 (law26_made.j1 kq a1 x5_1 x6_1 x21_5 s0_0 x1001_5 = some (r1,r2)) ∧ Aside0 (kq ≤ k1) ∧ Aside0 (Kd.S k39 39 wc w.heap.size (fun _=>True) u5 x5_1) ∧ Aside0 (IsS25 w0 wc g s0_0 x1001_5) ∧ Aside0 (KeepBut w wc g none) ∧ Aside0 (Below w0.heap.size w0 wc))
    case first =>
     have H:=HC6.out
     clear HC6
     by_cases c7:a1 = 0
     ·rw [if_pos c7] at H
      have c7b0:(a1 == 0) = true:=beq_iff_eq.mpr c7
      have c7b1:(a1 != 0) = false:=bne_eq_false_iff_eq.mpr c7
      clear c7
      (first|rw [c7b0]|(simp only [i64_w,i32_w];rw [c7b0])|skip)
      have H':=Aside0.mk H
      clear H
      go_wp2
      go_meet
      case rel=>exact ⟨_,(true),(x1001_1),(by first|rfl|(simp;done)|(simp [*];done)),H',⟨by have:=HK1.out;first|omega|exact Nat.le_refl _⟩,⟨by (with_reducible repeat (first|apply Kd.S_alloc|apply Kd.S_drewN|apply Kd.S_drew));exact HO_5.out⟩,⟨by repeat (first|(with_reducible first|exact HI0.out|apply IsS25.alloc|apply IsS25.drewN|apply IsS25.drew|apply IsS25.set_1)|exact HI0.out)⟩,⟨by repeat (first|(with_reducible first|exact HK.out|apply KeepBut.set_|apply keep_drewN|apply keep_drew|apply keep_alloc)|exact HK.out)⟩,⟨by repeat (first|(with_reducible first|exact HB.out|apply below_alloc|apply pw_below_drewN|apply below_drew1|refine below_set ?_ (IsS25.ge HI0.out))|exact HB.out)⟩⟩
     ·rw [if_neg c7] at H
      have c7b0:(a1 == 0) = false:=beq_eq_false_iff_ne.mpr c7
      have c7b1:(a1 != 0) = true:=bne_iff_ne.mpr c7
      (first|rw [c7b0]|(simp only [i64_w,i32_w];rw [c7b0])|skip)
      replace H:=Option.bind_eq_some_iff.mp H
      obtain ⟨⟨t150,t151⟩,A80,H⟩:=H
      replace H:(law26_made.j1 k1 a1 x5_1 x6_1 (t150 == 0) s0_0 t151) = some (r1,r2):=H
      have A8:=Aside0.mk A80
      clear A80
      have H':=Aside0.mk H
      clear H
      go_wp2_with (first|(go_at_call 16;(with_reducible refine (make_Tape_Next.calls g s0_0 x1001_1 2 t150 t151 w0 _ ?side1 ?side2 A8.out).mono ?_);(case side1=>repeat (first|(with_reducible first|exact HI0.out|apply IsS25.alloc|apply IsS25.drewN|apply IsS25.drew|apply IsS25.set_1)|exact HI0.out));(case side2=>repeat (first|(with_reducible first|exact HB.out|apply below_alloc|apply pw_below_drewN|apply below_drew1|refine below_set ?_ (IsS25.ge HI0.out))|exact HB.out));rintro e w9 ⟨rfl,hi,hb,hk⟩;have n0_:=Aside0.mk (Kd.S_mono (Kd.S_keep (IsS25.apartS (show IsS25 w0 _ g s0_0 x1001_1 from by repeat (first|(with_reducible first|exact HI0.out|apply IsS25.alloc|apply IsS25.drewN|apply IsS25.drew|apply IsS25.set_1)|exact HI0.out)) (by (with_reducible repeat (first|apply Kd.S_alloc|apply Kd.S_drewN|apply Kd.S_drew));exact HO_5.out) (by decide)) hk (fun _ h=>h.2)) (fun _ h=>h.1));have n1_:=Aside0.mk (KeepBut.trans (by repeat (first|(with_reducible first|exact HK.out|apply KeepBut.set_|apply keep_drewN|apply keep_drew|apply keep_alloc)|exact HK.out)) hk (.inl rfl));have n2_:=Aside0.mk (hb);have n3_:=Aside0.mk (hi);clear HO_5;clear HK;clear HB;clear HI0;have HO_5:=n0_;have HK:=n1_;have HB:=n2_;have HI0:=n3_;clear n0_ n1_ n2_ n3_;(try clear hb);(try clear hb2);(try clear hk);(try clear hi)))
      go_meet
      case rel=>exact ⟨_,((t150 == 0)),(t151),(by first|rfl|(simp;done)|(simp [*];done)),H',⟨by have:=HK1.out;first|omega|exact Nat.le_refl _⟩,⟨by (with_reducible repeat (first|apply Kd.S_alloc|apply Kd.S_drewN|apply Kd.S_drew));exact HO_5.out⟩,⟨by repeat (first|(with_reducible first|exact HI0.out|apply IsS25.alloc|apply IsS25.drewN|apply IsS25.drew|apply IsS25.set_1)|exact HI0.out)⟩,⟨by repeat (first|(with_reducible first|exact HK.out|apply KeepBut.set_|apply keep_drewN|apply keep_drew|apply keep_alloc)|exact HK.out)⟩,⟨by repeat (first|(with_reducible first|exact HB.out|apply below_alloc|apply pw_below_drewN|apply below_drew1|refine below_set ?_ (IsS25.ge HI0.out))|exact HB.out)⟩⟩
    case rest =>
     clear HC6
     try clear c1
     try clear p2
     try clear c3
     try clear c5
     try clear c5b0
     try clear c7
     try clear c7b0
     try clear c7b1
     try clear p2
     obtain ⟨kq,x21_5,x1001_5,rfl,HA,HJ5,HO_5,HI0,HK,HB⟩:=hcut
     cases kq with
     | zero=>exact absurd HA.out (by simp [law26_made.j1])
     | succ kj5 =>
      have H:=HA.out
      clear HA
      simp only [law26_made.j1] at H
      by_cases c10:x21_5 = true
      ·subst c10
       have H1:((make_Tape_Next.f s0_0 x1001_5 4).bind fun bt152=>((make_Tape_Bytes.f kj5 s0_0 bt152.2 (wrap64 (1 + bt152.1)) 3).bind fun bt154=>(if x5_1.length < 3518437208883 then (law26_made.l0 kj5 a1 (x5_1 ++ [(⟨0,0,bt154.1⟩:S39)]) (wrap64 (x6_1 - 1)) s0_0 bt154.2) else (none)))) = some (r1,r2):=by rw [if_pos rfl] at H;exact H
       clear H
       have H:=H1
       clear H1
       replace H:=Option.bind_eq_some_iff.mp H
       obtain ⟨⟨t152,t153⟩,A110,H⟩:=H
       replace H:((make_Tape_Bytes.f kj5 s0_0 t153 (wrap64 (1 + t152)) 3).bind fun bt154=>(if x5_1.length < 3518437208883 then (law26_made.l0 kj5 a1 (x5_1 ++ [(⟨0,0,bt154.1⟩:S39)]) (wrap64 (x6_1 - 1)) s0_0 bt154.2) else (none))) = some (r1,r2):=H
       have A11:=Aside0.mk A110
       clear A110
       replace H:=Option.bind_eq_some_iff.mp H
       obtain ⟨⟨t154,t157⟩,A120,H⟩:=H
       replace H:(if x5_1.length < 3518437208883 then (law26_made.l0 kj5 a1 (x5_1 ++ [(⟨0,0,t154⟩:S39)]) (wrap64 (x6_1 - 1)) s0_0 t157) else (none)) = some (r1,r2):=H
       have A12:=Aside0.mk A120
       clear A120
       by_cases c13:x5_1.length < 3518437208883
       ·rw [if_pos c13] at H
        have LMc13:=Aside0.mk c13
        clear c13
        obtain ⟨y158,hy158⟩:∃ y_:List (S39),y_ = (x5_1 ++ [(⟨0,0,t154⟩:S39)]):=⟨_,rfl⟩
        replace H:(law26_made.l0 kj5 a1 y158 (wrap64 (x6_1 - 1)) s0_0 t157) = some (r1,r2):=by first|(rw [hy158];with_reducible exact H)|(have H2_:=(Option.bind_some _ _).symm.trans H;rw [hy158];with_reducible exact H2_)|(have H2_:=(Option.bind_some _ _).symm.trans H;with_reducible exact H2_)|with_reducible exact H|(rw [hy158];exact H)|exact H
        have Ny158:=Aside0.mk hy158
        clear hy158
        have H':=Aside0.mk H
        clear H
        go_wp2_with (first|((with_reducible refine gate_callee (f:=16) rfl ?_);refine goesL_ (some 25) rfl rfl Try.func16 (by kernel_rfl) rfl #[.pointer (some ⟨g,0,none⟩),.int .i64 4] rfl (by (try simp only [List.map_toArray,List.map_cons,List.map_nil]);first|done|rfl|(simp only [List.length_drop,List.length_take];rfl)) ?_;(with_reducible refine (make_Tape_Next.calls g s0_0 x1001_5 4 t152 t153 w0 _ ?side1 ?side2 A11.out).mono ?_);(case side1=>repeat (first|(with_reducible first|exact HI0.out|apply IsS25.alloc|apply IsS25.drewN|apply IsS25.drew|apply IsS25.set_1)|exact HI0.out));(case side2=>repeat (first|(with_reducible first|exact HB.out|apply below_alloc|apply pw_below_drewN|apply below_drew1|refine below_set ?_ (IsS25.ge HI0.out))|exact HB.out));rintro e w14 ⟨rfl,hi,hb,hk⟩;refine ⟨_,rfl,?_⟩;have n0_:=Aside0.mk (Kd.S_mono (Kd.S_keep (IsS25.apartS (show IsS25 w0 _ g s0_0 x1001_5 from by repeat (first|(with_reducible first|exact HI0.out|apply IsS25.alloc|apply IsS25.drewN|apply IsS25.drew|apply IsS25.set_1)|exact HI0.out)) (by (with_reducible repeat (first|apply Kd.S_alloc|apply Kd.S_drewN|apply Kd.S_drew));exact HO_5.out) (by decide)) hk (fun _ h=>h.2)) (fun _ h=>h.1));have n1_:=Aside0.mk (KeepBut.trans (by repeat (first|(with_reducible first|exact HK.out|apply KeepBut.set_|apply keep_drewN|apply keep_drew|apply keep_alloc)|exact HK.out)) hk (.inl rfl));have n2_:=Aside0.mk (hb);have n3_:=Aside0.mk (hi);clear HO_5;clear HK;clear HB;clear HI0;have HO_5:=n0_;have HK:=n1_;have HB:=n2_;have HI0:=n3_;clear n0_ n1_ n2_ n3_;(try clear hb);(try clear hb2);(try clear hk);(try clear hi))|((with_reducible refine gate_callee (f:=41) rfl ?_);refine goesL_ (some 27) rfl rfl Try.func41 (by kernel_rfl) rfl #[.pointer (some ⟨g,0,none⟩),.int .i64 (wrap64 (1 + t152)),.int .i64 3] rfl (by (try simp only [List.map_toArray,List.map_cons,List.map_nil]);first|done|rfl|(simp only [List.length_drop,List.length_take];rfl)) ?_;(with_reducible refine (make_Tape_Bytes.calls kj5 g s0_0 t153 (wrap64 (1 + t152)) 3 t154 t157 w0 _ ?side1 ?side2 A12.out).mono ?_);(case side1=>repeat (first|(with_reducible first|exact HI0.out|apply IsS25.alloc|apply IsS25.drewN|apply IsS25.drew|apply IsS25.set_1)|exact HI0.out));(case side2=>repeat (first|(with_reducible first|exact HB.out|apply below_alloc|apply pw_below_drewN|apply below_drew1|refine below_set ?_ (IsS25.ge HI0.out))|exact HB.out));rintro e w15 ⟨v155,rfl,ho0,hi,hb,hk⟩;refine ⟨_,rfl,?_⟩;have n0_:=Aside0.mk (Kd.S_mono (Kd.S_told (Kd.S_oldK (IsS25.apartS (show IsS25 w0 _ g s0_0 t153 from by repeat (first|(with_reducible first|exact HI0.out|apply IsS25.alloc|apply IsS25.drewN|apply IsS25.drew|apply IsS25.set_1)|exact HI0.out)) (by (with_reducible repeat (first|apply Kd.S_alloc|apply Kd.S_drewN|apply Kd.S_drew));exact HO_5.out) (by decide)) hk) (Kd.R_base ho0)) (fun _ h_=>h_.1));have n1_:=Aside0.mk (Kd.R_lower ho0 (keep_size (w:=w) (g:=g) (row:=none) (by repeat (first|(with_reducible first|exact HK.out|apply KeepBut.set_|apply keep_drewN|apply keep_drew|apply keep_alloc)|exact HK.out))));have n2_:=Aside0.mk (KeepBut.trans (by repeat (first|(with_reducible first|exact HK.out|apply KeepBut.set_|apply keep_drewN|apply keep_drew|apply keep_alloc)|exact HK.out)) hk (.inl rfl));have n3_:=Aside0.mk (hb);have n4_:=Aside0.mk (hi);clear HO_5;clear HK;clear HB;clear HI0;have HO_5:=n0_;have HO156:=n1_;have HK:=n2_;have HB:=n3_;have HI0:=n4_;clear n0_ n1_ n2_ n3_ n4_;(try clear hb);(try clear hb2);(try clear hk);(try clear hi);(try clear ho0);obtain ⟨Ao16,co16,eo16⟩:=Kd.R_slice HO156.out;subst eo16)|((with_reducible refine gate_builtin (b:=.append) (xs:=#[.tmp 22,.tmp 29]) rfl ?_);at_builtin;refine Kd.S_append k39 w.heap.size rfl (.tmp 22) (.tmp 29) 29 39 (.agg #[(.int .i64 0),(.int .i64 0),(.slice none 0 0)]) 40 rfl Try.underlying29 info39 rfl (by decide) (by omega) u5 x5_1 (⟨0,0,t154⟩:S39) [.int .i64 0,.int .i64 0,.slice Ao16 t154.length co16] (fun _=>True) (fun k_=>some k_ = (.slice Ao16 t154.length co16:Value).ownBlock) rfl rfl ?aP (fun k_ hk_=>((Kd.R_mono (ok':=fun k_=>((fun _=>True)) k_ ∧ some k_ ≠ (u5:Value).ownBlock) (Kd.R_apart' (HO156.out) (Kd.S_typed HO_5.out) (by decide)) (fun k_ hk=>⟨trivial,hk.2⟩))).1 k_ hk_.symm) ?aF ?aO (Below.refl _ _) ?aS ?aL ?_;(case aP=>exact k39_mkM _ _ _ (⟨0,0,t154⟩:S39) (Kd.R_mono (Kd.R_tight rfl (Kd.R_mono (ok':=fun k_=>((fun _=>True)) k_ ∧ some k_ ≠ (u5:Value).ownBlock) (Kd.R_apart' (HO156.out) (Kd.S_typed HO_5.out) (by decide)) (fun k_ hk=>⟨trivial,hk.2⟩))) (fun _ h_=>h_)));(case aF=>exact (fun _ _=>trivial));(case aO=>exact (by (with_reducible repeat (first|apply Kd.S_alloc|apply Kd.S_drewN|apply Kd.S_drew));exact Kd.S_mono HO_5.out (fun k_ hk=>⟨trivial,fun e_=>hk.2 e_⟩)));(case aS=>exact (keep_size (w:=w) (g:=g) (row:=none) (by repeat (first|(with_reducible first|exact HK.out|apply KeepBut.set_|apply keep_drewN|apply keep_drew|apply keep_alloc)|exact HK.out))));(case aL=>have:=LMc13.out;omega);intro v159 w17 ho hb hg hat;rw [← Ny158.out] at ho;have n0_:=Aside0.mk (IsS25.grown (show IsS25 w0 _ g s0_0 t157 from by repeat (first|(with_reducible first|exact HI0.out|apply IsS25.alloc|apply IsS25.drewN|apply IsS25.drew|apply IsS25.set_1)|exact HI0.out)) hg (IsS25.own_neS HI0.out HO_5.out (by decide)));have n1_:=Aside0.mk (below_weaken (by repeat (first|(with_reducible first|exact HB.out|apply below_alloc|apply pw_below_drewN|apply below_drew1|refine below_set ?_ (IsS25.ge HI0.out))|exact HB.out)) HL.out hb);have n2_:=Aside0.mk (KeepBut.trans (by repeat (first|(with_reducible first|exact HK.out|apply KeepBut.set_|apply keep_drewN|apply keep_drew|apply keep_alloc)|exact HK.out)) (KeepBut.of_grown hg g) (Kd.S_base2 HO_5.out));have n3_:=Aside0.mk (ho);clear HI0;clear HB;clear HK;clear HO_5;clear HO156;have HI0:=n0_;have HB:=n1_;have HK:=n2_;have HO160:=n3_;clear n0_ n1_ n2_ n3_;clear ho hb hg hat))
        go_roundg kj5
        case measure=>have:=HK1.out;have:=HJ5.out;omega
        case rel=>exact ⟨(y158),(wrap64 (x6_1 - 1)),(t157),(by first|rfl|(simp;done)|(simp [*];done)),H',⟨by have:=HK1.out;have:=HJ5.out;omega⟩,⟨by (with_reducible repeat (first|apply Kd.S_alloc|apply Kd.S_drewN|apply Kd.S_drew));exact HO160.out⟩,⟨by repeat (first|(with_reducible first|exact HI0.out|apply IsS25.alloc|apply IsS25.drewN|apply IsS25.drew|apply IsS25.set_1)|exact HI0.out)⟩,⟨by repeat (first|(with_reducible first|exact HK.out|apply KeepBut.set_|apply keep_drewN|apply keep_drew|apply keep_alloc)|exact HK.out)⟩,⟨by repeat (first|(with_reducible first|exact HB.out|apply below_alloc|apply pw_below_drewN|apply below_drew1|refine below_set ?_ (IsS25.ge HI0.out))|exact HB.out)⟩⟩
       ·rw [if_neg c13] at H
        exact absurd H (by simp)
      ·replace c10:=Bool.eq_false_iff.mpr c10
       subst c10
       have H1:((make_Tape_Next.f s0_0 x1001_5 a1).bind fun bt161=>(if (wrap64 ((x5_1.length:Int) - 1)) ≥ 0 then (if 0 ≤ (wrap64 ((x5_1.length:Int) - 1)) then (if (wrap64 ((x5_1.length:Int) - 1)) < (x5_1.length:Int) then (if ((rd_T39 x5_1 (wrap64 ((x5_1.length:Int) - 1))).f1) > 0 then (if (wrap64 (((rd_T39 x5_1 (wrap64 ((x5_1.length:Int) - 1))).f0) + ((rd_T39 x5_1 (wrap64 ((x5_1.length:Int) - 1))).f1))) < a1 then ((make_Tape_Next.f s0_0 bt161.2 2).bind fun bt167=>(law26_made.j2 kj5 a1 x5_1 x6_1 (wrap64 ((x5_1.length:Int) - 1)) (bt167.1 == 0) s0_0 bt167.2 bt161.1 0)) else (law26_made.j2 kj5 a1 x5_1 x6_1 (wrap64 ((x5_1.length:Int) - 1)) false s0_0 bt161.2 bt161.1 0)) else (law26_made.j2 kj5 a1 x5_1 x6_1 (wrap64 ((x5_1.length:Int) - 1)) false s0_0 bt161.2 bt161.1 0)) else (none)) else (none)) else (law26_made.j2 kj5 a1 x5_1 x6_1 (wrap64 ((x5_1.length:Int) - 1)) false s0_0 bt161.2 bt161.1 0))) = some (r1,r2):=by rw [if_neg (show ¬ (false = true) by decide)] at H;exact H
       clear H
       have H:=H1
       clear H1
       replace H:=Option.bind_eq_some_iff.mp H
       obtain ⟨⟨t161,t162⟩,A180,H⟩:=H
       replace H:(if (wrap64 ((x5_1.length:Int) - 1)) ≥ 0 then (if 0 ≤ (wrap64 ((x5_1.length:Int) - 1)) then (if (wrap64 ((x5_1.length:Int) - 1)) < (x5_1.length:Int) then (if ((rd_T39 x5_1 (wrap64 ((x5_1.length:Int) - 1))).f1) > 0 then (if (wrap64 (((rd_T39 x5_1 (wrap64 ((x5_1.length:Int) - 1))).f0) + ((rd_T39 x5_1 (wrap64 ((x5_1.length:Int) - 1))).f1))) < a1 then ((make_Tape_Next.f s0_0 t162 2).bind fun bt167=>(law26_made.j2 kj5 a1 x5_1 x6_1 (wrap64 ((x5_1.length:Int) - 1)) (bt167.1 == 0) s0_0 bt167.2 t161 0)) else (law26_made.j2 kj5 a1 x5_1 x6_1 (wrap64 ((x5_1.length:Int) - 1)) false s0_0 t162 t161 0)) else (law26_made.j2 kj5 a1 x5_1 x6_1 (wrap64 ((x5_1.length:Int) - 1)) false s0_0 t162 t161 0)) else (none)) else (none)) else (law26_made.j2 kj5 a1 x5_1 x6_1 (wrap64 ((x5_1.length:Int) - 1)) false s0_0 t162 t161 0)) = some (r1,r2):=H
       have A18:=Aside0.mk A180
       clear A180
       have HC19:=Aside0.mk H
       clear H
       go_upto_region 9 with (first|((with_reducible refine gate_callee (f:=16) rfl ?_);refine goesL_ (some 33) rfl rfl Try.func16 (by kernel_rfl) rfl #[.pointer (some ⟨g,0,none⟩),.int .i64 a1] rfl (by (try simp only [List.map_toArray,List.map_cons,List.map_nil]);first|done|rfl|(simp only [List.length_drop,List.length_take];rfl)) ?_;(with_reducible refine (make_Tape_Next.calls g s0_0 x1001_5 a1 t161 t162 w0 _ ?side1 ?side2 A18.out).mono ?_);(case side1=>repeat (first|(with_reducible first|exact HI0.out|apply IsS25.alloc|apply IsS25.drewN|apply IsS25.drew|apply IsS25.set_1)|exact HI0.out));(case side2=>repeat (first|(with_reducible first|exact HB.out|apply below_alloc|apply pw_below_drewN|apply below_drew1|refine below_set ?_ (IsS25.ge HI0.out))|exact HB.out));rintro e w20 ⟨rfl,hi,hb,hk⟩;refine ⟨_,rfl,?_⟩;have n0_:=Aside0.mk (Kd.S_mono (Kd.S_keep (IsS25.apartS (show IsS25 w0 _ g s0_0 x1001_5 from by repeat (first|(with_reducible first|exact HI0.out|apply IsS25.alloc|apply IsS25.drewN|apply IsS25.drew|apply IsS25.set_1)|exact HI0.out)) (by (with_reducible repeat (first|apply Kd.S_alloc|apply Kd.S_drewN|apply Kd.S_drew));exact HO_5.out) (by decide)) hk (fun _ h=>h.2)) (fun _ h=>h.1));have n1_:=Aside0.mk (KeepBut.trans (by repeat (first|(with_reducible first|exact HK.out|apply KeepBut.set_|apply keep_drewN|apply keep_drew|apply keep_alloc)|exact HK.out)) hk (.inl rfl));have n2_:=Aside0.mk (hb);have n3_:=Aside0.mk (hi);clear HO_5;clear HK;clear HB;clear HI0;have HO_5:=n0_;have HK:=n1_;have HB:=n2_;have HI0:=n3_;clear n0_ n1_ n2_ n3_;(try clear hb);(try clear hb2);(try clear hk);(try clear hi))|((with_reducible refine gate_dst (N:=7) rfl ?_);refine box_event ?hg (N:=7) ?hd (cs:=#[.int .i64 0,.int .i64 0,.slice none 0 0]) (t:=39) ?hr ?_;(case hd=>rfl);(case hg=>rfl);(case hr=>first|(go_simp;done)|(go_simp;rfl));intro gb163 hg w21 hbox hb;have n0_:=Aside0.mk (Kd.S_below (Kd.S_elderB (by (with_reducible repeat (first|apply Kd.S_alloc|apply Kd.S_drewN|apply Kd.S_drew));exact HO_5.out) gb163 (Nat.le_of_eq hg.symm)) hb);have n1_:=Aside0.mk (IsS25.below (by repeat (first|(with_reducible first|exact HI0.out|apply IsS25.alloc|apply IsS25.drewN|apply IsS25.drew|apply IsS25.set_1)|exact HI0.out)) hb);have n2_:=Aside0.mk (KeepBut.trans (by repeat (first|(with_reducible first|exact HK.out|apply KeepBut.set_|apply keep_drewN|apply keep_drew|apply keep_alloc)|exact HK.out)) (KeepBut.of_below hb g none) (.inl rfl));have n3_:=Aside0.mk (below_step (by repeat (first|(with_reducible first|exact HB.out|apply below_alloc|apply pw_below_drewN|apply below_drew1|refine below_set ?_ (IsS25.ge HI0.out))|exact HB.out)) hb);have n4_:=Aside0.mk (hbox);have n5_:=Aside0.mk ((by rw [hg];exact (keep_size (w:=w) (g:=g) (row:=none) (by repeat (first|(with_reducible first|exact HK.out|apply KeepBut.set_|apply keep_drewN|apply keep_drew|apply keep_alloc)|exact HK.out))):w.heap.size ≤ gb163));have n6_:=Aside0.mk ((Nat.le_trans HW0.out (by rw [hg];exact (keep_size (w:=w) (g:=g) (row:=none) (by repeat (first|(with_reducible first|exact HK.out|apply KeepBut.set_|apply keep_drewN|apply keep_drew|apply keep_alloc)|exact HK.out))):w.heap.size ≤ gb163):w0.heap.size ≤ gb163));have n7_:=Aside0.mk ((by rw [hg];exact Nat.ne_of_lt (IsS25.lt (show IsS25 w0 _ g s0_0 t162 from by repeat (first|(with_reducible first|exact HI0.out|apply IsS25.alloc|apply IsS25.drewN|apply IsS25.drew|apply IsS25.set_1)|exact HI0.out))):g ≠ gb163));have n8_:=Aside0.mk ((by rw [hg];exact Nat.ne_of_gt (IsS25.lt (show IsS25 w0 _ g s0_0 t162 from by repeat (first|(with_reducible first|exact HI0.out|apply IsS25.alloc|apply IsS25.drewN|apply IsS25.drew|apply IsS25.set_1)|exact HI0.out))):gb163 ≠ g));clear HO_5;clear HI0;clear HK;clear HB;have HO_5:=n0_;have HI0:=n1_;have HK:=n2_;have HB:=n3_;have BK163:=n4_;have GW163:=n5_;have GE163:=n6_;have NB0_163:=n7_;have NB163_0:=n8_;clear n0_ n1_ n2_ n3_ n4_ n5_ n6_ n7_ n8_;clear hb hbox hg;have hnb22:=NB163_0.out;have hnc22:=NB0_163.out;have hcz23_0:w21.cell? ⟨gb163,0,none⟩ = some (.int .i64 0):=(blk_cell BK163.out 0).trans rfl;have hcz23_1:w21.cell? ⟨gb163,1,none⟩ = some (.int .i64 0):=(blk_cell BK163.out 1).trans rfl;have hcz23_2:w21.cell? ⟨gb163,2,none⟩ = some (.slice none 0 0):=(blk_cell BK163.out 2).trans rfl;have hfz23_0:=blk_frozen BK163.out 0;have hfz23_1:=blk_frozen BK163.out 1;have hfz23_2:=blk_frozen BK163.out 2;obtain ⟨Ao24,co24,eo24⟩:=Kd.S_slice HO_5.out;subst eo24))
       (try simp only [Act.put,List.setIfInBounds_toArray,List.set_cons_zero,List.set_cons_succ])
       go_cut [67] (fun v67 wc=>∃ (kq:Nat) (x67_18:Bool) (x1001_18:Int),v67 = .bool x67_18 ∧ Aside0 (law26_made.j2 kq a1 x5_1 x6_1 (wrap64 ((x5_1.length:Int) - 1)) x67_18 s0_0 x1001_18 t161 0 = some (r1,r2)) ∧ Aside0 (kq ≤ kj5) ∧ Aside0 (Kd.S k39 39 wc w.heap.size (fun k_=>k_ ≠ gb163) (.slice Ao24 x5_1.length co24) x5_1) ∧ Aside0 (wc.heap[gb163]? = some (.cells #[.int .i64 t161,.int .i64 0,(.slice none 0 0)] 39 (0,0))) ∧ Aside0 (IsS25 w0 wc g s0_0 x1001_18) ∧ Aside0 (KeepBut w wc g none) ∧ Aside0 (Below w0.heap.size w0 wc))
       case first =>
        have H:=HC19.out
        clear HC19
        by_cases c25:(wrap64 ((x5_1.length:Int) - 1)) ≥ 0
        ·rw [if_pos c25] at H
         have c25b0:decide (0 ≤ (wrap64 ((x5_1.length:Int) - 1))) = true:=decide_eq_true c25
         clear c25
         (first|rw [c25b0]|(simp only [i64_w,i32_w];rw [c25b0])|skip)
         obtain ⟨ji26,hji26⟩:∃ j_:Int,(wrap64 ((x5_1.length:Int) - 1)) = j_:=⟨_,rfl⟩
         replace H:(if 0 ≤ (ji26) then (if (ji26) < (x5_1.length:Int) then (if ((rd_T39 x5_1 (ji26)).f1) > 0 then (if (wrap64 (((rd_T39 x5_1 (ji26)).f0) + ((rd_T39 x5_1 (ji26)).f1))) < a1 then ((make_Tape_Next.f s0_0 t162 2).bind fun bt167=>(law26_made.j2 kj5 a1 x5_1 x6_1 ji26 (bt167.1 == 0) s0_0 bt167.2 t161 0)) else (law26_made.j2 kj5 a1 x5_1 x6_1 ji26 false s0_0 t162 t161 0)) else (law26_made.j2 kj5 a1 x5_1 x6_1 ji26 false s0_0 t162 t161 0)) else (none)) else (none)) = some (r1,r2):=by first|(rw [hji26] at H;exact H)|(simp only [hji26] at H ⊢;exact H)
         (try rw [hji26] at c25b0)
         have hji26w:(IntKind.i64.wrap ((x5_1.length:Int) - 1)) = ji26:=(i64_w _).trans hji26
         by_cases c27:0 ≤ (ji26)
         ·rw [if_pos c27] at H
          have c27b0:decide (0 ≤ (ji26)) = true:=decide_eq_true c27
          clear c27
          by_cases c28:(ji26) < (x5_1.length:Int)
          ·rw [if_pos c28] at H
           have c28b0:decide ((ji26) < (x5_1.length:Int)) = true:=decide_eq_true c28
           clear c28
           by_cases c29:((rd_T39 x5_1 (ji26)).f1) > 0
           ·rw [if_pos c29] at H
            have c29b0:decide (0 < ((rd_T39 x5_1 (ji26)).f1)) = true:=decide_eq_true c29
            clear c29
            by_cases c30:(wrap64 (((rd_T39 x5_1 (ji26)).f0) + ((rd_T39 x5_1 (ji26)).f1))) < a1
            ·rw [if_pos c30] at H
             have c30b0:decide ((wrap64 (((rd_T39 x5_1 (ji26)).f0) + ((rd_T39 x5_1 (ji26)).f1))) < a1) = true:=decide_eq_true c30
             clear c30
             replace H:=Option.bind_eq_some_iff.mp H
             obtain ⟨⟨t167,t168⟩,A310,H⟩:=H
             replace H:(law26_made.j2 kj5 a1 x5_1 x6_1 ji26 (t167 == 0) s0_0 t168 t161 0) = some (r1,r2):=H
             have A31:=Aside0.mk A310
             clear A310
             have H':=Aside0.mk H
             clear H
             try go_wp2
             have n0_:Aside0 (Kd.S k39 39 (((w21.setCell ⟨gb163,0,none⟩ (.int .i64 t161)).setCell ⟨gb163,1,none⟩ (.int .i64 0)).setCell ⟨gb163,2,none⟩ (.slice none 0 0)) w.heap.size (fun k_=>k_ ≠ gb163) (.slice Ao24 x5_1.length co24) x5_1):=⟨by (with_reducible repeat (first|apply Kd.S_alloc|apply Kd.S_drewN|apply Kd.S_drew));exact Kd.S_mono (Kd.S_far (p:=⟨gb163,2,none⟩) (Kd.S_far (p:=⟨gb163,1,none⟩) (Kd.S_far (p:=⟨gb163,0,none⟩) (Kd.S_mono HO_5.out (fun k_ hk=>(⟨hk,hk.2⟩:_ ∧ k_ ≠ gb163))) (fun _ hk=>hk.2) (.int .i64 t161)) (fun _ hk=>hk.2) (.int .i64 0)) (fun _ hk=>hk.2) (.slice none 0 0)) (fun _ hk=>hk.1.2)⟩
             have n1_:Aside0 ((((w21.setCell ⟨gb163,0,none⟩ (.int .i64 t161)).setCell ⟨gb163,1,none⟩ (.int .i64 0)).setCell ⟨gb163,2,none⟩ (.slice none 0 0)).heap[gb163]? = some (.cells #[.int .i64 t161,.int .i64 0,.slice none 0 0] 39 (0,0))):=⟨by (with_reducible repeat (first|refine blk_drewN ?_ _|refine blk_drew ?_|refine blk_alloc ?_ _));refine blk_put (cs:=#[.int .i64 t161,.int .i64 0,.slice none 0 0]) ?_ 2 _ rfl;(with_reducible repeat (first|refine blk_drewN ?_ _|refine blk_drew ?_|refine blk_alloc ?_ _));refine blk_put (cs:=#[.int .i64 t161,.int .i64 0,.slice none 0 0]) ?_ 1 _ rfl;(with_reducible repeat (first|refine blk_drewN ?_ _|refine blk_drew ?_|refine blk_alloc ?_ _));refine blk_put (cs:=#[.int .i64 0,.int .i64 0,.slice none 0 0]) ?_ 0 _ rfl;(with_reducible repeat (first|refine blk_drewN ?_ _|refine blk_drew ?_|refine blk_alloc ?_ _));exact BK163.out⟩
             have n2_:Aside0 (IsS25 w0 (((w21.setCell ⟨gb163,0,none⟩ (.int .i64 t161)).setCell ⟨gb163,1,none⟩ (.int .i64 0)).setCell ⟨gb163,2,none⟩ (.slice none 0 0)) g s0_0 t162):=⟨by repeat (first|(with_reducible first|exact HI0.out|apply IsS25.alloc|apply IsS25.drewN|apply IsS25.drew|apply IsS25.set_1|refine IsS25.far ?_ NB0_163.out _)|refine IsS25.far ?_ NB0_163.out _|exact HI0.out)⟩
             have n3_:Aside0 (KeepBut w (((w21.setCell ⟨gb163,0,none⟩ (.int .i64 t161)).setCell ⟨gb163,1,none⟩ (.int .i64 0)).setCell ⟨gb163,2,none⟩ (.slice none 0 0)) g none):=⟨by repeat (first|(with_reducible first|exact HK.out|apply KeepBut.set_|apply keep_drewN|apply keep_drew|apply keep_alloc|refine keep_far ?_ GW163.out _)|exact HK.out)⟩
             have n4_:Aside0 (Below w0.heap.size w0 (((w21.setCell ⟨gb163,0,none⟩ (.int .i64 t161)).setCell ⟨gb163,1,none⟩ (.int .i64 0)).setCell ⟨gb163,2,none⟩ (.slice none 0 0))):=⟨by repeat (first|(with_reducible first|exact HB.out|apply below_alloc|apply pw_below_drewN|apply below_drew1|refine below_set ?_ (IsS25.ge HI0.out)|refine below_set ?_ GE163.out)|exact HB.out)⟩
             (try clear HO_5)
             (try clear BK163)
             (try clear HI0)
             (try clear HK)
             (try clear HB)
             generalize (((w21.setCell ⟨gb163,0,none⟩ (.int .i64 t161)).setCell ⟨gb163,1,none⟩ (.int .i64 0)).setCell ⟨gb163,2,none⟩ (.slice none 0 0)) = w32 at n0_ n1_ n2_ n3_ n4_ ⊢
             have HO_5:=n0_
             have BK163:=n1_
             have HI0:=n2_
             have HK:=n3_
             have HB:=n4_
             clear n0_ n1_ n2_ n3_ n4_
             have n0_:=Aside0.mk (Kd.S_drew HO_5.out)
             have n1_:=Aside0.mk (blk_drew BK163.out)
             have n2_:=Aside0.mk (IsS25.drew HI0.out)
             have n3_:=Aside0.mk (keep_drew HK.out)
             have n4_:=Aside0.mk (below_drew1 HB.out)
             clear HO_5
             clear BK163
             clear HI0
             clear HK
             clear HB
             have HO_5:=n0_
             have BK163:=n1_
             have HI0:=n2_
             have HK:=n3_
             have HB:=n4_
             clear n0_ n1_ n2_ n3_ n4_
             have p164:0 ≤ ((ji26):Int):=of_decide_eq_true (by first|(with_reducible assumption)|assumption)
             have q164:(ji26) < (x5_1.length:Int):=of_decide_eq_true (by first|(with_reducible assumption)|assumption)
             obtain ⟨ad164,A164_2,c164_2,e164,hx164_0,hx164_1,hx164_2,hl164_2,hi164_2⟩:=at_T39 (Kd.S_reads' HO_5.out).2.2 (ji26) p164 q164
             cases e164
             obtain ⟨ce164,hce164,hMe164,hcc164⟩:=Kd.S_get HO_5.out z39 (ji26) p164 (by first|exact q164|exact of_decide_eq_true (by first|(with_reducible assumption)|assumption)|(have e_:=(Kd.S_reads' HO_5.out).1;omega))
             obtain ⟨ve164_2,rfl,ge164_2⟩:=k39_openM hMe164
             have hv164_2:=hcc164 2 _ rfl
             rw [add_field _ _ 2 (by omega)] at hv164_2
             replace hv164_2:=Option.some.inj (hv164_2.symm.trans hx164_2)
             rw [hv164_2] at ge164_2
             have HL164_2:=Aside0.mk (show Kd.R (Kd.int .u8) 5 _ _ _ _ ((rd_T39 x5_1 (ji26)).f2) from ge164_2)
             clear hv164_2 ge164_2
             clear hcc164 hce164
             have HR164_2:=Aside0.mk hi164_2
             have HC164_2:=Aside0.mk hl164_2
             clear hi164_2 hl164_2
             replace p164:=eq_true p164
             replace q164:=eq_true q164
             have p165:0 ≤ ((ji26):Int):=of_decide_eq_true (by first|(with_reducible assumption)|assumption)
             have q165:(ji26) < (x5_1.length:Int):=of_decide_eq_true (by first|(with_reducible assumption)|assumption)
             obtain ⟨ad165,A165_2,c165_2,e165,hx165_0,hx165_1,hx165_2,hl165_2,hi165_2⟩:=at_T39 (Kd.S_reads' HO_5.out).2.2 (ji26) p165 q165
             obtain rfl:ad164 = ad165:=(by injection e165)
             obtain ⟨ce165,hce165,hMe165,hcc165⟩:=Kd.S_get HO_5.out z39 (ji26) p165 (by first|exact q165|exact of_decide_eq_true (by first|(with_reducible assumption)|assumption)|(have e_:=(Kd.S_reads' HO_5.out).1;omega))
             obtain ⟨ve165_2,rfl,ge165_2⟩:=k39_openM hMe165
             have hv165_2:=hcc165 2 _ rfl
             rw [add_field _ _ 2 (by omega)] at hv165_2
             replace hv165_2:=Option.some.inj (hv165_2.symm.trans hx165_2)
             rw [hv165_2] at ge165_2
             have HL165_2:=Aside0.mk (show Kd.R (Kd.int .u8) 5 _ _ _ _ ((rd_T39 x5_1 (ji26)).f2) from ge165_2)
             clear hv165_2 ge165_2
             clear hcc165 hce165
             have HR165_2:=Aside0.mk hi165_2
             have HC165_2:=Aside0.mk hl165_2
             clear hi165_2 hl165_2
             replace p165:=eq_true p165
             replace q165:=eq_true q165
             have ea_:=Option.some.inj (hx164_2.symm.trans hx165_2)
             injection ea_ with ea_ en_ ec_
             subst ea_
             subst ec_
             clear en_
             have p166:0 ≤ ((ji26):Int):=of_decide_eq_true (by first|(with_reducible assumption)|assumption)
             have q166:(ji26) < (x5_1.length:Int):=of_decide_eq_true (by first|(with_reducible assumption)|assumption)
             obtain ⟨ad166,A166_2,c166_2,e166,hx166_0,hx166_1,hx166_2,hl166_2,hi166_2⟩:=at_T39 (Kd.S_reads' HO_5.out).2.2 (ji26) p166 q166
             obtain rfl:ad164 = ad166:=(by injection e166)
             obtain ⟨ce166,hce166,hMe166,hcc166⟩:=Kd.S_get HO_5.out z39 (ji26) p166 (by first|exact q166|exact of_decide_eq_true (by first|(with_reducible assumption)|assumption)|(have e_:=(Kd.S_reads' HO_5.out).1;omega))
             obtain ⟨ve166_2,rfl,ge166_2⟩:=k39_openM hMe166
             have hv166_2:=hcc166 2 _ rfl
             rw [add_field _ _ 2 (by omega)] at hv166_2
             replace hv166_2:=Option.some.inj (hv166_2.symm.trans hx166_2)
             rw [hv166_2] at ge166_2
             have HL166_2:=Aside0.mk (show Kd.R (Kd.int .u8) 5 _ _ _ _ ((rd_T39 x5_1 (ji26)).f2) from ge166_2)
             clear hv166_2 ge166_2
             clear hcc166 hce166
             have HR166_2:=Aside0.mk hi166_2
             have HC166_2:=Aside0.mk hl166_2
             clear hi166_2 hl166_2
             replace p166:=eq_true p166
             replace q166:=eq_true q166
             have ea_:=Option.some.inj (hx164_2.symm.trans hx166_2)
             injection ea_ with ea_ en_ ec_
             subst ea_
             subst ec_
             clear en_
             refine start_ (n:=30) (S:=fun w'=>w'.cell? (ad164.add (((ji26)).toNat * 3)) = some (.int .i64 ((rd_T39 x5_1 (ji26)).f0)) ∧ w'.cell? ⟨(ad164.add (((ji26)).toNat * 3)).block,(ad164.add (((ji26)).toNat * 3)).off + 1,none⟩ = some (.int .i64 ((rd_T39 x5_1 (ji26)).f1)) ∧ w'.cell? ⟨(ad164.add (((ji26)).toNat * 3)).block,(ad164.add (((ji26)).toNat * 3)).off + 2,none⟩ = some (.slice A164_2 ((rd_T39 x5_1 (ji26)).f2).length c164_2) ∧ w'.cell? (ad164.add (((ji26)).toNat * 3)) = some (.int .i64 ((rd_T39 x5_1 (ji26)).f0)) ∧ w'.cell? ⟨(ad164.add (((ji26)).toNat * 3)).block,(ad164.add (((ji26)).toNat * 3)).off + 1,none⟩ = some (.int .i64 ((rd_T39 x5_1 (ji26)).f1)) ∧ w'.cell? ⟨(ad164.add (((ji26)).toNat * 3)).block,(ad164.add (((ji26)).toNat * 3)).off + 2,none⟩ = some (.slice A164_2 ((rd_T39 x5_1 (ji26)).f2).length c164_2) ∧ w'.cell? (ad164.add (((ji26)).toNat * 3)) = some (.int .i64 ((rd_T39 x5_1 (ji26)).f0)) ∧ w'.cell? ⟨(ad164.add (((ji26)).toNat * 3)).block,(ad164.add (((ji26)).toNat * 3)).off + 1,none⟩ = some (.int .i64 ((rd_T39 x5_1 (ji26)).f1)) ∧ w'.cell? ⟨(ad164.add (((ji26)).toNat * 3)).block,(ad164.add (((ji26)).toNat * 3)).off + 2,none⟩ = some (.slice A164_2 ((rd_T39 x5_1 (ji26)).f2).length c164_2)) (ds:=[]) #[false,false,false,false,false,false,false,false,false,false,false,false,false,false,false,false,false,false,false,false,false,false,false,false,false,false,false,false,false,false] (by kernel_rfl) rfl rfl ⟨hx164_0,hx164_1,hx164_2,hx165_0,hx165_1,hx165_2,hx166_0,hx166_1,hx166_2⟩ (fun hHeld=>?_);refine with_tabW law26_made.tab9 law26_made.bits9 (fun HT_ HW_=>?_)
             generalize w32.drew = w33 at HO_5 BK163 HI0 HK HB HL164_2 HL165_2 HL166_2 HR164_2 HR165_2 HR166_2 hx164_0 hx164_1 hx164_2 hx165_0 hx165_1 hx165_2 hx166_0 hx166_1 hx166_2 hHeld ⊢
             refine pure_ (i:=0) (N:=some 38) (v:=?_) (a':=?_) #[true,false,false,false,false,false,false,false,false,false,false,false,false,false,false,false,false,false,false,false,false,false,false,false,false,false,false,false,false,false] rfl rfl (any_of HT_.out (by kernel_rfl)) (fun _ _ _ h=>h) (Or.inl ⟨by rfl,?_⟩) ?_ ?_
             rotate_left
             ·intro w'
              go_simp
              with_reducible rfl
             rotate_left
             ·simp only [Act.put,List.setIfInBounds_toArray,List.set_cons_zero,List.set_cons_succ,i64_w,i32_w]
              rfl
             refine pure_ (i:=1) (N:=some 39) (v:=?_) (a':=?_) #[true,true,false,false,false,false,false,false,false,false,false,false,false,false,false,false,false,false,false,false,false,false,false,false,false,false,false,false,false,false] rfl rfl (any_of HT_.out (by kernel_rfl)) (fun _ _ _ h=>h) (Or.inl ⟨by rfl,?_⟩) ?_ ?_
             rotate_left
             ·intro w'
              go_simp
              with_reducible rfl
             rotate_left
             ·simp only [Act.put,List.setIfInBounds_toArray,List.set_cons_zero,List.set_cons_succ,i64_w,i32_w]
              rfl
             refine pure_ (i:=2) (N:=some 40) (v:=?_) (a':=?_) #[true,true,true,false,false,false,false,false,false,false,false,false,false,false,false,false,false,false,false,false,false,false,false,false,false,false,false,false,false,false] rfl rfl (any_of HT_.out (by kernel_rfl)) (fun _ _ _ h=>h) (Or.inl ⟨by rfl,?_⟩) ?_ ?_
             rotate_left
             ·intro w'
              go_simp
              with_reducible rfl
             rotate_left
             ·simp only [Act.put,List.setIfInBounds_toArray,List.set_cons_zero,List.set_cons_succ,i64_w,i32_w]
              rfl
             refine pure_ (i:=3) (N:=some 41) (v:=?_) (a':=?_) #[true,true,true,true,false,false,false,false,false,false,false,false,false,false,false,false,false,false,false,false,false,false,false,false,false,false,false,false,false,false] rfl rfl (any_of HT_.out (by kernel_rfl)) (fun _ _ _ h=>h) (Or.inl ⟨by rfl,?_⟩) ?_ ?_
             rotate_left
             ·intro w'
              go_simp
              with_reducible rfl
             rotate_left
             ·simp only [Act.put,List.setIfInBounds_toArray,List.set_cons_zero,List.set_cons_succ,i64_w,i32_w]
              rfl
             refine pure_ (i:=4) (N:=some 42) (v:=?_) (a':=?_) #[true,true,true,true,true,false,false,false,false,false,false,false,false,false,false,false,false,false,false,false,false,false,false,false,false,false,false,false,false,false] rfl rfl (any_of HT_.out (by kernel_rfl)) (fun _ _ _ h=>h) (Or.inl ⟨by rfl,?_⟩) ?_ ?_
             rotate_left
             ·intro w'
              go_simp
              with_reducible rfl
             rotate_left
             ·simp only [Act.put,List.setIfInBounds_toArray,List.set_cons_zero,List.set_cons_succ,i64_w,i32_w]
              rfl
             refine pure_ (i:=5) (N:=some 43) (v:=?_) (a':=?_) #[true,true,true,true,true,true,false,false,false,false,false,false,false,false,false,false,false,false,false,false,false,false,false,false,false,false,false,false,false,false] rfl rfl (any_of HT_.out (by kernel_rfl)) (fun _ _ _ h=>h) (Or.inl ⟨by rfl,?_⟩) ?_ ?_
             rotate_left
             ·intro w'
              go_simp
              with_reducible rfl
             rotate_left
             ·simp only [Act.put,List.setIfInBounds_toArray,List.set_cons_zero,List.set_cons_succ,i64_w,i32_w]
              rfl
             refine pure_ (i:=6) (N:=some 44) (v:=?_) (a':=?_) #[true,true,true,true,true,true,true,false,false,false,false,false,false,false,false,false,false,false,false,false,false,false,false,false,false,false,false,false,false,false] rfl rfl (any_of HT_.out (by kernel_rfl)) (fun _ _ _ h=>h) (Or.inl ⟨by rfl,?_⟩) ?_ ?_
             rotate_left
             ·intro w'
              go_simp
              with_reducible rfl
             rotate_left
             ·simp only [Act.put,List.setIfInBounds_toArray,List.set_cons_zero,List.set_cons_succ,i64_w,i32_w]
              rfl
             refine take_ (i:=7) (N:=some 45) (v:=?_) (a':=?_) #[true,true,true,true,true,true,true,true,false,false,false,false,false,false,false,false,false,false,false,false,false,false,false,false,false,false,false,false,false,false] rfl rfl (take_ofW HT_.out HW_.out (by kernel_rfl)) (fun _ _ _ h=>h) (Or.inl ⟨by rfl,?_⟩) hHeld ?_ ?_
             rotate_left
             ·rintro w' ⟨s0,s1,s2,s3,s4,s5,s6,s7,s8⟩
              go_simp
              with_reducible rfl
             rotate_left
             ·simp only [Act.put,List.setIfInBounds_toArray,List.set_cons_zero,List.set_cons_succ,i64_w,i32_w]
              rfl
             refine pure_ (i:=8) (N:=some 46) (v:=?_) (a':=?_) #[true,true,true,true,true,true,true,true,true,false,false,false,false,false,false,false,false,false,false,false,false,false,false,false,false,false,false,false,false,false] rfl rfl (any_of HT_.out (by kernel_rfl)) (fun _ _ _ h=>h) (Or.inl ⟨by rfl,?_⟩) ?_ ?_
             rotate_left
             ·intro w'
              go_simp
              with_reducible rfl
             rotate_left
             ·simp only [Act.put,List.setIfInBounds_toArray,List.set_cons_zero,List.set_cons_succ,i64_w,i32_w]
              rfl
             refine pure_ (i:=9) (N:=some 47) (v:=?_) (a':=?_) #[true,true,true,true,true,true,true,true,true,true,false,false,false,false,false,false,false,false,false,false,false,false,false,false,false,false,false,false,false,false] rfl rfl (any_of HT_.out (by kernel_rfl)) (fun _ _ _ h=>h) (Or.inl ⟨by rfl,?_⟩) ?_ ?_
             rotate_left
             ·intro w'
              go_simp
              with_reducible rfl
             rotate_left
             ·simp only [Act.put,List.setIfInBounds_toArray,List.set_cons_zero,List.set_cons_succ,i64_w,i32_w]
              rfl
             refine pure_ (i:=10) (N:=some 48) (v:=?_) (a':=?_) #[true,true,true,true,true,true,true,true,true,true,true,false,false,false,false,false,false,false,false,false,false,false,false,false,false,false,false,false,false,false] rfl rfl (any_of HT_.out (by kernel_rfl)) (fun _ _ _ h=>h) (Or.inl ⟨by rfl,?_⟩) ?_ ?_
             rotate_left
             ·intro w'
              go_simp
              with_reducible rfl
             rotate_left
             ·simp only [Act.put,List.setIfInBounds_toArray,List.set_cons_zero,List.set_cons_succ,i64_w,i32_w]
              rfl
             refine pure_ (i:=11) (N:=some 49) (v:=?_) (a':=?_) #[true,true,true,true,true,true,true,true,true,true,true,true,false,false,false,false,false,false,false,false,false,false,false,false,false,false,false,false,false,false] rfl rfl (any_of HT_.out (by kernel_rfl)) (fun _ _ _ h=>h) (Or.inl ⟨by rfl,?_⟩) ?_ ?_
             rotate_left
             ·intro w'
              go_simp
              with_reducible rfl
             rotate_left
             ·simp only [Act.put,List.setIfInBounds_toArray,List.set_cons_zero,List.set_cons_succ,i64_w,i32_w]
              rfl
             refine pure_ (i:=12) (N:=some 50) (v:=?_) (a':=?_) #[true,true,true,true,true,true,true,true,true,true,true,true,true,false,false,false,false,false,false,false,false,false,false,false,false,false,false,false,false,false] rfl rfl (any_of HT_.out (by kernel_rfl)) (fun _ _ _ h=>h) (Or.inl ⟨by rfl,?_⟩) ?_ ?_
             rotate_left
             ·intro w'
              go_simp
              with_reducible rfl
             rotate_left
             ·simp only [Act.put,List.setIfInBounds_toArray,List.set_cons_zero,List.set_cons_succ,i64_w,i32_w]
              rfl
             refine pure_ (i:=13) (N:=some 51) (v:=?_) (a':=?_) #[true,true,true,true,true,true,true,true,true,true,true,true,true,true,false,false,false,false,false,false,false,false,false,false,false,false,false,false,false,false] rfl rfl (any_of HT_.out (by kernel_rfl)) (fun _ _ _ h=>h) (Or.inl ⟨by rfl,?_⟩) ?_ ?_
             rotate_left
             ·intro w'
              go_simp
              with_reducible rfl
             rotate_left
             ·simp only [Act.put,List.setIfInBounds_toArray,List.set_cons_zero,List.set_cons_succ,i64_w,i32_w]
              rfl
             refine pure_ (i:=14) (N:=some 52) (v:=?_) (a':=?_) #[true,true,true,true,true,true,true,true,true,true,true,true,true,true,true,false,false,false,false,false,false,false,false,false,false,false,false,false,false,false] rfl rfl (any_of HT_.out (by kernel_rfl)) (fun _ _ _ h=>h) (Or.inl ⟨by rfl,?_⟩) ?_ ?_
             rotate_left
             ·intro w'
              go_simp
              with_reducible rfl
             rotate_left
             ·simp only [Act.put,List.setIfInBounds_toArray,List.set_cons_zero,List.set_cons_succ,i64_w,i32_w]
              rfl
             refine pure_ (i:=16) (N:=some 54) (v:=?_) (a':=?_) #[true,true,true,true,true,true,true,true,true,true,true,true,true,true,true,false,true,false,false,false,false,false,false,false,false,false,false,false,false,false] rfl rfl (any_of HT_.out (by kernel_rfl)) (fun _ _ _ h=>h) (Or.inl ⟨by rfl,?_⟩) ?_ ?_
             rotate_left
             ·intro w'
              go_simp
              with_reducible rfl
             rotate_left
             ·simp only [Act.put,List.setIfInBounds_toArray,List.set_cons_zero,List.set_cons_succ,i64_w,i32_w]
              rfl
             refine pure_ (i:=17) (N:=some 55) (v:=?_) (a':=?_) #[true,true,true,true,true,true,true,true,true,true,true,true,true,true,true,false,true,true,false,false,false,false,false,false,false,false,false,false,false,false] rfl rfl (any_of HT_.out (by kernel_rfl)) (fun _ _ _ h=>h) (Or.inl ⟨by rfl,?_⟩) ?_ ?_
             rotate_left
             ·intro w'
              go_simp
              with_reducible rfl
             rotate_left
             ·simp only [Act.put,List.setIfInBounds_toArray,List.set_cons_zero,List.set_cons_succ,i64_w,i32_w]
              rfl
             refine pure_ (i:=18) (N:=some 56) (v:=?_) (a':=?_) #[true,true,true,true,true,true,true,true,true,true,true,true,true,true,true,false,true,true,true,false,false,false,false,false,false,false,false,false,false,false] rfl rfl (any_of HT_.out (by kernel_rfl)) (fun _ _ _ h=>h) (Or.inl ⟨by rfl,?_⟩) ?_ ?_
             rotate_left
             ·intro w'
              go_simp
              with_reducible rfl
             rotate_left
             ·simp only [Act.put,List.setIfInBounds_toArray,List.set_cons_zero,List.set_cons_succ,i64_w,i32_w]
              rfl
             refine pure_ (i:=19) (N:=some 57) (v:=?_) (a':=?_) #[true,true,true,true,true,true,true,true,true,true,true,true,true,true,true,false,true,true,true,true,false,false,false,false,false,false,false,false,false,false] rfl rfl (any_of HT_.out (by kernel_rfl)) (fun _ _ _ h=>h) (Or.inl ⟨by rfl,?_⟩) ?_ ?_
             rotate_left
             ·intro w'
              go_simp
              with_reducible rfl
             rotate_left
             ·simp only [Act.put,List.setIfInBounds_toArray,List.set_cons_zero,List.set_cons_succ,i64_w,i32_w]
              rfl
             refine pure_ (i:=22) (N:=some 60) (v:=?_) (a':=?_) #[true,true,true,true,true,true,true,true,true,true,true,true,true,true,true,false,true,true,true,true,false,false,true,false,false,false,false,false,false,false] rfl rfl (any_of HT_.out (by kernel_rfl)) (fun _ _ _ h=>h) (Or.inl ⟨by rfl,?_⟩) ?_ ?_
             rotate_left
             ·intro w'
              go_simp
              with_reducible rfl
             rotate_left
             ·simp only [Act.put,List.setIfInBounds_toArray,List.set_cons_zero,List.set_cons_succ,i64_w,i32_w]
              rfl
             refine take_ (i:=15) (N:=some 53) (v:=?_) (a':=?_) #[true,true,true,true,true,true,true,true,true,true,true,true,true,true,true,true,true,true,true,true,false,false,true,false,false,false,false,false,false,false] rfl rfl (take_ofW HT_.out HW_.out (by kernel_rfl)) (fun _ _ _ h=>h) (Or.inl ⟨by rfl,?_⟩) hHeld ?_ ?_
             rotate_left
             ·rintro w' ⟨s0,s1,s2,s3,s4,s5,s6,s7,s8⟩
              go_simp
              with_reducible rfl
             rotate_left
             ·simp only [Act.put,List.setIfInBounds_toArray,List.set_cons_zero,List.set_cons_succ,i64_w,i32_w]
              rfl
             refine take_ (i:=20) (N:=some 58) (v:=?_) (a':=?_) #[true,true,true,true,true,true,true,true,true,true,true,true,true,true,true,true,true,true,true,true,true,false,true,false,false,false,false,false,false,false] rfl rfl (take_ofW HT_.out HW_.out (by kernel_rfl)) (fun _ _ _ h=>h) (Or.inl ⟨by rfl,?_⟩) hHeld ?_ ?_
             rotate_left
             ·rintro w' ⟨s0,s1,s2,s3,s4,s5,s6,s7,s8⟩
              go_simp
              with_reducible rfl
             rotate_left
             ·simp only [Act.put,List.setIfInBounds_toArray,List.set_cons_zero,List.set_cons_succ,i64_w,i32_w]
              rfl
             refine pure_ (i:=21) (N:=some 59) (v:=?_) (a':=?_) #[true,true,true,true,true,true,true,true,true,true,true,true,true,true,true,true,true,true,true,true,true,true,true,false,false,false,false,false,false,false] rfl rfl (any_of HT_.out (by kernel_rfl)) (fun _ _ _ h=>h) (Or.inl ⟨by rfl,?_⟩) ?_ ?_
             rotate_left
             ·intro w'
              go_simp
              with_reducible rfl
             rotate_left
             ·simp only [Act.put,List.setIfInBounds_toArray,List.set_cons_zero,List.set_cons_succ,i64_w,i32_w]
              rfl
             refine pure_ (i:=23) (N:=some 61) (v:=?_) (a':=?_) #[true,true,true,true,true,true,true,true,true,true,true,true,true,true,true,true,true,true,true,true,true,true,true,true,false,false,false,false,false,false] rfl rfl (any_of HT_.out (by kernel_rfl)) (fun _ _ _ h=>h) (Or.inl ⟨by rfl,?_⟩) ?_ ?_
             rotate_left
             ·intro w'
              go_simp
              with_reducible rfl
             rotate_left
             ·simp only [Act.put,List.setIfInBounds_toArray,List.set_cons_zero,List.set_cons_succ,i64_w,i32_w]
              rfl
             refine pure_ (i:=24) (N:=some 62) (v:=?_) (a':=?_) #[true,true,true,true,true,true,true,true,true,true,true,true,true,true,true,true,true,true,true,true,true,true,true,true,true,false,false,false,false,false] rfl rfl (any_of HT_.out (by kernel_rfl)) (fun _ _ _ h=>h) (Or.inl ⟨by rfl,?_⟩) ?_ ?_
             rotate_left
             ·intro w'
              go_simp
              with_reducible rfl
             rotate_left
             ·simp only [Act.put,List.setIfInBounds_toArray,List.set_cons_zero,List.set_cons_succ,i64_w,i32_w]
              rfl
             refine pure_ (i:=25) (N:=some 63) (v:=?_) (a':=?_) #[true,true,true,true,true,true,true,true,true,true,true,true,true,true,true,true,true,true,true,true,true,true,true,true,true,true,false,false,false,false] rfl rfl (any_of HT_.out (by kernel_rfl)) (fun _ _ _ h=>h) (Or.inl ⟨by rfl,?_⟩) ?_ ?_
             rotate_left
             ·intro w'
              go_simp
              with_reducible rfl
             rotate_left
             ·simp only [Act.put,List.setIfInBounds_toArray,List.set_cons_zero,List.set_cons_succ,i64_w,i32_w]
              rfl
             refine pure_ (i:=26) (N:=some 64) (v:=?_) (a':=?_) #[true,true,true,true,true,true,true,true,true,true,true,true,true,true,true,true,true,true,true,true,true,true,true,true,true,true,true,false,false,false] rfl rfl (any_of HT_.out (by kernel_rfl)) (fun _ _ _ h=>h) (Or.inl ⟨by rfl,?_⟩) ?_ ?_
             rotate_left
             ·intro w'
              go_simp
              with_reducible rfl
             rotate_left
             ·simp only [Act.put,List.setIfInBounds_toArray,List.set_cons_zero,List.set_cons_succ,i64_w,i32_w]
              rfl
             refine one_ (i:=27) (N:=some 65) #[true,true,true,true,true,true,true,true,true,true,true,true,true,true,true,true,true,true,true,true,true,true,true,true,true,true,true,true,false,false] rfl rfl (one_of HT_.out (by kernel_rfl)) (by decide) (fun K hK=>?_)
             refine goes_ Try.func16 (by kernel_rfl) rfl #[.pointer (some ⟨g,0,none⟩),.int .i64 2] (by rfl) rfl rfl (by (try simp only [List.map_toArray,List.map_cons,List.map_nil]);first|done|rfl|(simp only [List.length_drop,List.length_take];rfl)) ?_
             with_reducible refine (make_Tape_Next.calls g s0_0 t162 2 t167 t168 w0 _ ?side1 ?side2 A31.out).mono ?_
             (case side1=>repeat (first|(with_reducible first|exact HI0.out|apply IsS25.alloc|apply IsS25.drewN|apply IsS25.drew|apply IsS25.set_1|refine IsS25.far ?_ NB0_163.out _)|refine IsS25.far ?_ NB0_163.out _|exact HI0.out))
             (case side2=>repeat (first|(with_reducible first|exact HB.out|apply below_alloc|apply pw_below_drewN|apply below_drew1|refine below_set ?_ (IsS25.ge HI0.out)|refine below_set ?_ GE163.out)|exact HB.out))
             rintro e w34 ⟨rfl,hi,hb,hk⟩
             have HS0_:=keep_cell hk (hHeld.1) (by first|(rw [add_block];exact Kd.own_blk (IsS25.own_neS HI0.out HO_5.out (by decide)))|(show (Addr.add _ _).block ≠ _;rw [add_block];exact Kd.own_blk (IsS25.own_neS HI0.out HO_5.out (by decide)))|exact Kd.own_blk (IsS25.own_neS HI0.out HO_5.out (by decide)))
             have HS1_:=keep_cell hk (hHeld.2.1) (by first|(rw [add_block];exact Kd.own_blk (IsS25.own_neS HI0.out HO_5.out (by decide)))|(show (Addr.add _ _).block ≠ _;rw [add_block];exact Kd.own_blk (IsS25.own_neS HI0.out HO_5.out (by decide)))|exact Kd.own_blk (IsS25.own_neS HI0.out HO_5.out (by decide)))
             have HS2_:=keep_cell hk (hHeld.2.2.1) (by first|(rw [add_block];exact Kd.own_blk (IsS25.own_neS HI0.out HO_5.out (by decide)))|(show (Addr.add _ _).block ≠ _;rw [add_block];exact Kd.own_blk (IsS25.own_neS HI0.out HO_5.out (by decide)))|exact Kd.own_blk (IsS25.own_neS HI0.out HO_5.out (by decide)))
             have HS3_:=keep_cell hk (hHeld.2.2.2.1) (by first|(rw [add_block];exact Kd.own_blk (IsS25.own_neS HI0.out HO_5.out (by decide)))|(show (Addr.add _ _).block ≠ _;rw [add_block];exact Kd.own_blk (IsS25.own_neS HI0.out HO_5.out (by decide)))|exact Kd.own_blk (IsS25.own_neS HI0.out HO_5.out (by decide)))
             have HS4_:=keep_cell hk (hHeld.2.2.2.2.1) (by first|(rw [add_block];exact Kd.own_blk (IsS25.own_neS HI0.out HO_5.out (by decide)))|(show (Addr.add _ _).block ≠ _;rw [add_block];exact Kd.own_blk (IsS25.own_neS HI0.out HO_5.out (by decide)))|exact Kd.own_blk (IsS25.own_neS HI0.out HO_5.out (by decide)))
             have HS5_:=keep_cell hk (hHeld.2.2.2.2.2.1) (by first|(rw [add_block];exact Kd.own_blk (IsS25.own_neS HI0.out HO_5.out (by decide)))|(show (Addr.add _ _).block ≠ _;rw [add_block];exact Kd.own_blk (IsS25.own_neS HI0.out HO_5.out (by decide)))|exact Kd.own_blk (IsS25.own_neS HI0.out HO_5.out (by decide)))
             have HS6_:=keep_cell hk (hHeld.2.2.2.2.2.2.1) (by first|(rw [add_block];exact Kd.own_blk (IsS25.own_neS HI0.out HO_5.out (by decide)))|(show (Addr.add _ _).block ≠ _;rw [add_block];exact Kd.own_blk (IsS25.own_neS HI0.out HO_5.out (by decide)))|exact Kd.own_blk (IsS25.own_neS HI0.out HO_5.out (by decide)))
             have HS7_:=keep_cell hk (hHeld.2.2.2.2.2.2.2.1) (by first|(rw [add_block];exact Kd.own_blk (IsS25.own_neS HI0.out HO_5.out (by decide)))|(show (Addr.add _ _).block ≠ _;rw [add_block];exact Kd.own_blk (IsS25.own_neS HI0.out HO_5.out (by decide)))|exact Kd.own_blk (IsS25.own_neS HI0.out HO_5.out (by decide)))
             have HS8_:=keep_cell hk (hHeld.2.2.2.2.2.2.2.2) (by first|(rw [add_block];exact Kd.own_blk (IsS25.own_neS HI0.out HO_5.out (by decide)))|(show (Addr.add _ _).block ≠ _;rw [add_block];exact Kd.own_blk (IsS25.own_neS HI0.out HO_5.out (by decide)))|exact Kd.own_blk (IsS25.own_neS HI0.out HO_5.out (by decide)))
             refine ⟨_,rfl,?_⟩
             have n0_:=Aside0.mk (Kd.S_mono (Kd.S_keep (IsS25.apartS (show IsS25 w0 _ g s0_0 t162 from by repeat (first|(with_reducible first|exact HI0.out|apply IsS25.alloc|apply IsS25.drewN|apply IsS25.drew|apply IsS25.set_1|refine IsS25.far ?_ NB0_163.out _)|refine IsS25.far ?_ NB0_163.out _|exact HI0.out)) (by (with_reducible repeat (first|apply Kd.S_alloc|apply Kd.S_drewN|apply Kd.S_drew));exact HO_5.out) (by decide)) hk (fun _ h=>h.2)) (fun _ h=>h.1))
             have n1_:=Aside0.mk (KeepBut.blk hk (g':=gb163) (o:=.cells #[.int .i64 t161,.int .i64 0,.slice none 0 0] 39 (0,0)) (by (with_reducible repeat (first|refine blk_drewN ?_ _|refine blk_drew ?_|refine blk_alloc ?_ _));exact BK163.out) NB163_0.out (by simp))
             have n2_:=Aside0.mk (Kd.R_mono (Kd.R_keep (IsS25.apart (show IsS25 w0 _ g s0_0 t162 from by repeat (first|(with_reducible first|exact HI0.out|apply IsS25.alloc|apply IsS25.drewN|apply IsS25.drew|apply IsS25.set_1|refine IsS25.far ?_ NB0_163.out _)|refine IsS25.far ?_ NB0_163.out _|exact HI0.out)) (by (with_reducible repeat (first|apply Kd.R_alloc|apply Kd.R_drewN|apply Kd.R_drew));exact HL164_2.out) (by decide)) hk (fun _ h=>h.2)) (fun _ h=>h.1))
             have n3_:=Aside0.mk (Kd.R_mono (Kd.R_keep (IsS25.apart (show IsS25 w0 _ g s0_0 t162 from by repeat (first|(with_reducible first|exact HI0.out|apply IsS25.alloc|apply IsS25.drewN|apply IsS25.drew|apply IsS25.set_1|refine IsS25.far ?_ NB0_163.out _)|refine IsS25.far ?_ NB0_163.out _|exact HI0.out)) (by (with_reducible repeat (first|apply Kd.R_alloc|apply Kd.R_drewN|apply Kd.R_drew));exact HL165_2.out) (by decide)) hk (fun _ h=>h.2)) (fun _ h=>h.1))
             have n4_:=Aside0.mk (Kd.R_mono (Kd.R_keep (IsS25.apart (show IsS25 w0 _ g s0_0 t162 from by repeat (first|(with_reducible first|exact HI0.out|apply IsS25.alloc|apply IsS25.drewN|apply IsS25.drew|apply IsS25.set_1|refine IsS25.far ?_ NB0_163.out _)|refine IsS25.far ?_ NB0_163.out _|exact HI0.out)) (by (with_reducible repeat (first|apply Kd.R_alloc|apply Kd.R_drewN|apply Kd.R_drew));exact HL166_2.out) (by decide)) hk (fun _ h=>h.2)) (fun _ h=>h.1))
             have n5_:=Aside0.mk (KeepBut.trans (by repeat (first|(with_reducible first|exact HK.out|apply KeepBut.set_|apply keep_drewN|apply keep_drew|apply keep_alloc|refine keep_far ?_ GW163.out _)|exact HK.out)) hk (.inl rfl))
             have n6_:=Aside0.mk (hb)
             have n7_:=Aside0.mk (hi)
             clear HO_5
             clear BK163
             clear HL164_2
             clear HL165_2
             clear HL166_2
             clear HK
             clear HB
             clear HI0
             have HO_5:=n0_
             have BK163:=n1_
             have HL164_2:=n2_
             have HL165_2:=n3_
             have HL166_2:=n4_
             have HK:=n5_
             have HB:=n6_
             have HI0:=n7_
             clear n0_ n1_ n2_ n3_ n4_ n5_ n6_ n7_
             (try clear hb)
             (try clear hb2)
             (try clear hk)
             (try clear hi)
             refine hK.out _ _ ⟨HS0_,HS1_,HS2_,HS3_,HS4_,HS5_,HS6_,HS7_,HS8_⟩ (fun hHeld=>?_)
             clear hK K
             refine norm_ (a':=?_) ?_ ?_
             rotate_left
             ·show Act.put _ (some 65) _ = _
              simp only [Act.put,List.setIfInBounds_toArray,List.set_cons_zero,List.set_cons_succ,i64_w,i32_w]
              rfl
             refine pure_ (i:=28) (N:=some 66) (v:=?_) (a':=?_) #[true,true,true,true,true,true,true,true,true,true,true,true,true,true,true,true,true,true,true,true,true,true,true,true,true,true,true,true,true,false] rfl rfl (any_of HT_.out (by kernel_rfl)) (fun _ _ _ h=>h) (Or.inl ⟨by rfl,?_⟩) ?_ ?_
             rotate_left
             ·intro w'
              go_simp
              with_reducible rfl
             rotate_left
             ·simp only [Act.put,List.setIfInBounds_toArray,List.set_cons_zero,List.set_cons_succ,i64_w,i32_w]
              rfl
             refine pure_ (i:=29) (N:=some 67) (v:=?_) (a':=?_) #[true,true,true,true,true,true,true,true,true,true,true,true,true,true,true,true,true,true,true,true,true,true,true,true,true,true,true,true,true,true] rfl rfl (any_of HT_.out (by kernel_rfl)) (fun _ _ _ h=>h) (Or.inl ⟨by rfl,?_⟩) ?_ ?_
             rotate_left
             ·intro w'
              go_simp
              with_reducible rfl
             rotate_left
             ·simp only [Act.put,List.setIfInBounds_toArray,List.set_cons_zero,List.set_cons_succ,i64_w,i32_w]
              rfl
             refine done_ (done_of HT_.out (by kernel_rfl)) ?_
             try go_wp2
             first|go_meet|(subst hji26;go_meet)
             case rel=>first|exact ⟨_,((t167 == 0)),(t168),(by first|rfl|(simp;done)|(simp [*];done)),H',⟨by have:=HK1.out;have:=HJ5.out;first|omega|exact Nat.le_refl _⟩,⟨by (with_reducible repeat (first|apply Kd.S_alloc|apply Kd.S_drewN|apply Kd.S_drew));exact HO_5.out⟩,⟨by (with_reducible repeat (first|refine blk_drewN ?_ _|refine blk_drew ?_|refine blk_alloc ?_ _));exact BK163.out⟩,⟨by repeat (first|(with_reducible first|exact HI0.out|apply IsS25.alloc|apply IsS25.drewN|apply IsS25.drew|apply IsS25.set_1|refine IsS25.far ?_ NB0_163.out _)|refine IsS25.far ?_ NB0_163.out _|exact HI0.out)⟩,⟨by repeat (first|(with_reducible first|exact HK.out|apply KeepBut.set_|apply keep_drewN|apply keep_drew|apply keep_alloc|refine keep_far ?_ GW163.out _)|exact HK.out)⟩,⟨by repeat (first|(with_reducible first|exact HB.out|apply below_alloc|apply pw_below_drewN|apply below_drew1|refine below_set ?_ (IsS25.ge HI0.out)|refine below_set ?_ GE163.out)|exact HB.out)⟩⟩|((try subst hji26);exact ⟨_,((t167 == 0)),(t168),(by first|rfl|(simp;done)|(simp [*];done)),H',⟨by have:=HK1.out;have:=HJ5.out;first|omega|exact Nat.le_refl _⟩,⟨by (with_reducible repeat (first|apply Kd.S_alloc|apply Kd.S_drewN|apply Kd.S_drew));exact HO_5.out⟩,⟨by (with_reducible repeat (first|refine blk_drewN ?_ _|refine blk_drew ?_|refine blk_alloc ?_ _));exact BK163.out⟩,⟨by repeat (first|(with_reducible first|exact HI0.out|apply IsS25.alloc|apply IsS25.drewN|apply IsS25.drew|apply IsS25.set_1|refine IsS25.far ?_ NB0_163.out _)|refine IsS25.far ?_ NB0_163.out _|exact HI0.out)⟩,⟨by repeat (first|(with_reducible first|exact HK.out|apply KeepBut.set_|apply keep_drewN|apply keep_drew|apply keep_alloc|refine keep_far ?_ GW163.out _)|exact HK.out)⟩,⟨by repeat (first|(with_reducible first|exact HB.out|apply below_alloc|apply pw_below_drewN|apply below_drew1|refine below_set ?_ (IsS25.ge HI0.out)|refine below_set ?_ GE163.out)|exact HB.out)⟩⟩)
            ·rw [if_neg c30] at H
             have c30b0:decide ((wrap64 (((rd_T39 x5_1 (ji26)).f0) + ((rd_T39 x5_1 (ji26)).f1))) < a1) = false:=decide_eq_false c30
             clear c30
             have H':=Aside0.mk H
             clear H
             try go_wp2
             have n0_:Aside0 (Kd.S k39 39 (((w21.setCell ⟨gb163,0,none⟩ (.int .i64 t161)).setCell ⟨gb163,1,none⟩ (.int .i64 0)).setCell ⟨gb163,2,none⟩ (.slice none 0 0)) w.heap.size (fun k_=>k_ ≠ gb163) (.slice Ao24 x5_1.length co24) x5_1):=⟨by (with_reducible repeat (first|apply Kd.S_alloc|apply Kd.S_drewN|apply Kd.S_drew));exact Kd.S_mono (Kd.S_far (p:=⟨gb163,2,none⟩) (Kd.S_far (p:=⟨gb163,1,none⟩) (Kd.S_far (p:=⟨gb163,0,none⟩) (Kd.S_mono HO_5.out (fun k_ hk=>(⟨hk,hk.2⟩:_ ∧ k_ ≠ gb163))) (fun _ hk=>hk.2) (.int .i64 t161)) (fun _ hk=>hk.2) (.int .i64 0)) (fun _ hk=>hk.2) (.slice none 0 0)) (fun _ hk=>hk.1.2)⟩
             have n1_:Aside0 ((((w21.setCell ⟨gb163,0,none⟩ (.int .i64 t161)).setCell ⟨gb163,1,none⟩ (.int .i64 0)).setCell ⟨gb163,2,none⟩ (.slice none 0 0)).heap[gb163]? = some (.cells #[.int .i64 t161,.int .i64 0,.slice none 0 0] 39 (0,0))):=⟨by (with_reducible repeat (first|refine blk_drewN ?_ _|refine blk_drew ?_|refine blk_alloc ?_ _));refine blk_put (cs:=#[.int .i64 t161,.int .i64 0,.slice none 0 0]) ?_ 2 _ rfl;(with_reducible repeat (first|refine blk_drewN ?_ _|refine blk_drew ?_|refine blk_alloc ?_ _));refine blk_put (cs:=#[.int .i64 t161,.int .i64 0,.slice none 0 0]) ?_ 1 _ rfl;(with_reducible repeat (first|refine blk_drewN ?_ _|refine blk_drew ?_|refine blk_alloc ?_ _));refine blk_put (cs:=#[.int .i64 0,.int .i64 0,.slice none 0 0]) ?_ 0 _ rfl;(with_reducible repeat (first|refine blk_drewN ?_ _|refine blk_drew ?_|refine blk_alloc ?_ _));exact BK163.out⟩
             have n2_:Aside0 (IsS25 w0 (((w21.setCell ⟨gb163,0,none⟩ (.int .i64 t161)).setCell ⟨gb163,1,none⟩ (.int .i64 0)).setCell ⟨gb163,2,none⟩ (.slice none 0 0)) g s0_0 t162):=⟨by repeat (first|(with_reducible first|exact HI0.out|apply IsS25.alloc|apply IsS25.drewN|apply IsS25.drew|apply IsS25.set_1|refine IsS25.far ?_ NB0_163.out _)|refine IsS25.far ?_ NB0_163.out _|exact HI0.out)⟩
             have n3_:Aside0 (KeepBut w (((w21.setCell ⟨gb163,0,none⟩ (.int .i64 t161)).setCell ⟨gb163,1,none⟩ (.int .i64 0)).setCell ⟨gb163,2,none⟩ (.slice none 0 0)) g none):=⟨by repeat (first|(with_reducible first|exact HK.out|apply KeepBut.set_|apply keep_drewN|apply keep_drew|apply keep_alloc|refine keep_far ?_ GW163.out _)|exact HK.out)⟩
             have n4_:Aside0 (Below w0.heap.size w0 (((w21.setCell ⟨gb163,0,none⟩ (.int .i64 t161)).setCell ⟨gb163,1,none⟩ (.int .i64 0)).setCell ⟨gb163,2,none⟩ (.slice none 0 0))):=⟨by repeat (first|(with_reducible first|exact HB.out|apply below_alloc|apply pw_below_drewN|apply below_drew1|refine below_set ?_ (IsS25.ge HI0.out)|refine below_set ?_ GE163.out)|exact HB.out)⟩
             (try clear HO_5)
             (try clear BK163)
             (try clear HI0)
             (try clear HK)
             (try clear HB)
             generalize (((w21.setCell ⟨gb163,0,none⟩ (.int .i64 t161)).setCell ⟨gb163,1,none⟩ (.int .i64 0)).setCell ⟨gb163,2,none⟩ (.slice none 0 0)) = w35 at n0_ n1_ n2_ n3_ n4_ ⊢
             have HO_5:=n0_
             have BK163:=n1_
             have HI0:=n2_
             have HK:=n3_
             have HB:=n4_
             clear n0_ n1_ n2_ n3_ n4_
             have n0_:=Aside0.mk (Kd.S_drew HO_5.out)
             have n1_:=Aside0.mk (blk_drew BK163.out)
             have n2_:=Aside0.mk (IsS25.drew HI0.out)
             have n3_:=Aside0.mk (keep_drew HK.out)
             have n4_:=Aside0.mk (below_drew1 HB.out)
             clear HO_5
             clear BK163
             clear HI0
             clear HK
             clear HB
             have HO_5:=n0_
             have BK163:=n1_
             have HI0:=n2_
             have HK:=n3_
             have HB:=n4_
             clear n0_ n1_ n2_ n3_ n4_
             have p164:0 ≤ ((ji26):Int):=of_decide_eq_true (by first|(with_reducible assumption)|assumption)
             have q164:(ji26) < (x5_1.length:Int):=of_decide_eq_true (by first|(with_reducible assumption)|assumption)
             obtain ⟨ad164,A164_2,c164_2,e164,hx164_0,hx164_1,hx164_2,hl164_2,hi164_2⟩:=at_T39 (Kd.S_reads' HO_5.out).2.2 (ji26) p164 q164
             cases e164
             obtain ⟨ce164,hce164,hMe164,hcc164⟩:=Kd.S_get HO_5.out z39 (ji26) p164 (by first|exact q164|exact of_decide_eq_true (by first|(with_reducible assumption)|assumption)|(have e_:=(Kd.S_reads' HO_5.out).1;omega))
             obtain ⟨ve164_2,rfl,ge164_2⟩:=k39_openM hMe164
             have hv164_2:=hcc164 2 _ rfl
             rw [add_field _ _ 2 (by omega)] at hv164_2
             replace hv164_2:=Option.some.inj (hv164_2.symm.trans hx164_2)
             rw [hv164_2] at ge164_2
             have HL164_2:=Aside0.mk (show Kd.R (Kd.int .u8) 5 _ _ _ _ ((rd_T39 x5_1 (ji26)).f2) from ge164_2)
             clear hv164_2 ge164_2
             clear hcc164 hce164
             have HR164_2:=Aside0.mk hi164_2
             have HC164_2:=Aside0.mk hl164_2
             clear hi164_2 hl164_2
             replace p164:=eq_true p164
             replace q164:=eq_true q164
             have p165:0 ≤ ((ji26):Int):=of_decide_eq_true (by first|(with_reducible assumption)|assumption)
             have q165:(ji26) < (x5_1.length:Int):=of_decide_eq_true (by first|(with_reducible assumption)|assumption)
             obtain ⟨ad165,A165_2,c165_2,e165,hx165_0,hx165_1,hx165_2,hl165_2,hi165_2⟩:=at_T39 (Kd.S_reads' HO_5.out).2.2 (ji26) p165 q165
             obtain rfl:ad164 = ad165:=(by injection e165)
             obtain ⟨ce165,hce165,hMe165,hcc165⟩:=Kd.S_get HO_5.out z39 (ji26) p165 (by first|exact q165|exact of_decide_eq_true (by first|(with_reducible assumption)|assumption)|(have e_:=(Kd.S_reads' HO_5.out).1;omega))
             obtain ⟨ve165_2,rfl,ge165_2⟩:=k39_openM hMe165
             have hv165_2:=hcc165 2 _ rfl
             rw [add_field _ _ 2 (by omega)] at hv165_2
             replace hv165_2:=Option.some.inj (hv165_2.symm.trans hx165_2)
             rw [hv165_2] at ge165_2
             have HL165_2:=Aside0.mk (show Kd.R (Kd.int .u8) 5 _ _ _ _ ((rd_T39 x5_1 (ji26)).f2) from ge165_2)
             clear hv165_2 ge165_2
             clear hcc165 hce165
             have HR165_2:=Aside0.mk hi165_2
             have HC165_2:=Aside0.mk hl165_2
             clear hi165_2 hl165_2
             replace p165:=eq_true p165
             replace q165:=eq_true q165
             have ea_:=Option.some.inj (hx164_2.symm.trans hx165_2)
             injection ea_ with ea_ en_ ec_
             subst ea_
             subst ec_
             clear en_
             have p166:0 ≤ ((ji26):Int):=of_decide_eq_true (by first|(with_reducible assumption)|assumption)
             have q166:(ji26) < (x5_1.length:Int):=of_decide_eq_true (by first|(with_reducible assumption)|assumption)
             obtain ⟨ad166,A166_2,c166_2,e166,hx166_0,hx166_1,hx166_2,hl166_2,hi166_2⟩:=at_T39 (Kd.S_reads' HO_5.out).2.2 (ji26) p166 q166
             obtain rfl:ad164 = ad166:=(by injection e166)
             obtain ⟨ce166,hce166,hMe166,hcc166⟩:=Kd.S_get HO_5.out z39 (ji26) p166 (by first|exact q166|exact of_decide_eq_true (by first|(with_reducible assumption)|assumption)|(have e_:=(Kd.S_reads' HO_5.out).1;omega))
             obtain ⟨ve166_2,rfl,ge166_2⟩:=k39_openM hMe166
             have hv166_2:=hcc166 2 _ rfl
             rw [add_field _ _ 2 (by omega)] at hv166_2
             replace hv166_2:=Option.some.inj (hv166_2.symm.trans hx166_2)
             rw [hv166_2] at ge166_2
             have HL166_2:=Aside0.mk (show Kd.R (Kd.int .u8) 5 _ _ _ _ ((rd_T39 x5_1 (ji26)).f2) from ge166_2)
             clear hv166_2 ge166_2
             clear hcc166 hce166
             have HR166_2:=Aside0.mk hi166_2
             have HC166_2:=Aside0.mk hl166_2
             clear hi166_2 hl166_2
             replace p166:=eq_true p166
             replace q166:=eq_true q166
             have ea_:=Option.some.inj (hx164_2.symm.trans hx166_2)
             injection ea_ with ea_ en_ ec_
             subst ea_
             subst ec_
             clear en_
             refine start_ (n:=30) (S:=fun w'=>w'.cell? (ad164.add (((ji26)).toNat * 3)) = some (.int .i64 ((rd_T39 x5_1 (ji26)).f0)) ∧ w'.cell? ⟨(ad164.add (((ji26)).toNat * 3)).block,(ad164.add (((ji26)).toNat * 3)).off + 1,none⟩ = some (.int .i64 ((rd_T39 x5_1 (ji26)).f1)) ∧ w'.cell? ⟨(ad164.add (((ji26)).toNat * 3)).block,(ad164.add (((ji26)).toNat * 3)).off + 2,none⟩ = some (.slice A164_2 ((rd_T39 x5_1 (ji26)).f2).length c164_2) ∧ w'.cell? (ad164.add (((ji26)).toNat * 3)) = some (.int .i64 ((rd_T39 x5_1 (ji26)).f0)) ∧ w'.cell? ⟨(ad164.add (((ji26)).toNat * 3)).block,(ad164.add (((ji26)).toNat * 3)).off + 1,none⟩ = some (.int .i64 ((rd_T39 x5_1 (ji26)).f1)) ∧ w'.cell? ⟨(ad164.add (((ji26)).toNat * 3)).block,(ad164.add (((ji26)).toNat * 3)).off + 2,none⟩ = some (.slice A164_2 ((rd_T39 x5_1 (ji26)).f2).length c164_2) ∧ w'.cell? (ad164.add (((ji26)).toNat * 3)) = some (.int .i64 ((rd_T39 x5_1 (ji26)).f0)) ∧ w'.cell? ⟨(ad164.add (((ji26)).toNat * 3)).block,(ad164.add (((ji26)).toNat * 3)).off + 1,none⟩ = some (.int .i64 ((rd_T39 x5_1 (ji26)).f1)) ∧ w'.cell? ⟨(ad164.add (((ji26)).toNat * 3)).block,(ad164.add (((ji26)).toNat * 3)).off + 2,none⟩ = some (.slice A164_2 ((rd_T39 x5_1 (ji26)).f2).length c164_2)) (ds:=[]) #[false,false,false,false,false,false,false,false,false,false,false,false,false,false,false,false,false,false,false,false,false,false,false,false,false,false,false,false,false,false] (by kernel_rfl) rfl rfl ⟨hx164_0,hx164_1,hx164_2,hx165_0,hx165_1,hx165_2,hx166_0,hx166_1,hx166_2⟩ (fun hHeld=>?_);refine with_tabW law26_made.tab9 law26_made.bits9 (fun HT_ HW_=>?_)
             generalize w35.drew = w36 at HO_5 BK163 HI0 HK HB HL164_2 HL165_2 HL166_2 HR164_2 HR165_2 HR166_2 hx164_0 hx164_1 hx164_2 hx165_0 hx165_1 hx165_2 hx166_0 hx166_1 hx166_2 hHeld ⊢
             refine pure_ (i:=0) (N:=some 38) (v:=?_) (a':=?_) #[true,false,false,false,false,false,false,false,false,false,false,false,false,false,false,false,false,false,false,false,false,false,false,false,false,false,false,false,false,false] rfl rfl (any_of HT_.out (by kernel_rfl)) (fun _ _ _ h=>h) (Or.inl ⟨by rfl,?_⟩) ?_ ?_
             rotate_left
             ·intro w'
              go_simp
              with_reducible rfl
             rotate_left
             ·simp only [Act.put,List.setIfInBounds_toArray,List.set_cons_zero,List.set_cons_succ,i64_w,i32_w]
              rfl
             refine pure_ (i:=1) (N:=some 39) (v:=?_) (a':=?_) #[true,true,false,false,false,false,false,false,false,false,false,false,false,false,false,false,false,false,false,false,false,false,false,false,false,false,false,false,false,false] rfl rfl (any_of HT_.out (by kernel_rfl)) (fun _ _ _ h=>h) (Or.inl ⟨by rfl,?_⟩) ?_ ?_
             rotate_left
             ·intro w'
              go_simp
              with_reducible rfl
             rotate_left
             ·simp only [Act.put,List.setIfInBounds_toArray,List.set_cons_zero,List.set_cons_succ,i64_w,i32_w]
              rfl
             refine pure_ (i:=2) (N:=some 40) (v:=?_) (a':=?_) #[true,true,true,false,false,false,false,false,false,false,false,false,false,false,false,false,false,false,false,false,false,false,false,false,false,false,false,false,false,false] rfl rfl (any_of HT_.out (by kernel_rfl)) (fun _ _ _ h=>h) (Or.inl ⟨by rfl,?_⟩) ?_ ?_
             rotate_left
             ·intro w'
              go_simp
              with_reducible rfl
             rotate_left
             ·simp only [Act.put,List.setIfInBounds_toArray,List.set_cons_zero,List.set_cons_succ,i64_w,i32_w]
              rfl
             refine pure_ (i:=3) (N:=some 41) (v:=?_) (a':=?_) #[true,true,true,true,false,false,false,false,false,false,false,false,false,false,false,false,false,false,false,false,false,false,false,false,false,false,false,false,false,false] rfl rfl (any_of HT_.out (by kernel_rfl)) (fun _ _ _ h=>h) (Or.inl ⟨by rfl,?_⟩) ?_ ?_
             rotate_left
             ·intro w'
              go_simp
              with_reducible rfl
             rotate_left
             ·simp only [Act.put,List.setIfInBounds_toArray,List.set_cons_zero,List.set_cons_succ,i64_w,i32_w]
              rfl
             refine pure_ (i:=4) (N:=some 42) (v:=?_) (a':=?_) #[true,true,true,true,true,false,false,false,false,false,false,false,false,false,false,false,false,false,false,false,false,false,false,false,false,false,false,false,false,false] rfl rfl (any_of HT_.out (by kernel_rfl)) (fun _ _ _ h=>h) (Or.inl ⟨by rfl,?_⟩) ?_ ?_
             rotate_left
             ·intro w'
              go_simp
              with_reducible rfl
             rotate_left
             ·simp only [Act.put,List.setIfInBounds_toArray,List.set_cons_zero,List.set_cons_succ,i64_w,i32_w]
              rfl
             refine pure_ (i:=5) (N:=some 43) (v:=?_) (a':=?_) #[true,true,true,true,true,true,false,false,false,false,false,false,false,false,false,false,false,false,false,false,false,false,false,false,false,false,false,false,false,false] rfl rfl (any_of HT_.out (by kernel_rfl)) (fun _ _ _ h=>h) (Or.inl ⟨by rfl,?_⟩) ?_ ?_
             rotate_left
             ·intro w'
              go_simp
              with_reducible rfl
             rotate_left
             ·simp only [Act.put,List.setIfInBounds_toArray,List.set_cons_zero,List.set_cons_succ,i64_w,i32_w]
              rfl
             refine pure_ (i:=6) (N:=some 44) (v:=?_) (a':=?_) #[true,true,true,true,true,true,true,false,false,false,false,false,false,false,false,false,false,false,false,false,false,false,false,false,false,false,false,false,false,false] rfl rfl (any_of HT_.out (by kernel_rfl)) (fun _ _ _ h=>h) (Or.inl ⟨by rfl,?_⟩) ?_ ?_
             rotate_left
             ·intro w'
              go_simp
              with_reducible rfl
             rotate_left
             ·simp only [Act.put,List.setIfInBounds_toArray,List.set_cons_zero,List.set_cons_succ,i64_w,i32_w]
              rfl
             refine take_ (i:=7) (N:=some 45) (v:=?_) (a':=?_) #[true,true,true,true,true,true,true,true,false,false,false,false,false,false,false,false,false,false,false,false,false,false,false,false,false,false,false,false,false,false] rfl rfl (take_ofW HT_.out HW_.out (by kernel_rfl)) (fun _ _ _ h=>h) (Or.inl ⟨by rfl,?_⟩) hHeld ?_ ?_
             rotate_left
             ·rintro w' ⟨s0,s1,s2,s3,s4,s5,s6,s7,s8⟩
              go_simp
              with_reducible rfl
             rotate_left
             ·simp only [Act.put,List.setIfInBounds_toArray,List.set_cons_zero,List.set_cons_succ,i64_w,i32_w]
              rfl
             refine pure_ (i:=8) (N:=some 46) (v:=?_) (a':=?_) #[true,true,true,true,true,true,true,true,true,false,false,false,false,false,false,false,false,false,false,false,false,false,false,false,false,false,false,false,false,false] rfl rfl (any_of HT_.out (by kernel_rfl)) (fun _ _ _ h=>h) (Or.inl ⟨by rfl,?_⟩) ?_ ?_
             rotate_left
             ·intro w'
              go_simp
              with_reducible rfl
             rotate_left
             ·simp only [Act.put,List.setIfInBounds_toArray,List.set_cons_zero,List.set_cons_succ,i64_w,i32_w]
              rfl
             refine pure_ (i:=9) (N:=some 47) (v:=?_) (a':=?_) #[true,true,true,true,true,true,true,true,true,true,false,false,false,false,false,false,false,false,false,false,false,false,false,false,false,false,false,false,false,false] rfl rfl (any_of HT_.out (by kernel_rfl)) (fun _ _ _ h=>h) (Or.inl ⟨by rfl,?_⟩) ?_ ?_
             rotate_left
             ·intro w'
              go_simp
              with_reducible rfl
             rotate_left
             ·simp only [Act.put,List.setIfInBounds_toArray,List.set_cons_zero,List.set_cons_succ,i64_w,i32_w]
              rfl
             refine pure_ (i:=10) (N:=some 48) (v:=?_) (a':=?_) #[true,true,true,true,true,true,true,true,true,true,true,false,false,false,false,false,false,false,false,false,false,false,false,false,false,false,false,false,false,false] rfl rfl (any_of HT_.out (by kernel_rfl)) (fun _ _ _ h=>h) (Or.inl ⟨by rfl,?_⟩) ?_ ?_
             rotate_left
             ·intro w'
              go_simp
              with_reducible rfl
             rotate_left
             ·simp only [Act.put,List.setIfInBounds_toArray,List.set_cons_zero,List.set_cons_succ,i64_w,i32_w]
              rfl
             refine pure_ (i:=11) (N:=some 49) (v:=?_) (a':=?_) #[true,true,true,true,true,true,true,true,true,true,true,true,false,false,false,false,false,false,false,false,false,false,false,false,false,false,false,false,false,false] rfl rfl (any_of HT_.out (by kernel_rfl)) (fun _ _ _ h=>h) (Or.inl ⟨by rfl,?_⟩) ?_ ?_
             rotate_left
             ·intro w'
              go_simp
              with_reducible rfl
             rotate_left
             ·simp only [Act.put,List.setIfInBounds_toArray,List.set_cons_zero,List.set_cons_succ,i64_w,i32_w]
              rfl
             refine pure_ (i:=12) (N:=some 50) (v:=?_) (a':=?_) #[true,true,true,true,true,true,true,true,true,true,true,true,true,false,false,false,false,false,false,false,false,false,false,false,false,false,false,false,false,false] rfl rfl (any_of HT_.out (by kernel_rfl)) (fun _ _ _ h=>h) (Or.inl ⟨by rfl,?_⟩) ?_ ?_
             rotate_left
             ·intro w'
              go_simp
              with_reducible rfl
             rotate_left
             ·simp only [Act.put,List.setIfInBounds_toArray,List.set_cons_zero,List.set_cons_succ,i64_w,i32_w]
              rfl
             refine pure_ (i:=13) (N:=some 51) (v:=?_) (a':=?_) #[true,true,true,true,true,true,true,true,true,true,true,true,true,true,false,false,false,false,false,false,false,false,false,false,false,false,false,false,false,false] rfl rfl (any_of HT_.out (by kernel_rfl)) (fun _ _ _ h=>h) (Or.inl ⟨by rfl,?_⟩) ?_ ?_
             rotate_left
             ·intro w'
              go_simp
              with_reducible rfl
             rotate_left
             ·simp only [Act.put,List.setIfInBounds_toArray,List.set_cons_zero,List.set_cons_succ,i64_w,i32_w]
              rfl
             refine pure_ (i:=14) (N:=some 52) (v:=?_) (a':=?_) #[true,true,true,true,true,true,true,true,true,true,true,true,true,true,true,false,false,false,false,false,false,false,false,false,false,false,false,false,false,false] rfl rfl (any_of HT_.out (by kernel_rfl)) (fun _ _ _ h=>h) (Or.inl ⟨by rfl,?_⟩) ?_ ?_
             rotate_left
             ·intro w'
              go_simp
              with_reducible rfl
             rotate_left
             ·simp only [Act.put,List.setIfInBounds_toArray,List.set_cons_zero,List.set_cons_succ,i64_w,i32_w]
              rfl
             refine pure_ (i:=16) (N:=some 54) (v:=?_) (a':=?_) #[true,true,true,true,true,true,true,true,true,true,true,true,true,true,true,false,true,false,false,false,false,false,false,false,false,false,false,false,false,false] rfl rfl (any_of HT_.out (by kernel_rfl)) (fun _ _ _ h=>h) (Or.inl ⟨by rfl,?_⟩) ?_ ?_
             rotate_left
             ·intro w'
              go_simp
              with_reducible rfl
             rotate_left
             ·simp only [Act.put,List.setIfInBounds_toArray,List.set_cons_zero,List.set_cons_succ,i64_w,i32_w]
              rfl
             refine pure_ (i:=17) (N:=some 55) (v:=?_) (a':=?_) #[true,true,true,true,true,true,true,true,true,true,true,true,true,true,true,false,true,true,false,false,false,false,false,false,false,false,false,false,false,false] rfl rfl (any_of HT_.out (by kernel_rfl)) (fun _ _ _ h=>h) (Or.inl ⟨by rfl,?_⟩) ?_ ?_
             rotate_left
             ·intro w'
              go_simp
              with_reducible rfl
             rotate_left
             ·simp only [Act.put,List.setIfInBounds_toArray,List.set_cons_zero,List.set_cons_succ,i64_w,i32_w]
              rfl
             refine pure_ (i:=18) (N:=some 56) (v:=?_) (a':=?_) #[true,true,true,true,true,true,true,true,true,true,true,true,true,true,true,false,true,true,true,false,false,false,false,false,false,false,false,false,false,false] rfl rfl (any_of HT_.out (by kernel_rfl)) (fun _ _ _ h=>h) (Or.inl ⟨by rfl,?_⟩) ?_ ?_
             rotate_left
             ·intro w'
              go_simp
              with_reducible rfl
             rotate_left
             ·simp only [Act.put,List.setIfInBounds_toArray,List.set_cons_zero,List.set_cons_succ,i64_w,i32_w]
              rfl
             refine pure_ (i:=19) (N:=some 57) (v:=?_) (a':=?_) #[true,true,true,true,true,true,true,true,true,true,true,true,true,true,true,false,true,true,true,true,false,false,false,false,false,false,false,false,false,false] rfl rfl (any_of HT_.out (by kernel_rfl)) (fun _ _ _ h=>h) (Or.inl ⟨by rfl,?_⟩) ?_ ?_
             rotate_left
             ·intro w'
              go_simp
              with_reducible rfl
             rotate_left
             ·simp only [Act.put,List.setIfInBounds_toArray,List.set_cons_zero,List.set_cons_succ,i64_w,i32_w]
              rfl
             refine pure_ (i:=22) (N:=some 60) (v:=?_) (a':=?_) #[true,true,true,true,true,true,true,true,true,true,true,true,true,true,true,false,true,true,true,true,false,false,true,false,false,false,false,false,false,false] rfl rfl (any_of HT_.out (by kernel_rfl)) (fun _ _ _ h=>h) (Or.inl ⟨by rfl,?_⟩) ?_ ?_
             rotate_left
             ·intro w'
              go_simp
              with_reducible rfl
             rotate_left
             ·simp only [Act.put,List.setIfInBounds_toArray,List.set_cons_zero,List.set_cons_succ,i64_w,i32_w]
              rfl
             refine take_ (i:=15) (N:=some 53) (v:=?_) (a':=?_) #[true,true,true,true,true,true,true,true,true,true,true,true,true,true,true,true,true,true,true,true,false,false,true,false,false,false,false,false,false,false] rfl rfl (take_ofW HT_.out HW_.out (by kernel_rfl)) (fun _ _ _ h=>h) (Or.inl ⟨by rfl,?_⟩) hHeld ?_ ?_
             rotate_left
             ·rintro w' ⟨s0,s1,s2,s3,s4,s5,s6,s7,s8⟩
              go_simp
              with_reducible rfl
             rotate_left
             ·simp only [Act.put,List.setIfInBounds_toArray,List.set_cons_zero,List.set_cons_succ,i64_w,i32_w]
              rfl
             refine take_ (i:=20) (N:=some 58) (v:=?_) (a':=?_) #[true,true,true,true,true,true,true,true,true,true,true,true,true,true,true,true,true,true,true,true,true,false,true,false,false,false,false,false,false,false] rfl rfl (take_ofW HT_.out HW_.out (by kernel_rfl)) (fun _ _ _ h=>h) (Or.inl ⟨by rfl,?_⟩) hHeld ?_ ?_
             rotate_left
             ·rintro w' ⟨s0,s1,s2,s3,s4,s5,s6,s7,s8⟩
              go_simp
              with_reducible rfl
             rotate_left
             ·simp only [Act.put,List.setIfInBounds_toArray,List.set_cons_zero,List.set_cons_succ,i64_w,i32_w]
              rfl
             refine pure_ (i:=21) (N:=some 59) (v:=?_) (a':=?_) #[true,true,true,true,true,true,true,true,true,true,true,true,true,true,true,true,true,true,true,true,true,true,true,false,false,false,false,false,false,false] rfl rfl (any_of HT_.out (by kernel_rfl)) (fun _ _ _ h=>h) (Or.inl ⟨by rfl,?_⟩) ?_ ?_
             rotate_left
             ·intro w'
              go_simp
              with_reducible rfl
             rotate_left
             ·simp only [Act.put,List.setIfInBounds_toArray,List.set_cons_zero,List.set_cons_succ,i64_w,i32_w]
              rfl
             refine pure_ (i:=23) (N:=some 61) (v:=?_) (a':=?_) #[true,true,true,true,true,true,true,true,true,true,true,true,true,true,true,true,true,true,true,true,true,true,true,true,false,false,false,false,false,false] rfl rfl (any_of HT_.out (by kernel_rfl)) (fun _ _ _ h=>h) (Or.inl ⟨by rfl,?_⟩) ?_ ?_
             rotate_left
             ·intro w'
              go_simp
              with_reducible rfl
             rotate_left
             ·simp only [Act.put,List.setIfInBounds_toArray,List.set_cons_zero,List.set_cons_succ,i64_w,i32_w]
              rfl
             refine pure_ (i:=24) (N:=some 62) (v:=?_) (a':=?_) #[true,true,true,true,true,true,true,true,true,true,true,true,true,true,true,true,true,true,true,true,true,true,true,true,true,false,false,false,false,false] rfl rfl (any_of HT_.out (by kernel_rfl)) (fun _ _ _ h=>h) (Or.inl ⟨by rfl,?_⟩) ?_ ?_
             rotate_left
             ·intro w'
              go_simp
              with_reducible rfl
             rotate_left
             ·simp only [Act.put,List.setIfInBounds_toArray,List.set_cons_zero,List.set_cons_succ,i64_w,i32_w]
              rfl
             refine pure_ (i:=25) (N:=some 63) (v:=?_) (a':=?_) #[true,true,true,true,true,true,true,true,true,true,true,true,true,true,true,true,true,true,true,true,true,true,true,true,true,true,false,false,false,false] rfl rfl (any_of HT_.out (by kernel_rfl)) (fun _ _ _ h=>h) (Or.inl ⟨by rfl,?_⟩) ?_ ?_
             rotate_left
             ·intro w'
              go_simp
              with_reducible rfl
             rotate_left
             ·simp only [Act.put,List.setIfInBounds_toArray,List.set_cons_zero,List.set_cons_succ,i64_w,i32_w]
              rfl
             refine pure_ (i:=26) (N:=some 64) (v:=undef) (a':=?_) #[true,true,true,true,true,true,true,true,true,true,true,true,true,true,true,true,true,true,true,true,true,true,true,true,true,true,true,false,false,false] rfl rfl (any_of HT_.out (by kernel_rfl)) (fun _ _ _ h=>h) (Or.inr ⟨by rfl,rfl⟩) ?_ ?_
             rotate_left
             ·simp only [Act.put,List.setIfInBounds_toArray,List.set_cons_zero,List.set_cons_succ,i64_w,i32_w]
              rfl
             refine pure_ (i:=27) (N:=some 65) (v:=undef) (a':=?_) #[true,true,true,true,true,true,true,true,true,true,true,true,true,true,true,true,true,true,true,true,true,true,true,true,true,true,true,true,false,false] rfl rfl (any_of HT_.out (by kernel_rfl)) (fun _ _ _ h=>h) (Or.inr ⟨by rfl,rfl⟩) ?_ ?_
             rotate_left
             ·simp only [Act.put,List.setIfInBounds_toArray,List.set_cons_zero,List.set_cons_succ,i64_w,i32_w]
              rfl
             refine pure_ (i:=28) (N:=some 66) (v:=undef) (a':=?_) #[true,true,true,true,true,true,true,true,true,true,true,true,true,true,true,true,true,true,true,true,true,true,true,true,true,true,true,true,true,false] rfl rfl (any_of HT_.out (by kernel_rfl)) (fun _ _ _ h=>h) (Or.inr ⟨by rfl,rfl⟩) ?_ ?_
             rotate_left
             ·simp only [Act.put,List.setIfInBounds_toArray,List.set_cons_zero,List.set_cons_succ,i64_w,i32_w]
              rfl
             refine pure_ (i:=29) (N:=some 67) (v:=?_) (a':=?_) #[true,true,true,true,true,true,true,true,true,true,true,true,true,true,true,true,true,true,true,true,true,true,true,true,true,true,true,true,true,true] rfl rfl (any_of HT_.out (by kernel_rfl)) (fun _ _ _ h=>h) (Or.inl ⟨by rfl,?_⟩) ?_ ?_
             rotate_left
             ·intro w'
              go_simp
              with_reducible rfl
             rotate_left
             ·simp only [Act.put,List.setIfInBounds_toArray,List.set_cons_zero,List.set_cons_succ,i64_w,i32_w]
              rfl
             refine done_ (done_of HT_.out (by kernel_rfl)) ?_
             try go_wp2
             first|go_meet|(subst hji26;go_meet)
             case rel=>first|exact ⟨_,(false),(t162),(by first|rfl|(simp;done)|(simp [*];done)),H',⟨by have:=HK1.out;have:=HJ5.out;first|omega|exact Nat.le_refl _⟩,⟨by (with_reducible repeat (first|apply Kd.S_alloc|apply Kd.S_drewN|apply Kd.S_drew));exact HO_5.out⟩,⟨by (with_reducible repeat (first|refine blk_drewN ?_ _|refine blk_drew ?_|refine blk_alloc ?_ _));exact BK163.out⟩,⟨by repeat (first|(with_reducible first|exact HI0.out|apply IsS25.alloc|apply IsS25.drewN|apply IsS25.drew|apply IsS25.set_1|refine IsS25.far ?_ NB0_163.out _)|refine IsS25.far ?_ NB0_163.out _|exact HI0.out)⟩,⟨by repeat (first|(with_reducible first|exact HK.out|apply KeepBut.set_|apply keep_drewN|apply keep_drew|apply keep_alloc|refine keep_far ?_ GW163.out _)|exact HK.out)⟩,⟨by repeat (first|(with_reducible first|exact HB.out|apply below_alloc|apply pw_below_drewN|apply below_drew1|refine below_set ?_ (IsS25.ge HI0.out)|refine below_set ?_ GE163.out)|exact HB.out)⟩⟩|((try subst hji26);exact ⟨_,(false),(t162),(by first|rfl|(simp;done)|(simp [*];done)),H',⟨by have:=HK1.out;have:=HJ5.out;first|omega|exact Nat.le_refl _⟩,⟨by (with_reducible repeat (first|apply Kd.S_alloc|apply Kd.S_drewN|apply Kd.S_drew));exact HO_5.out⟩,⟨by (with_reducible repeat (first|refine blk_drewN ?_ _|refine blk_drew ?_|refine blk_alloc ?_ _));exact BK163.out⟩,⟨by repeat (first|(with_reducible first|exact HI0.out|apply IsS25.alloc|apply IsS25.drewN|apply IsS25.drew|apply IsS25.set_1|refine IsS25.far ?_ NB0_163.out _)|refine IsS25.far ?_ NB0_163.out _|exact HI0.out)⟩,⟨by repeat (first|(with_reducible first|exact HK.out|apply KeepBut.set_|apply keep_drewN|apply keep_drew|apply keep_alloc|refine keep_far ?_ GW163.out _)|exact HK.out)⟩,⟨by repeat (first|(with_reducible first|exact HB.out|apply below_alloc|apply pw_below_drewN|apply below_drew1|refine below_set ?_ (IsS25.ge HI0.out)|refine below_set ?_ GE163.out)|exact HB.out)⟩⟩)
           ·rw [if_neg c29] at H
            have c29b0:decide (0 < ((rd_T39 x5_1 (ji26)).f1)) = false:=decide_eq_false c29
            clear c29
            have H':=Aside0.mk H
            clear H
            try go_wp2
            have n0_:Aside0 (Kd.S k39 39 (((w21.setCell ⟨gb163,0,none⟩ (.int .i64 t161)).setCell ⟨gb163,1,none⟩ (.int .i64 0)).setCell ⟨gb163,2,none⟩ (.slice none 0 0)) w.heap.size (fun k_=>k_ ≠ gb163) (.slice Ao24 x5_1.length co24) x5_1):=⟨by (with_reducible repeat (first|apply Kd.S_alloc|apply Kd.S_drewN|apply Kd.S_drew));exact Kd.S_mono (Kd.S_far (p:=⟨gb163,2,none⟩) (Kd.S_far (p:=⟨gb163,1,none⟩) (Kd.S_far (p:=⟨gb163,0,none⟩) (Kd.S_mono HO_5.out (fun k_ hk=>(⟨hk,hk.2⟩:_ ∧ k_ ≠ gb163))) (fun _ hk=>hk.2) (.int .i64 t161)) (fun _ hk=>hk.2) (.int .i64 0)) (fun _ hk=>hk.2) (.slice none 0 0)) (fun _ hk=>hk.1.2)⟩
            have n1_:Aside0 ((((w21.setCell ⟨gb163,0,none⟩ (.int .i64 t161)).setCell ⟨gb163,1,none⟩ (.int .i64 0)).setCell ⟨gb163,2,none⟩ (.slice none 0 0)).heap[gb163]? = some (.cells #[.int .i64 t161,.int .i64 0,.slice none 0 0] 39 (0,0))):=⟨by (with_reducible repeat (first|refine blk_drewN ?_ _|refine blk_drew ?_|refine blk_alloc ?_ _));refine blk_put (cs:=#[.int .i64 t161,.int .i64 0,.slice none 0 0]) ?_ 2 _ rfl;(with_reducible repeat (first|refine blk_drewN ?_ _|refine blk_drew ?_|refine blk_alloc ?_ _));refine blk_put (cs:=#[.int .i64 t161,.int .i64 0,.slice none 0 0]) ?_ 1 _ rfl;(with_reducible repeat (first|refine blk_drewN ?_ _|refine blk_drew ?_|refine blk_alloc ?_ _));refine blk_put (cs:=#[.int .i64 0,.int .i64 0,.slice none 0 0]) ?_ 0 _ rfl;(with_reducible repeat (first|refine blk_drewN ?_ _|refine blk_drew ?_|refine blk_alloc ?_ _));exact BK163.out⟩
            have n2_:Aside0 (IsS25 w0 (((w21.setCell ⟨gb163,0,none⟩ (.int .i64 t161)).setCell ⟨gb163,1,none⟩ (.int .i64 0)).setCell ⟨gb163,2,none⟩ (.slice none 0 0)) g s0_0 t162):=⟨by repeat (first|(with_reducible first|exact HI0.out|apply IsS25.alloc|apply IsS25.drewN|apply IsS25.drew|apply IsS25.set_1|refine IsS25.far ?_ NB0_163.out _)|refine IsS25.far ?_ NB0_163.out _|exact HI0.out)⟩
            have n3_:Aside0 (KeepBut w (((w21.setCell ⟨gb163,0,none⟩ (.int .i64 t161)).setCell ⟨gb163,1,none⟩ (.int .i64 0)).setCell ⟨gb163,2,none⟩ (.slice none 0 0)) g none):=⟨by repeat (first|(with_reducible first|exact HK.out|apply KeepBut.set_|apply keep_drewN|apply keep_drew|apply keep_alloc|refine keep_far ?_ GW163.out _)|exact HK.out)⟩
            have n4_:Aside0 (Below w0.heap.size w0 (((w21.setCell ⟨gb163,0,none⟩ (.int .i64 t161)).setCell ⟨gb163,1,none⟩ (.int .i64 0)).setCell ⟨gb163,2,none⟩ (.slice none 0 0))):=⟨by repeat (first|(with_reducible first|exact HB.out|apply below_alloc|apply pw_below_drewN|apply below_drew1|refine below_set ?_ (IsS25.ge HI0.out)|refine below_set ?_ GE163.out)|exact HB.out)⟩
            (try clear HO_5)
            (try clear BK163)
            (try clear HI0)
            (try clear HK)
            (try clear HB)
            generalize (((w21.setCell ⟨gb163,0,none⟩ (.int .i64 t161)).setCell ⟨gb163,1,none⟩ (.int .i64 0)).setCell ⟨gb163,2,none⟩ (.slice none 0 0)) = w37 at n0_ n1_ n2_ n3_ n4_ ⊢
            have HO_5:=n0_
            have BK163:=n1_
            have HI0:=n2_
            have HK:=n3_
            have HB:=n4_
            clear n0_ n1_ n2_ n3_ n4_
            have n0_:=Aside0.mk (Kd.S_drew HO_5.out)
            have n1_:=Aside0.mk (blk_drew BK163.out)
            have n2_:=Aside0.mk (IsS25.drew HI0.out)
            have n3_:=Aside0.mk (keep_drew HK.out)
            have n4_:=Aside0.mk (below_drew1 HB.out)
            clear HO_5
            clear BK163
            clear HI0
            clear HK
            clear HB
            have HO_5:=n0_
            have BK163:=n1_
            have HI0:=n2_
            have HK:=n3_
            have HB:=n4_
            clear n0_ n1_ n2_ n3_ n4_
            have p164:0 ≤ ((ji26):Int):=of_decide_eq_true (by first|(with_reducible assumption)|assumption)
            have q164:(ji26) < (x5_1.length:Int):=of_decide_eq_true (by first|(with_reducible assumption)|assumption)
            obtain ⟨ad164,A164_2,c164_2,e164,hx164_0,hx164_1,hx164_2,hl164_2,hi164_2⟩:=at_T39 (Kd.S_reads' HO_5.out).2.2 (ji26) p164 q164
            cases e164
            obtain ⟨ce164,hce164,hMe164,hcc164⟩:=Kd.S_get HO_5.out z39 (ji26) p164 (by first|exact q164|exact of_decide_eq_true (by first|(with_reducible assumption)|assumption)|(have e_:=(Kd.S_reads' HO_5.out).1;omega))
            obtain ⟨ve164_2,rfl,ge164_2⟩:=k39_openM hMe164
            have hv164_2:=hcc164 2 _ rfl
            rw [add_field _ _ 2 (by omega)] at hv164_2
            replace hv164_2:=Option.some.inj (hv164_2.symm.trans hx164_2)
            rw [hv164_2] at ge164_2
            have HL164_2:=Aside0.mk (show Kd.R (Kd.int .u8) 5 _ _ _ _ ((rd_T39 x5_1 (ji26)).f2) from ge164_2)
            clear hv164_2 ge164_2
            clear hcc164 hce164
            have HR164_2:=Aside0.mk hi164_2
            have HC164_2:=Aside0.mk hl164_2
            clear hi164_2 hl164_2
            replace p164:=eq_true p164
            replace q164:=eq_true q164
            refine start_ (n:=30) (S:=fun w'=>w'.cell? (ad164.add (((ji26)).toNat * 3)) = some (.int .i64 ((rd_T39 x5_1 (ji26)).f0)) ∧ w'.cell? ⟨(ad164.add (((ji26)).toNat * 3)).block,(ad164.add (((ji26)).toNat * 3)).off + 1,none⟩ = some (.int .i64 ((rd_T39 x5_1 (ji26)).f1)) ∧ w'.cell? ⟨(ad164.add (((ji26)).toNat * 3)).block,(ad164.add (((ji26)).toNat * 3)).off + 2,none⟩ = some (.slice A164_2 ((rd_T39 x5_1 (ji26)).f2).length c164_2)) (ds:=[]) #[false,false,false,false,false,false,false,false,false,false,false,false,false,false,false,false,false,false,false,false,false,false,false,false,false,false,false,false,false,false] (by kernel_rfl) rfl rfl ⟨hx164_0,hx164_1,hx164_2⟩ (fun hHeld=>?_);refine with_tabW law26_made.tab9 law26_made.bits9 (fun HT_ HW_=>?_)
            generalize w37.drew = w38 at HO_5 BK163 HI0 HK HB HL164_2 HR164_2 hx164_0 hx164_1 hx164_2 hHeld ⊢
            refine pure_ (i:=0) (N:=some 38) (v:=?_) (a':=?_) #[true,false,false,false,false,false,false,false,false,false,false,false,false,false,false,false,false,false,false,false,false,false,false,false,false,false,false,false,false,false] rfl rfl (any_of HT_.out (by kernel_rfl)) (fun _ _ _ h=>h) (Or.inl ⟨by rfl,?_⟩) ?_ ?_
            rotate_left
            ·intro w'
             go_simp
             with_reducible rfl
            rotate_left
            ·simp only [Act.put,List.setIfInBounds_toArray,List.set_cons_zero,List.set_cons_succ,i64_w,i32_w]
             rfl
            refine pure_ (i:=1) (N:=some 39) (v:=?_) (a':=?_) #[true,true,false,false,false,false,false,false,false,false,false,false,false,false,false,false,false,false,false,false,false,false,false,false,false,false,false,false,false,false] rfl rfl (any_of HT_.out (by kernel_rfl)) (fun _ _ _ h=>h) (Or.inl ⟨by rfl,?_⟩) ?_ ?_
            rotate_left
            ·intro w'
             go_simp
             with_reducible rfl
            rotate_left
            ·simp only [Act.put,List.setIfInBounds_toArray,List.set_cons_zero,List.set_cons_succ,i64_w,i32_w]
             rfl
            refine pure_ (i:=2) (N:=some 40) (v:=?_) (a':=?_) #[true,true,true,false,false,false,false,false,false,false,false,false,false,false,false,false,false,false,false,false,false,false,false,false,false,false,false,false,false,false] rfl rfl (any_of HT_.out (by kernel_rfl)) (fun _ _ _ h=>h) (Or.inl ⟨by rfl,?_⟩) ?_ ?_
            rotate_left
            ·intro w'
             go_simp
             with_reducible rfl
            rotate_left
            ·simp only [Act.put,List.setIfInBounds_toArray,List.set_cons_zero,List.set_cons_succ,i64_w,i32_w]
             rfl
            refine pure_ (i:=3) (N:=some 41) (v:=?_) (a':=?_) #[true,true,true,true,false,false,false,false,false,false,false,false,false,false,false,false,false,false,false,false,false,false,false,false,false,false,false,false,false,false] rfl rfl (any_of HT_.out (by kernel_rfl)) (fun _ _ _ h=>h) (Or.inl ⟨by rfl,?_⟩) ?_ ?_
            rotate_left
            ·intro w'
             go_simp
             with_reducible rfl
            rotate_left
            ·simp only [Act.put,List.setIfInBounds_toArray,List.set_cons_zero,List.set_cons_succ,i64_w,i32_w]
             rfl
            refine pure_ (i:=4) (N:=some 42) (v:=?_) (a':=?_) #[true,true,true,true,true,false,false,false,false,false,false,false,false,false,false,false,false,false,false,false,false,false,false,false,false,false,false,false,false,false] rfl rfl (any_of HT_.out (by kernel_rfl)) (fun _ _ _ h=>h) (Or.inl ⟨by rfl,?_⟩) ?_ ?_
            rotate_left
            ·intro w'
             go_simp
             with_reducible rfl
            rotate_left
            ·simp only [Act.put,List.setIfInBounds_toArray,List.set_cons_zero,List.set_cons_succ,i64_w,i32_w]
             rfl
            refine pure_ (i:=5) (N:=some 43) (v:=?_) (a':=?_) #[true,true,true,true,true,true,false,false,false,false,false,false,false,false,false,false,false,false,false,false,false,false,false,false,false,false,false,false,false,false] rfl rfl (any_of HT_.out (by kernel_rfl)) (fun _ _ _ h=>h) (Or.inl ⟨by rfl,?_⟩) ?_ ?_
            rotate_left
            ·intro w'
             go_simp
             with_reducible rfl
            rotate_left
            ·simp only [Act.put,List.setIfInBounds_toArray,List.set_cons_zero,List.set_cons_succ,i64_w,i32_w]
             rfl
            refine pure_ (i:=6) (N:=some 44) (v:=?_) (a':=?_) #[true,true,true,true,true,true,true,false,false,false,false,false,false,false,false,false,false,false,false,false,false,false,false,false,false,false,false,false,false,false] rfl rfl (any_of HT_.out (by kernel_rfl)) (fun _ _ _ h=>h) (Or.inl ⟨by rfl,?_⟩) ?_ ?_
            rotate_left
            ·intro w'
             go_simp
             with_reducible rfl
            rotate_left
            ·simp only [Act.put,List.setIfInBounds_toArray,List.set_cons_zero,List.set_cons_succ,i64_w,i32_w]
             rfl
            refine take_ (i:=7) (N:=some 45) (v:=?_) (a':=?_) #[true,true,true,true,true,true,true,true,false,false,false,false,false,false,false,false,false,false,false,false,false,false,false,false,false,false,false,false,false,false] rfl rfl (take_ofW HT_.out HW_.out (by kernel_rfl)) (fun _ _ _ h=>h) (Or.inl ⟨by rfl,?_⟩) hHeld ?_ ?_
            rotate_left
            ·rintro w' ⟨s0,s1,s2⟩
             go_simp
             with_reducible rfl
            rotate_left
            ·simp only [Act.put,List.setIfInBounds_toArray,List.set_cons_zero,List.set_cons_succ,i64_w,i32_w]
             rfl
            refine pure_ (i:=8) (N:=some 46) (v:=?_) (a':=?_) #[true,true,true,true,true,true,true,true,true,false,false,false,false,false,false,false,false,false,false,false,false,false,false,false,false,false,false,false,false,false] rfl rfl (any_of HT_.out (by kernel_rfl)) (fun _ _ _ h=>h) (Or.inl ⟨by rfl,?_⟩) ?_ ?_
            rotate_left
            ·intro w'
             go_simp
             with_reducible rfl
            rotate_left
            ·simp only [Act.put,List.setIfInBounds_toArray,List.set_cons_zero,List.set_cons_succ,i64_w,i32_w]
             rfl
            refine pure_ (i:=9) (N:=some 47) (v:=?_) (a':=?_) #[true,true,true,true,true,true,true,true,true,true,false,false,false,false,false,false,false,false,false,false,false,false,false,false,false,false,false,false,false,false] rfl rfl (any_of HT_.out (by kernel_rfl)) (fun _ _ _ h=>h) (Or.inl ⟨by rfl,?_⟩) ?_ ?_
            rotate_left
            ·intro w'
             go_simp
             with_reducible rfl
            rotate_left
            ·simp only [Act.put,List.setIfInBounds_toArray,List.set_cons_zero,List.set_cons_succ,i64_w,i32_w]
             rfl
            refine pure_ (i:=10) (N:=some 48) (v:=?_) (a':=?_) #[true,true,true,true,true,true,true,true,true,true,true,false,false,false,false,false,false,false,false,false,false,false,false,false,false,false,false,false,false,false] rfl rfl (any_of HT_.out (by kernel_rfl)) (fun _ _ _ h=>h) (Or.inl ⟨by rfl,?_⟩) ?_ ?_
            rotate_left
            ·intro w'
             go_simp
             with_reducible rfl
            rotate_left
            ·simp only [Act.put,List.setIfInBounds_toArray,List.set_cons_zero,List.set_cons_succ,i64_w,i32_w]
             rfl
            refine pure_ (i:=11) (N:=some 49) (v:=undef) (a':=?_) #[true,true,true,true,true,true,true,true,true,true,true,true,false,false,false,false,false,false,false,false,false,false,false,false,false,false,false,false,false,false] rfl rfl (any_of HT_.out (by kernel_rfl)) (fun _ _ _ h=>h) (Or.inr ⟨by rfl,rfl⟩) ?_ ?_
            rotate_left
            ·simp only [Act.put,List.setIfInBounds_toArray,List.set_cons_zero,List.set_cons_succ,i64_w,i32_w]
             rfl
            refine pure_ (i:=12) (N:=some 50) (v:=undef) (a':=?_) #[true,true,true,true,true,true,true,true,true,true,true,true,true,false,false,false,false,false,false,false,false,false,false,false,false,false,false,false,false,false] rfl rfl (any_of HT_.out (by kernel_rfl)) (fun _ _ _ h=>h) (Or.inr ⟨by rfl,rfl⟩) ?_ ?_
            rotate_left
            ·simp only [Act.put,List.setIfInBounds_toArray,List.set_cons_zero,List.set_cons_succ,i64_w,i32_w]
             rfl
            refine pure_ (i:=13) (N:=some 51) (v:=undef) (a':=?_) #[true,true,true,true,true,true,true,true,true,true,true,true,true,true,false,false,false,false,false,false,false,false,false,false,false,false,false,false,false,false] rfl rfl (any_of HT_.out (by kernel_rfl)) (fun _ _ _ h=>h) (Or.inr ⟨by rfl,rfl⟩) ?_ ?_
            rotate_left
            ·simp only [Act.put,List.setIfInBounds_toArray,List.set_cons_zero,List.set_cons_succ,i64_w,i32_w]
             rfl
            refine pure_ (i:=14) (N:=some 52) (v:=undef) (a':=?_) #[true,true,true,true,true,true,true,true,true,true,true,true,true,true,true,false,false,false,false,false,false,false,false,false,false,false,false,false,false,false] rfl rfl (any_of HT_.out (by kernel_rfl)) (fun _ _ _ h=>h) (Or.inr ⟨by rfl,rfl⟩) ?_ ?_
            rotate_left
            ·simp only [Act.put,List.setIfInBounds_toArray,List.set_cons_zero,List.set_cons_succ,i64_w,i32_w]
             rfl
            refine pure_ (i:=15) (N:=some 53) (v:=undef) (a':=?_) #[true,true,true,true,true,true,true,true,true,true,true,true,true,true,true,true,false,false,false,false,false,false,false,false,false,false,false,false,false,false] rfl rfl (any_of HT_.out (by kernel_rfl)) (fun _ _ _ h=>h) (Or.inr ⟨by rfl,rfl⟩) ?_ ?_
            rotate_left
            ·simp only [Act.put,List.setIfInBounds_toArray,List.set_cons_zero,List.set_cons_succ,i64_w,i32_w]
             rfl
            refine pure_ (i:=16) (N:=some 54) (v:=undef) (a':=?_) #[true,true,true,true,true,true,true,true,true,true,true,true,true,true,true,true,true,false,false,false,false,false,false,false,false,false,false,false,false,false] rfl rfl (any_of HT_.out (by kernel_rfl)) (fun _ _ _ h=>h) (Or.inr ⟨by rfl,rfl⟩) ?_ ?_
            rotate_left
            ·simp only [Act.put,List.setIfInBounds_toArray,List.set_cons_zero,List.set_cons_succ,i64_w,i32_w]
             rfl
            refine pure_ (i:=17) (N:=some 55) (v:=undef) (a':=?_) #[true,true,true,true,true,true,true,true,true,true,true,true,true,true,true,true,true,true,false,false,false,false,false,false,false,false,false,false,false,false] rfl rfl (any_of HT_.out (by kernel_rfl)) (fun _ _ _ h=>h) (Or.inr ⟨by rfl,rfl⟩) ?_ ?_
            rotate_left
            ·simp only [Act.put,List.setIfInBounds_toArray,List.set_cons_zero,List.set_cons_succ,i64_w,i32_w]
             rfl
            refine pure_ (i:=18) (N:=some 56) (v:=undef) (a':=?_) #[true,true,true,true,true,true,true,true,true,true,true,true,true,true,true,true,true,true,true,false,false,false,false,false,false,false,false,false,false,false] rfl rfl (any_of HT_.out (by kernel_rfl)) (fun _ _ _ h=>h) (Or.inr ⟨by rfl,rfl⟩) ?_ ?_
            rotate_left
            ·simp only [Act.put,List.setIfInBounds_toArray,List.set_cons_zero,List.set_cons_succ,i64_w,i32_w]
             rfl
            refine pure_ (i:=19) (N:=some 57) (v:=undef) (a':=?_) #[true,true,true,true,true,true,true,true,true,true,true,true,true,true,true,true,true,true,true,true,false,false,false,false,false,false,false,false,false,false] rfl rfl (any_of HT_.out (by kernel_rfl)) (fun _ _ _ h=>h) (Or.inr ⟨by rfl,rfl⟩) ?_ ?_
            rotate_left
            ·simp only [Act.put,List.setIfInBounds_toArray,List.set_cons_zero,List.set_cons_succ,i64_w,i32_w]
             rfl
            refine pure_ (i:=20) (N:=some 58) (v:=undef) (a':=?_) #[true,true,true,true,true,true,true,true,true,true,true,true,true,true,true,true,true,true,true,true,true,false,false,false,false,false,false,false,false,false] rfl rfl (any_of HT_.out (by kernel_rfl)) (fun _ _ _ h=>h) (Or.inr ⟨by rfl,rfl⟩) ?_ ?_
            rotate_left
            ·simp only [Act.put,List.setIfInBounds_toArray,List.set_cons_zero,List.set_cons_succ,i64_w,i32_w]
             rfl
            refine pure_ (i:=21) (N:=some 59) (v:=undef) (a':=?_) #[true,true,true,true,true,true,true,true,true,true,true,true,true,true,true,true,true,true,true,true,true,true,false,false,false,false,false,false,false,false] rfl rfl (any_of HT_.out (by kernel_rfl)) (fun _ _ _ h=>h) (Or.inr ⟨by rfl,rfl⟩) ?_ ?_
            rotate_left
            ·simp only [Act.put,List.setIfInBounds_toArray,List.set_cons_zero,List.set_cons_succ,i64_w,i32_w]
             rfl
            refine pure_ (i:=22) (N:=some 60) (v:=undef) (a':=?_) #[true,true,true,true,true,true,true,true,true,true,true,true,true,true,true,true,true,true,true,true,true,true,true,false,false,false,false,false,false,false] rfl rfl (any_of HT_.out (by kernel_rfl)) (fun _ _ _ h=>h) (Or.inr ⟨by rfl,rfl⟩) ?_ ?_
            rotate_left
            ·simp only [Act.put,List.setIfInBounds_toArray,List.set_cons_zero,List.set_cons_succ,i64_w,i32_w]
             rfl
            refine pure_ (i:=23) (N:=some 61) (v:=undef) (a':=?_) #[true,true,true,true,true,true,true,true,true,true,true,true,true,true,true,true,true,true,true,true,true,true,true,true,false,false,false,false,false,false] rfl rfl (any_of HT_.out (by kernel_rfl)) (fun _ _ _ h=>h) (Or.inr ⟨by rfl,rfl⟩) ?_ ?_
            rotate_left
            ·simp only [Act.put,List.setIfInBounds_toArray,List.set_cons_zero,List.set_cons_succ,i64_w,i32_w]
             rfl
            refine pure_ (i:=24) (N:=some 62) (v:=?_) (a':=?_) #[true,true,true,true,true,true,true,true,true,true,true,true,true,true,true,true,true,true,true,true,true,true,true,true,true,false,false,false,false,false] rfl rfl (any_of HT_.out (by kernel_rfl)) (fun _ _ _ h=>h) (Or.inl ⟨by rfl,?_⟩) ?_ ?_
            rotate_left
            ·intro w'
             go_simp
             with_reducible rfl
            rotate_left
            ·simp only [Act.put,List.setIfInBounds_toArray,List.set_cons_zero,List.set_cons_succ,i64_w,i32_w]
             rfl
            refine pure_ (i:=25) (N:=some 63) (v:=?_) (a':=?_) #[true,true,true,true,true,true,true,true,true,true,true,true,true,true,true,true,true,true,true,true,true,true,true,true,true,true,false,false,false,false] rfl rfl (any_of HT_.out (by kernel_rfl)) (fun _ _ _ h=>h) (Or.inl ⟨by rfl,?_⟩) ?_ ?_
            rotate_left
            ·intro w'
             go_simp
             with_reducible rfl
            rotate_left
            ·simp only [Act.put,List.setIfInBounds_toArray,List.set_cons_zero,List.set_cons_succ,i64_w,i32_w]
             rfl
            refine pure_ (i:=26) (N:=some 64) (v:=undef) (a':=?_) #[true,true,true,true,true,true,true,true,true,true,true,true,true,true,true,true,true,true,true,true,true,true,true,true,true,true,true,false,false,false] rfl rfl (any_of HT_.out (by kernel_rfl)) (fun _ _ _ h=>h) (Or.inr ⟨by rfl,rfl⟩) ?_ ?_
            rotate_left
            ·simp only [Act.put,List.setIfInBounds_toArray,List.set_cons_zero,List.set_cons_succ,i64_w,i32_w]
             rfl
            refine pure_ (i:=27) (N:=some 65) (v:=undef) (a':=?_) #[true,true,true,true,true,true,true,true,true,true,true,true,true,true,true,true,true,true,true,true,true,true,true,true,true,true,true,true,false,false] rfl rfl (any_of HT_.out (by kernel_rfl)) (fun _ _ _ h=>h) (Or.inr ⟨by rfl,rfl⟩) ?_ ?_
            rotate_left
            ·simp only [Act.put,List.setIfInBounds_toArray,List.set_cons_zero,List.set_cons_succ,i64_w,i32_w]
             rfl
            refine pure_ (i:=28) (N:=some 66) (v:=undef) (a':=?_) #[true,true,true,true,true,true,true,true,true,true,true,true,true,true,true,true,true,true,true,true,true,true,true,true,true,true,true,true,true,false] rfl rfl (any_of HT_.out (by kernel_rfl)) (fun _ _ _ h=>h) (Or.inr ⟨by rfl,rfl⟩) ?_ ?_
            rotate_left
            ·simp only [Act.put,List.setIfInBounds_toArray,List.set_cons_zero,List.set_cons_succ,i64_w,i32_w]
             rfl
            refine pure_ (i:=29) (N:=some 67) (v:=?_) (a':=?_) #[true,true,true,true,true,true,true,true,true,true,true,true,true,true,true,true,true,true,true,true,true,true,true,true,true,true,true,true,true,true] rfl rfl (any_of HT_.out (by kernel_rfl)) (fun _ _ _ h=>h) (Or.inl ⟨by rfl,?_⟩) ?_ ?_
            rotate_left
            ·intro w'
             go_simp
             with_reducible rfl
            rotate_left
            ·simp only [Act.put,List.setIfInBounds_toArray,List.set_cons_zero,List.set_cons_succ,i64_w,i32_w]
             rfl
            refine done_ (done_of HT_.out (by kernel_rfl)) ?_
            try go_wp2
            first|go_meet|(subst hji26;go_meet)
            case rel=>first|exact ⟨_,(false),(t162),(by first|rfl|(simp;done)|(simp [*];done)),H',⟨by have:=HK1.out;have:=HJ5.out;first|omega|exact Nat.le_refl _⟩,⟨by (with_reducible repeat (first|apply Kd.S_alloc|apply Kd.S_drewN|apply Kd.S_drew));exact HO_5.out⟩,⟨by (with_reducible repeat (first|refine blk_drewN ?_ _|refine blk_drew ?_|refine blk_alloc ?_ _));exact BK163.out⟩,⟨by repeat (first|(with_reducible first|exact HI0.out|apply IsS25.alloc|apply IsS25.drewN|apply IsS25.drew|apply IsS25.set_1|refine IsS25.far ?_ NB0_163.out _)|refine IsS25.far ?_ NB0_163.out _|exact HI0.out)⟩,⟨by repeat (first|(with_reducible first|exact HK.out|apply KeepBut.set_|apply keep_drewN|apply keep_drew|apply keep_alloc|refine keep_far ?_ GW163.out _)|exact HK.out)⟩,⟨by repeat (first|(with_reducible first|exact HB.out|apply below_alloc|apply pw_below_drewN|apply below_drew1|refine below_set ?_ (IsS25.ge HI0.out)|refine below_set ?_ GE163.out)|exact HB.out)⟩⟩|((try subst hji26);exact ⟨_,(false),(t162),(by first|rfl|(simp;done)|(simp [*];done)),H',⟨by have:=HK1.out;have:=HJ5.out;first|omega|exact Nat.le_refl _⟩,⟨by (with_reducible repeat (first|apply Kd.S_alloc|apply Kd.S_drewN|apply Kd.S_drew));exact HO_5.out⟩,⟨by (with_reducible repeat (first|refine blk_drewN ?_ _|refine blk_drew ?_|refine blk_alloc ?_ _));exact BK163.out⟩,⟨by repeat (first|(with_reducible first|exact HI0.out|apply IsS25.alloc|apply IsS25.drewN|apply IsS25.drew|apply IsS25.set_1|refine IsS25.far ?_ NB0_163.out _)|refine IsS25.far ?_ NB0_163.out _|exact HI0.out)⟩,⟨by repeat (first|(with_reducible first|exact HK.out|apply KeepBut.set_|apply keep_drewN|apply keep_drew|apply keep_alloc|refine keep_far ?_ GW163.out _)|exact HK.out)⟩,⟨by repeat (first|(with_reducible first|exact HB.out|apply below_alloc|apply pw_below_drewN|apply below_drew1|refine below_set ?_ (IsS25.ge HI0.out)|refine below_set ?_ GE163.out)|exact HB.out)⟩⟩)
          ·rw [if_neg c28] at H
           exact absurd H (by simp)
         ·rw [if_neg c27] at H
          exact absurd H (by simp)
        ·rw [if_neg c25] at H
         have c25b0:decide (0 ≤ (wrap64 ((x5_1.length:Int) - 1))) = false:=decide_eq_false c25
         clear c25
         (first|rw [c25b0]|(simp only [i64_w,i32_w];rw [c25b0])|skip)
         have H':=Aside0.mk H
         clear H
         try go_wp2
         have n0_:Aside0 (Kd.S k39 39 (((w21.setCell ⟨gb163,0,none⟩ (.int .i64 t161)).setCell ⟨gb163,1,none⟩ (.int .i64 0)).setCell ⟨gb163,2,none⟩ (.slice none 0 0)) w.heap.size (fun k_=>k_ ≠ gb163) (.slice Ao24 x5_1.length co24) x5_1):=⟨by (with_reducible repeat (first|apply Kd.S_alloc|apply Kd.S_drewN|apply Kd.S_drew));exact Kd.S_mono (Kd.S_far (p:=⟨gb163,2,none⟩) (Kd.S_far (p:=⟨gb163,1,none⟩) (Kd.S_far (p:=⟨gb163,0,none⟩) (Kd.S_mono HO_5.out (fun k_ hk=>(⟨hk,hk.2⟩:_ ∧ k_ ≠ gb163))) (fun _ hk=>hk.2) (.int .i64 t161)) (fun _ hk=>hk.2) (.int .i64 0)) (fun _ hk=>hk.2) (.slice none 0 0)) (fun _ hk=>hk.1.2)⟩
         have n1_:Aside0 ((((w21.setCell ⟨gb163,0,none⟩ (.int .i64 t161)).setCell ⟨gb163,1,none⟩ (.int .i64 0)).setCell ⟨gb163,2,none⟩ (.slice none 0 0)).heap[gb163]? = some (.cells #[.int .i64 t161,.int .i64 0,.slice none 0 0] 39 (0,0))):=⟨by (with_reducible repeat (first|refine blk_drewN ?_ _|refine blk_drew ?_|refine blk_alloc ?_ _));refine blk_put (cs:=#[.int .i64 t161,.int .i64 0,.slice none 0 0]) ?_ 2 _ rfl;(with_reducible repeat (first|refine blk_drewN ?_ _|refine blk_drew ?_|refine blk_alloc ?_ _));refine blk_put (cs:=#[.int .i64 t161,.int .i64 0,.slice none 0 0]) ?_ 1 _ rfl;(with_reducible repeat (first|refine blk_drewN ?_ _|refine blk_drew ?_|refine blk_alloc ?_ _));refine blk_put (cs:=#[.int .i64 0,.int .i64 0,.slice none 0 0]) ?_ 0 _ rfl;(with_reducible repeat (first|refine blk_drewN ?_ _|refine blk_drew ?_|refine blk_alloc ?_ _));exact BK163.out⟩
         have n2_:Aside0 (IsS25 w0 (((w21.setCell ⟨gb163,0,none⟩ (.int .i64 t161)).setCell ⟨gb163,1,none⟩ (.int .i64 0)).setCell ⟨gb163,2,none⟩ (.slice none 0 0)) g s0_0 t162):=⟨by repeat (first|(with_reducible first|exact HI0.out|apply IsS25.alloc|apply IsS25.drewN|apply IsS25.drew|apply IsS25.set_1|refine IsS25.far ?_ NB0_163.out _)|refine IsS25.far ?_ NB0_163.out _|exact HI0.out)⟩
         have n3_:Aside0 (KeepBut w (((w21.setCell ⟨gb163,0,none⟩ (.int .i64 t161)).setCell ⟨gb163,1,none⟩ (.int .i64 0)).setCell ⟨gb163,2,none⟩ (.slice none 0 0)) g none):=⟨by repeat (first|(with_reducible first|exact HK.out|apply KeepBut.set_|apply keep_drewN|apply keep_drew|apply keep_alloc|refine keep_far ?_ GW163.out _)|exact HK.out)⟩
         have n4_:Aside0 (Below w0.heap.size w0 (((w21.setCell ⟨gb163,0,none⟩ (.int .i64 t161)).setCell ⟨gb163,1,none⟩ (.int .i64 0)).setCell ⟨gb163,2,none⟩ (.slice none 0 0))):=⟨by repeat (first|(with_reducible first|exact HB.out|apply below_alloc|apply pw_below_drewN|apply below_drew1|refine below_set ?_ (IsS25.ge HI0.out)|refine below_set ?_ GE163.out)|exact HB.out)⟩
         (try clear HO_5)
         (try clear BK163)
         (try clear HI0)
         (try clear HK)
         (try clear HB)
         generalize (((w21.setCell ⟨gb163,0,none⟩ (.int .i64 t161)).setCell ⟨gb163,1,none⟩ (.int .i64 0)).setCell ⟨gb163,2,none⟩ (.slice none 0 0)) = w39 at n0_ n1_ n2_ n3_ n4_ ⊢
         have HO_5:=n0_
         have BK163:=n1_
         have HI0:=n2_
         have HK:=n3_
         have HB:=n4_
         clear n0_ n1_ n2_ n3_ n4_
         have n0_:=Aside0.mk (Kd.S_drew HO_5.out)
         have n1_:=Aside0.mk (blk_drew BK163.out)
         have n2_:=Aside0.mk (IsS25.drew HI0.out)
         have n3_:=Aside0.mk (keep_drew HK.out)
         have n4_:=Aside0.mk (below_drew1 HB.out)
         clear HO_5
         clear BK163
         clear HI0
         clear HK
         clear HB
         have HO_5:=n0_
         have BK163:=n1_
         have HI0:=n2_
         have HK:=n3_
         have HB:=n4_
         clear n0_ n1_ n2_ n3_ n4_
         refine start_ (n:=30) (S:=fun w'=>True) (ds:=[]) #[false,false,false,false,false,false,false,false,false,false,false,false,false,false,false,false,false,false,false,false,false,false,false,false,false,false,false,false,false,false] (by kernel_rfl) rfl rfl trivial (fun hHeld=>?_);refine with_tabW law26_made.tab9 law26_made.bits9 (fun HT_ HW_=>?_)
         generalize w39.drew = w40 at HO_5 BK163 HI0 HK HB hHeld ⊢
         refine pure_ (i:=0) (N:=some 38) (v:=?_) (a':=?_) #[true,false,false,false,false,false,false,false,false,false,false,false,false,false,false,false,false,false,false,false,false,false,false,false,false,false,false,false,false,false] rfl rfl (any_of HT_.out (by kernel_rfl)) (fun _ _ _ h=>h) (Or.inl ⟨by rfl,?_⟩) ?_ ?_
         rotate_left
         ·intro w'
          go_simp
          with_reducible rfl
         rotate_left
         ·simp only [Act.put,List.setIfInBounds_toArray,List.set_cons_zero,List.set_cons_succ,i64_w,i32_w]
          rfl
         refine pure_ (i:=1) (N:=some 39) (v:=?_) (a':=?_) #[true,true,false,false,false,false,false,false,false,false,false,false,false,false,false,false,false,false,false,false,false,false,false,false,false,false,false,false,false,false] rfl rfl (any_of HT_.out (by kernel_rfl)) (fun _ _ _ h=>h) (Or.inl ⟨by rfl,?_⟩) ?_ ?_
         rotate_left
         ·intro w'
          go_simp
          with_reducible rfl
         rotate_left
         ·simp only [Act.put,List.setIfInBounds_toArray,List.set_cons_zero,List.set_cons_succ,i64_w,i32_w]
          rfl
         refine pure_ (i:=2) (N:=some 40) (v:=?_) (a':=?_) #[true,true,true,false,false,false,false,false,false,false,false,false,false,false,false,false,false,false,false,false,false,false,false,false,false,false,false,false,false,false] rfl rfl (any_of HT_.out (by kernel_rfl)) (fun _ _ _ h=>h) (Or.inl ⟨by rfl,?_⟩) ?_ ?_
         rotate_left
         ·intro w'
          go_simp
          with_reducible rfl
         rotate_left
         ·simp only [Act.put,List.setIfInBounds_toArray,List.set_cons_zero,List.set_cons_succ,i64_w,i32_w]
          rfl
         refine pure_ (i:=3) (N:=some 41) (v:=undef) (a':=?_) #[true,true,true,true,false,false,false,false,false,false,false,false,false,false,false,false,false,false,false,false,false,false,false,false,false,false,false,false,false,false] rfl rfl (any_of HT_.out (by kernel_rfl)) (fun _ _ _ h=>h) (Or.inr ⟨by rfl,rfl⟩) ?_ ?_
         rotate_left
         ·simp only [Act.put,List.setIfInBounds_toArray,List.set_cons_zero,List.set_cons_succ,i64_w,i32_w]
          rfl
         refine pure_ (i:=4) (N:=some 42) (v:=undef) (a':=?_) #[true,true,true,true,true,false,false,false,false,false,false,false,false,false,false,false,false,false,false,false,false,false,false,false,false,false,false,false,false,false] rfl rfl (any_of HT_.out (by kernel_rfl)) (fun _ _ _ h=>h) (Or.inr ⟨by rfl,rfl⟩) ?_ ?_
         rotate_left
         ·simp only [Act.put,List.setIfInBounds_toArray,List.set_cons_zero,List.set_cons_succ,i64_w,i32_w]
          rfl
         refine pure_ (i:=5) (N:=some 43) (v:=undef) (a':=?_) #[true,true,true,true,true,true,false,false,false,false,false,false,false,false,false,false,false,false,false,false,false,false,false,false,false,false,false,false,false,false] rfl rfl (any_of HT_.out (by kernel_rfl)) (fun _ _ _ h=>h) (Or.inr ⟨by rfl,rfl⟩) ?_ ?_
         rotate_left
         ·simp only [Act.put,List.setIfInBounds_toArray,List.set_cons_zero,List.set_cons_succ,i64_w,i32_w]
          rfl
         refine pure_ (i:=6) (N:=some 44) (v:=undef) (a':=?_) #[true,true,true,true,true,true,true,false,false,false,false,false,false,false,false,false,false,false,false,false,false,false,false,false,false,false,false,false,false,false] rfl rfl (any_of HT_.out (by kernel_rfl)) (fun _ _ _ h=>h) (Or.inr ⟨by rfl,rfl⟩) ?_ ?_
         rotate_left
         ·simp only [Act.put,List.setIfInBounds_toArray,List.set_cons_zero,List.set_cons_succ,i64_w,i32_w]
          rfl
         refine pure_ (i:=7) (N:=some 45) (v:=undef) (a':=?_) #[true,true,true,true,true,true,true,true,false,false,false,false,false,false,false,false,false,false,false,false,false,false,false,false,false,false,false,false,false,false] rfl rfl (any_of HT_.out (by kernel_rfl)) (fun _ _ _ h=>h) (Or.inr ⟨by rfl,rfl⟩) ?_ ?_
         rotate_left
         ·simp only [Act.put,List.setIfInBounds_toArray,List.set_cons_zero,List.set_cons_succ,i64_w,i32_w]
          rfl
         refine pure_ (i:=8) (N:=some 46) (v:=undef) (a':=?_) #[true,true,true,true,true,true,true,true,true,false,false,false,false,false,false,false,false,false,false,false,false,false,false,false,false,false,false,false,false,false] rfl rfl (any_of HT_.out (by kernel_rfl)) (fun _ _ _ h=>h) (Or.inr ⟨by rfl,rfl⟩) ?_ ?_
         rotate_left
         ·simp only [Act.put,List.setIfInBounds_toArray,List.set_cons_zero,List.set_cons_succ,i64_w,i32_w]
          rfl
         refine pure_ (i:=9) (N:=some 47) (v:=?_) (a':=?_) #[true,true,true,true,true,true,true,true,true,true,false,false,false,false,false,false,false,false,false,false,false,false,false,false,false,false,false,false,false,false] rfl rfl (any_of HT_.out (by kernel_rfl)) (fun _ _ _ h=>h) (Or.inl ⟨by rfl,?_⟩) ?_ ?_
         rotate_left
         ·intro w'
          go_simp
          with_reducible rfl
         rotate_left
         ·simp only [Act.put,List.setIfInBounds_toArray,List.set_cons_zero,List.set_cons_succ,i64_w,i32_w]
          rfl
         refine pure_ (i:=10) (N:=some 48) (v:=?_) (a':=?_) #[true,true,true,true,true,true,true,true,true,true,true,false,false,false,false,false,false,false,false,false,false,false,false,false,false,false,false,false,false,false] rfl rfl (any_of HT_.out (by kernel_rfl)) (fun _ _ _ h=>h) (Or.inl ⟨by rfl,?_⟩) ?_ ?_
         rotate_left
         ·intro w'
          go_simp
          with_reducible rfl
         rotate_left
         ·simp only [Act.put,List.setIfInBounds_toArray,List.set_cons_zero,List.set_cons_succ,i64_w,i32_w]
          rfl
         refine pure_ (i:=11) (N:=some 49) (v:=undef) (a':=?_) #[true,true,true,true,true,true,true,true,true,true,true,true,false,false,false,false,false,false,false,false,false,false,false,false,false,false,false,false,false,false] rfl rfl (any_of HT_.out (by kernel_rfl)) (fun _ _ _ h=>h) (Or.inr ⟨by rfl,rfl⟩) ?_ ?_
         rotate_left
         ·simp only [Act.put,List.setIfInBounds_toArray,List.set_cons_zero,List.set_cons_succ,i64_w,i32_w]
          rfl
         refine pure_ (i:=12) (N:=some 50) (v:=undef) (a':=?_) #[true,true,true,true,true,true,true,true,true,true,true,true,true,false,false,false,false,false,false,false,false,false,false,false,false,false,false,false,false,false] rfl rfl (any_of HT_.out (by kernel_rfl)) (fun _ _ _ h=>h) (Or.inr ⟨by rfl,rfl⟩) ?_ ?_
         rotate_left
         ·simp only [Act.put,List.setIfInBounds_toArray,List.set_cons_zero,List.set_cons_succ,i64_w,i32_w]
          rfl
         refine pure_ (i:=13) (N:=some 51) (v:=undef) (a':=?_) #[true,true,true,true,true,true,true,true,true,true,true,true,true,true,false,false,false,false,false,false,false,false,false,false,false,false,false,false,false,false] rfl rfl (any_of HT_.out (by kernel_rfl)) (fun _ _ _ h=>h) (Or.inr ⟨by rfl,rfl⟩) ?_ ?_
         rotate_left
         ·simp only [Act.put,List.setIfInBounds_toArray,List.set_cons_zero,List.set_cons_succ,i64_w,i32_w]
          rfl
         refine pure_ (i:=14) (N:=some 52) (v:=undef) (a':=?_) #[true,true,true,true,true,true,true,true,true,true,true,true,true,true,true,false,false,false,false,false,false,false,false,false,false,false,false,false,false,false] rfl rfl (any_of HT_.out (by kernel_rfl)) (fun _ _ _ h=>h) (Or.inr ⟨by rfl,rfl⟩) ?_ ?_
         rotate_left
         ·simp only [Act.put,List.setIfInBounds_toArray,List.set_cons_zero,List.set_cons_succ,i64_w,i32_w]
          rfl
         refine pure_ (i:=15) (N:=some 53) (v:=undef) (a':=?_) #[true,true,true,true,true,true,true,true,true,true,true,true,true,true,true,true,false,false,false,false,false,false,false,false,false,false,false,false,false,false] rfl rfl (any_of HT_.out (by kernel_rfl)) (fun _ _ _ h=>h) (Or.inr ⟨by rfl,rfl⟩) ?_ ?_
         rotate_left
         ·simp only [Act.put,List.setIfInBounds_toArray,List.set_cons_zero,List.set_cons_succ,i64_w,i32_w]
          rfl
         refine pure_ (i:=16) (N:=some 54) (v:=undef) (a':=?_) #[true,true,true,true,true,true,true,true,true,true,true,true,true,true,true,true,true,false,false,false,false,false,false,false,false,false,false,false,false,false] rfl rfl (any_of HT_.out (by kernel_rfl)) (fun _ _ _ h=>h) (Or.inr ⟨by rfl,rfl⟩) ?_ ?_
         rotate_left
         ·simp only [Act.put,List.setIfInBounds_toArray,List.set_cons_zero,List.set_cons_succ,i64_w,i32_w]
          rfl
         refine pure_ (i:=17) (N:=some 55) (v:=undef) (a':=?_) #[true,true,true,true,true,true,true,true,true,true,true,true,true,true,true,true,true,true,false,false,false,false,false,false,false,false,false,false,false,false] rfl rfl (any_of HT_.out (by kernel_rfl)) (fun _ _ _ h=>h) (Or.inr ⟨by rfl,rfl⟩) ?_ ?_
         rotate_left
         ·simp only [Act.put,List.setIfInBounds_toArray,List.set_cons_zero,List.set_cons_succ,i64_w,i32_w]
          rfl
         refine pure_ (i:=18) (N:=some 56) (v:=undef) (a':=?_) #[true,true,true,true,true,true,true,true,true,true,true,true,true,true,true,true,true,true,true,false,false,false,false,false,false,false,false,false,false,false] rfl rfl (any_of HT_.out (by kernel_rfl)) (fun _ _ _ h=>h) (Or.inr ⟨by rfl,rfl⟩) ?_ ?_
         rotate_left
         ·simp only [Act.put,List.setIfInBounds_toArray,List.set_cons_zero,List.set_cons_succ,i64_w,i32_w]
          rfl
         refine pure_ (i:=19) (N:=some 57) (v:=undef) (a':=?_) #[true,true,true,true,true,true,true,true,true,true,true,true,true,true,true,true,true,true,true,true,false,false,false,false,false,false,false,false,false,false] rfl rfl (any_of HT_.out (by kernel_rfl)) (fun _ _ _ h=>h) (Or.inr ⟨by rfl,rfl⟩) ?_ ?_
         rotate_left
         ·simp only [Act.put,List.setIfInBounds_toArray,List.set_cons_zero,List.set_cons_succ,i64_w,i32_w]
          rfl
         refine pure_ (i:=20) (N:=some 58) (v:=undef) (a':=?_) #[true,true,true,true,true,true,true,true,true,true,true,true,true,true,true,true,true,true,true,true,true,false,false,false,false,false,false,false,false,false] rfl rfl (any_of HT_.out (by kernel_rfl)) (fun _ _ _ h=>h) (Or.inr ⟨by rfl,rfl⟩) ?_ ?_
         rotate_left
         ·simp only [Act.put,List.setIfInBounds_toArray,List.set_cons_zero,List.set_cons_succ,i64_w,i32_w]
          rfl
         refine pure_ (i:=21) (N:=some 59) (v:=undef) (a':=?_) #[true,true,true,true,true,true,true,true,true,true,true,true,true,true,true,true,true,true,true,true,true,true,false,false,false,false,false,false,false,false] rfl rfl (any_of HT_.out (by kernel_rfl)) (fun _ _ _ h=>h) (Or.inr ⟨by rfl,rfl⟩) ?_ ?_
         rotate_left
         ·simp only [Act.put,List.setIfInBounds_toArray,List.set_cons_zero,List.set_cons_succ,i64_w,i32_w]
          rfl
         refine pure_ (i:=22) (N:=some 60) (v:=undef) (a':=?_) #[true,true,true,true,true,true,true,true,true,true,true,true,true,true,true,true,true,true,true,true,true,true,true,false,false,false,false,false,false,false] rfl rfl (any_of HT_.out (by kernel_rfl)) (fun _ _ _ h=>h) (Or.inr ⟨by rfl,rfl⟩) ?_ ?_
         rotate_left
         ·simp only [Act.put,List.setIfInBounds_toArray,List.set_cons_zero,List.set_cons_succ,i64_w,i32_w]
          rfl
         refine pure_ (i:=23) (N:=some 61) (v:=undef) (a':=?_) #[true,true,true,true,true,true,true,true,true,true,true,true,true,true,true,true,true,true,true,true,true,true,true,true,false,false,false,false,false,false] rfl rfl (any_of HT_.out (by kernel_rfl)) (fun _ _ _ h=>h) (Or.inr ⟨by rfl,rfl⟩) ?_ ?_
         rotate_left
         ·simp only [Act.put,List.setIfInBounds_toArray,List.set_cons_zero,List.set_cons_succ,i64_w,i32_w]
          rfl
         refine pure_ (i:=24) (N:=some 62) (v:=?_) (a':=?_) #[true,true,true,true,true,true,true,true,true,true,true,true,true,true,true,true,true,true,true,true,true,true,true,true,true,false,false,false,false,false] rfl rfl (any_of HT_.out (by kernel_rfl)) (fun _ _ _ h=>h) (Or.inl ⟨by rfl,?_⟩) ?_ ?_
         rotate_left
         ·intro w'
          go_simp
          with_reducible rfl
         rotate_left
         ·simp only [Act.put,List.setIfInBounds_toArray,List.set_cons_zero,List.set_cons_succ,i64_w,i32_w]
          rfl
         refine pure_ (i:=25) (N:=some 63) (v:=?_) (a':=?_) #[true,true,true,true,true,true,true,true,true,true,true,true,true,true,true,true,true,true,true,true,true,true,true,true,true,true,false,false,false,false] rfl rfl (any_of HT_.out (by kernel_rfl)) (fun _ _ _ h=>h) (Or.inl ⟨by rfl,?_⟩) ?_ ?_
         rotate_left
         ·intro w'
          go_simp
          with_reducible rfl
         rotate_left
         ·simp only [Act.put,List.setIfInBounds_toArray,List.set_cons_zero,List.set_cons_succ,i64_w,i32_w]
          rfl
         refine pure_ (i:=26) (N:=some 64) (v:=undef) (a':=?_) #[true,true,true,true,true,true,true,true,true,true,true,true,true,true,true,true,true,true,true,true,true,true,true,true,true,true,true,false,false,false] rfl rfl (any_of HT_.out (by kernel_rfl)) (fun _ _ _ h=>h) (Or.inr ⟨by rfl,rfl⟩) ?_ ?_
         rotate_left
         ·simp only [Act.put,List.setIfInBounds_toArray,List.set_cons_zero,List.set_cons_succ,i64_w,i32_w]
          rfl
         refine pure_ (i:=27) (N:=some 65) (v:=undef) (a':=?_) #[true,true,true,true,true,true,true,true,true,true,true,true,true,true,true,true,true,true,true,true,true,true,true,true,true,true,true,true,false,false] rfl rfl (any_of HT_.out (by kernel_rfl)) (fun _ _ _ h=>h) (Or.inr ⟨by rfl,rfl⟩) ?_ ?_
         rotate_left
         ·simp only [Act.put,List.setIfInBounds_toArray,List.set_cons_zero,List.set_cons_succ,i64_w,i32_w]
          rfl
         refine pure_ (i:=28) (N:=some 66) (v:=undef) (a':=?_) #[true,true,true,true,true,true,true,true,true,true,true,true,true,true,true,true,true,true,true,true,true,true,true,true,true,true,true,true,true,false] rfl rfl (any_of HT_.out (by kernel_rfl)) (fun _ _ _ h=>h) (Or.inr ⟨by rfl,rfl⟩) ?_ ?_
         rotate_left
         ·simp only [Act.put,List.setIfInBounds_toArray,List.set_cons_zero,List.set_cons_succ,i64_w,i32_w]
          rfl
         refine pure_ (i:=29) (N:=some 67) (v:=?_) (a':=?_) #[true,true,true,true,true,true,true,true,true,true,true,true,true,true,true,true,true,true,true,true,true,true,true,true,true,true,true,true,true,true] rfl rfl (any_of HT_.out (by kernel_rfl)) (fun _ _ _ h=>h) (Or.inl ⟨by rfl,?_⟩) ?_ ?_
         rotate_left
         ·intro w'
          go_simp
          with_reducible rfl
         rotate_left
         ·simp only [Act.put,List.setIfInBounds_toArray,List.set_cons_zero,List.set_cons_succ,i64_w,i32_w]
          rfl
         refine done_ (done_of HT_.out (by kernel_rfl)) ?_
         try go_wp2
         go_meet
         case rel=>exact ⟨_,(false),(t162),(by first|rfl|(simp;done)|(simp [*];done)),H',⟨by have:=HK1.out;have:=HJ5.out;first|omega|exact Nat.le_refl _⟩,⟨by (with_reducible repeat (first|apply Kd.S_alloc|apply Kd.S_drewN|apply Kd.S_drew));exact HO_5.out⟩,⟨by (with_reducible repeat (first|refine blk_drewN ?_ _|refine blk_drew ?_|refine blk_alloc ?_ _));exact BK163.out⟩,⟨by repeat (first|(with_reducible first|exact HI0.out|apply IsS25.alloc|apply IsS25.drewN|apply IsS25.drew|apply IsS25.set_1|refine IsS25.far ?_ NB0_163.out _)|refine IsS25.far ?_ NB0_163.out _|exact HI0.out)⟩,⟨by repeat (first|(with_reducible first|exact HK.out|apply KeepBut.set_|apply keep_drewN|apply keep_drew|apply keep_alloc|refine keep_far ?_ GW163.out _)|exact HK.out)⟩,⟨by repeat (first|(with_reducible first|exact HB.out|apply below_alloc|apply pw_below_drewN|apply below_drew1|refine below_set ?_ (IsS25.ge HI0.out)|refine below_set ?_ GE163.out)|exact HB.out)⟩⟩
       case rest =>
        clear HC19
        try clear c1
        try clear p1
        try clear q1
        try clear hx1
        try clear c2
        try clear p2
        try clear p6
        try clear c16
        try clear p16
        try clear q16
        try clear hx16
        try clear c25
        try clear c25b0
        try clear c27
        try clear c28
        try clear c29
        try clear c29b0
        try clear hx164_0
        try clear hx164_1
        try clear hx164_2
        try clear p164
        try clear q164
        obtain ⟨kq,x67_18,x1001_18,rfl,HA,HJ18,HO_5,BK163,HI0,HK,HB⟩:=hcut
        cases kq with
        | zero=>exact absurd HA.out (by simp [law26_made.j2])
        | succ kj18 =>
         have H:=HA.out
         clear HA
         simp only [law26_made.j2] at H
         have HC41:=Aside0.mk H
         clear H
         go_upto_if 67 with (fail)
         go_cut [] (fun wc=>∃ (kq:Nat) (x164000_40:Int),Aside0 (law26_made.j3 kq a1 x5_1 x6_1 s0_0 x1001_18 x164000_40 0 = some (r1,r2)) ∧ Aside0 (kq ≤ kj18) ∧ Aside0 (Kd.S k39 39 wc w.heap.size (fun k_=>k_ ≠ gb163) (.slice Ao24 x5_1.length co24) x5_1) ∧ Aside0 (wc.heap[gb163]? = some (.cells #[.int .i64 x164000_40,.int .i64 0,(.slice none 0 0)] 39 (0,0))) ∧ Aside0 (IsS25 w0 wc g s0_0 x1001_18) ∧ Aside0 (KeepBut w wc g none) ∧ Aside0 (Below w0.heap.size w0 wc))
         case first =>
          have H:=HC41.out
          clear HC41
          by_cases c42:x67_18 = true
          ·subst c42
           have H1:(if 0 ≤ (wrap64 ((x5_1.length:Int) - 1)) then (if (wrap64 ((x5_1.length:Int) - 1)) < (x5_1.length:Int) then (law26_made.j3 kj18 a1 x5_1 x6_1 s0_0 x1001_18 (wrap64 (((rd_T39 x5_1 (wrap64 ((x5_1.length:Int) - 1))).f0) + ((rd_T39 x5_1 (wrap64 ((x5_1.length:Int) - 1))).f1))) 0) else (none)) else (none)) = some (r1,r2):=by rw [if_pos rfl] at H;exact H
           clear H
           have H:=H1
           clear H1
           obtain ⟨ji43,hji43⟩:∃ j_:Int,(wrap64 ((x5_1.length:Int) - 1)) = j_:=⟨_,rfl⟩
           replace H:(if 0 ≤ (ji43) then (if (ji43) < (x5_1.length:Int) then (law26_made.j3 kj18 a1 x5_1 x6_1 s0_0 x1001_18 (wrap64 (((rd_T39 x5_1 (ji43)).f0) + ((rd_T39 x5_1 (ji43)).f1))) 0) else (none)) else (none)) = some (r1,r2):=by first|(rw [hji43] at H;exact H)|(simp only [hji43] at H ⊢;exact H)
           have hji43w:(IntKind.i64.wrap ((x5_1.length:Int) - 1)) = ji43:=(i64_w _).trans hji43
           by_cases c44:0 ≤ (ji43)
           ·rw [if_pos c44] at H
            have c44b0:decide (0 ≤ (ji43)) = true:=decide_eq_true c44
            clear c44
            (first|rw [c44b0]|(simp only [i64_w,i32_w];rw [c44b0])|skip)
            by_cases c45:(ji43) < (x5_1.length:Int)
            ·rw [if_pos c45] at H
             have c45b0:decide ((ji43) < (x5_1.length:Int)) = true:=decide_eq_true c45
             clear c45
             have H':=Aside0.mk H
             clear H
             try go_wp2
             have n0_:=Aside0.mk (Kd.S_drew HO_5.out)
             have n1_:=Aside0.mk (blk_drew BK163.out)
             have n2_:=Aside0.mk (IsS25.drew HI0.out)
             have n3_:=Aside0.mk (keep_drew HK.out)
             have n4_:=Aside0.mk (below_drew1 HB.out)
             clear HO_5
             clear BK163
             clear HI0
             clear HK
             clear HB
             have HO_5:=n0_
             have BK163:=n1_
             have HI0:=n2_
             have HK:=n3_
             have HB:=n4_
             clear n0_ n1_ n2_ n3_ n4_
             have p169:0 ≤ ((ji43):Int):=of_decide_eq_true (by first|(with_reducible assumption)|assumption)
             have q169:(ji43) < (x5_1.length:Int):=of_decide_eq_true (by first|(with_reducible assumption)|assumption)
             obtain ⟨ad169,A169_2,c169_2,e169,hx169_0,hx169_1,hx169_2,hl169_2,hi169_2⟩:=at_T39 (Kd.S_reads' HO_5.out).2.2 (ji43) p169 q169
             cases e169
             obtain ⟨ce169,hce169,hMe169,hcc169⟩:=Kd.S_get HO_5.out z39 (ji43) p169 (by first|exact q169|exact of_decide_eq_true (by first|(with_reducible assumption)|assumption)|(have e_:=(Kd.S_reads' HO_5.out).1;omega))
             obtain ⟨ve169_2,rfl,ge169_2⟩:=k39_openM hMe169
             have hv169_2:=hcc169 2 _ rfl
             rw [add_field _ _ 2 (by omega)] at hv169_2
             replace hv169_2:=Option.some.inj (hv169_2.symm.trans hx169_2)
             rw [hv169_2] at ge169_2
             have HL169_2:=Aside0.mk (show Kd.R (Kd.int .u8) 5 _ _ _ _ ((rd_T39 x5_1 (ji43)).f2) from ge169_2)
             clear hv169_2 ge169_2
             clear hcc169 hce169
             have HR169_2:=Aside0.mk hi169_2
             have HC169_2:=Aside0.mk hl169_2
             clear hi169_2 hl169_2
             replace p169:=eq_true p169
             replace q169:=eq_true q169
             have p170:0 ≤ ((ji43):Int):=of_decide_eq_true (by first|(with_reducible assumption)|assumption)
             have q170:(ji43) < (x5_1.length:Int):=of_decide_eq_true (by first|(with_reducible assumption)|assumption)
             obtain ⟨ad170,A170_2,c170_2,e170,hx170_0,hx170_1,hx170_2,hl170_2,hi170_2⟩:=at_T39 (Kd.S_reads' HO_5.out).2.2 (ji43) p170 q170
             obtain rfl:ad169 = ad170:=(by injection e170)
             obtain ⟨ce170,hce170,hMe170,hcc170⟩:=Kd.S_get HO_5.out z39 (ji43) p170 (by first|exact q170|exact of_decide_eq_true (by first|(with_reducible assumption)|assumption)|(have e_:=(Kd.S_reads' HO_5.out).1;omega))
             obtain ⟨ve170_2,rfl,ge170_2⟩:=k39_openM hMe170
             have hv170_2:=hcc170 2 _ rfl
             rw [add_field _ _ 2 (by omega)] at hv170_2
             replace hv170_2:=Option.some.inj (hv170_2.symm.trans hx170_2)
             rw [hv170_2] at ge170_2
             have HL170_2:=Aside0.mk (show Kd.R (Kd.int .u8) 5 _ _ _ _ ((rd_T39 x5_1 (ji43)).f2) from ge170_2)
             clear hv170_2 ge170_2
             clear hcc170 hce170
             have HR170_2:=Aside0.mk hi170_2
             have HC170_2:=Aside0.mk hl170_2
             clear hi170_2 hl170_2
             replace p170:=eq_true p170
             replace q170:=eq_true q170
             have ea_:=Option.some.inj (hx169_2.symm.trans hx170_2)
             injection ea_ with ea_ en_ ec_
             subst ea_
             subst ec_
             clear en_
             refine start_ (n:=13) (S:=fun w'=>w'.cell? (ad169.add (((ji43)).toNat * 3)) = some (.int .i64 ((rd_T39 x5_1 (ji43)).f0)) ∧ w'.cell? ⟨(ad169.add (((ji43)).toNat * 3)).block,(ad169.add (((ji43)).toNat * 3)).off + 1,none⟩ = some (.int .i64 ((rd_T39 x5_1 (ji43)).f1)) ∧ w'.cell? ⟨(ad169.add (((ji43)).toNat * 3)).block,(ad169.add (((ji43)).toNat * 3)).off + 2,none⟩ = some (.slice A169_2 ((rd_T39 x5_1 (ji43)).f2).length c169_2) ∧ w'.cell? (ad169.add (((ji43)).toNat * 3)) = some (.int .i64 ((rd_T39 x5_1 (ji43)).f0)) ∧ w'.cell? ⟨(ad169.add (((ji43)).toNat * 3)).block,(ad169.add (((ji43)).toNat * 3)).off + 1,none⟩ = some (.int .i64 ((rd_T39 x5_1 (ji43)).f1)) ∧ w'.cell? ⟨(ad169.add (((ji43)).toNat * 3)).block,(ad169.add (((ji43)).toNat * 3)).off + 2,none⟩ = some (.slice A169_2 ((rd_T39 x5_1 (ji43)).f2).length c169_2)) (ds:=[]) #[false,false,false,false,false,false,false,false,false,false,false,false,false] (by kernel_rfl) rfl rfl ⟨hx169_0,hx169_1,hx169_2,hx170_0,hx170_1,hx170_2⟩ (fun hHeld=>?_);refine with_tabW law26_made.tab10 law26_made.bits10 (fun HT_ HW_=>?_)
             generalize wc.drew = w46 at HO_5 BK163 HI0 HK HB HL169_2 HL170_2 HR169_2 HR170_2 hx169_0 hx169_1 hx169_2 hx170_0 hx170_1 hx170_2 hHeld ⊢
             refine pure_ (i:=0) (N:=some 68) (v:=?_) (a':=?_) #[true,false,false,false,false,false,false,false,false,false,false,false,false] rfl rfl (any_of HT_.out (by kernel_rfl)) (fun _ _ _ h=>h) (Or.inl ⟨by rfl,?_⟩) ?_ ?_
             rotate_left
             ·intro w'
              go_simp
              with_reducible rfl
             rotate_left
             ·simp only [Act.put,List.setIfInBounds_toArray,List.set_cons_zero,List.set_cons_succ,i64_w,i32_w]
              rfl
             refine pure_ (i:=1) (N:=some 69) (v:=?_) (a':=?_) #[true,true,false,false,false,false,false,false,false,false,false,false,false] rfl rfl (any_of HT_.out (by kernel_rfl)) (fun _ _ _ h=>h) (Or.inl ⟨by rfl,?_⟩) ?_ ?_
             rotate_left
             ·intro w'
              go_simp
              with_reducible rfl
             rotate_left
             ·simp only [Act.put,List.setIfInBounds_toArray,List.set_cons_zero,List.set_cons_succ,i64_w,i32_w]
              rfl
             refine pure_ (i:=2) (N:=some 70) (v:=?_) (a':=?_) #[true,true,true,false,false,false,false,false,false,false,false,false,false] rfl rfl (any_of HT_.out (by kernel_rfl)) (fun _ _ _ h=>h) (Or.inl ⟨by rfl,?_⟩) ?_ ?_
             rotate_left
             ·intro w'
              go_simp
              with_reducible rfl
             rotate_left
             ·simp only [Act.put,List.setIfInBounds_toArray,List.set_cons_zero,List.set_cons_succ,i64_w,i32_w]
              rfl
             refine pure_ (i:=3) (N:=some 71) (v:=?_) (a':=?_) #[true,true,true,true,false,false,false,false,false,false,false,false,false] rfl rfl (any_of HT_.out (by kernel_rfl)) (fun _ _ _ h=>h) (Or.inl ⟨by rfl,?_⟩) ?_ ?_
             rotate_left
             ·intro w'
              go_simp
              with_reducible rfl
             rotate_left
             ·simp only [Act.put,List.setIfInBounds_toArray,List.set_cons_zero,List.set_cons_succ,i64_w,i32_w]
              rfl
             refine pure_ (i:=5) (N:=some 73) (v:=?_) (a':=?_) #[true,true,true,true,false,true,false,false,false,false,false,false,false] rfl rfl (any_of HT_.out (by kernel_rfl)) (fun _ _ _ h=>h) (Or.inl ⟨by rfl,?_⟩) ?_ ?_
             rotate_left
             ·intro w'
              go_simp
              with_reducible rfl
             rotate_left
             ·simp only [Act.put,List.setIfInBounds_toArray,List.set_cons_zero,List.set_cons_succ,i64_w,i32_w]
              rfl
             refine pure_ (i:=6) (N:=some 74) (v:=?_) (a':=?_) #[true,true,true,true,false,true,true,false,false,false,false,false,false] rfl rfl (any_of HT_.out (by kernel_rfl)) (fun _ _ _ h=>h) (Or.inl ⟨by rfl,?_⟩) ?_ ?_
             rotate_left
             ·intro w'
              go_simp
              with_reducible rfl
             rotate_left
             ·simp only [Act.put,List.setIfInBounds_toArray,List.set_cons_zero,List.set_cons_succ,i64_w,i32_w]
              rfl
             refine pure_ (i:=7) (N:=some 75) (v:=?_) (a':=?_) #[true,true,true,true,false,true,true,true,false,false,false,false,false] rfl rfl (any_of HT_.out (by kernel_rfl)) (fun _ _ _ h=>h) (Or.inl ⟨by rfl,?_⟩) ?_ ?_
             rotate_left
             ·intro w'
              go_simp
              with_reducible rfl
             rotate_left
             ·simp only [Act.put,List.setIfInBounds_toArray,List.set_cons_zero,List.set_cons_succ,i64_w,i32_w]
              rfl
             refine pure_ (i:=8) (N:=some 76) (v:=?_) (a':=?_) #[true,true,true,true,false,true,true,true,true,false,false,false,false] rfl rfl (any_of HT_.out (by kernel_rfl)) (fun _ _ _ h=>h) (Or.inl ⟨by rfl,?_⟩) ?_ ?_
             rotate_left
             ·intro w'
              go_simp
              with_reducible rfl
             rotate_left
             ·simp only [Act.put,List.setIfInBounds_toArray,List.set_cons_zero,List.set_cons_succ,i64_w,i32_w]
              rfl
             refine take_ (i:=4) (N:=some 72) (v:=?_) (a':=?_) #[true,true,true,true,true,true,true,true,true,false,false,false,false] rfl rfl (take_ofW HT_.out HW_.out (by kernel_rfl)) (fun _ _ _ h=>h) (Or.inl ⟨by rfl,?_⟩) hHeld ?_ ?_
             rotate_left
             ·rintro w' ⟨s0,s1,s2,s3,s4,s5⟩
              go_simp
              with_reducible rfl
             rotate_left
             ·simp only [Act.put,List.setIfInBounds_toArray,List.set_cons_zero,List.set_cons_succ,i64_w,i32_w]
              rfl
             refine take_ (i:=9) (N:=some 77) (v:=?_) (a':=?_) #[true,true,true,true,true,true,true,true,true,true,false,false,false] rfl rfl (take_ofW HT_.out HW_.out (by kernel_rfl)) (fun _ _ _ h=>h) (Or.inl ⟨by rfl,?_⟩) hHeld ?_ ?_
             rotate_left
             ·rintro w' ⟨s0,s1,s2,s3,s4,s5⟩
              go_simp
              with_reducible rfl
             rotate_left
             ·simp only [Act.put,List.setIfInBounds_toArray,List.set_cons_zero,List.set_cons_succ,i64_w,i32_w]
              rfl
             refine pure_ (i:=10) (N:=some 78) (v:=?_) (a':=?_) #[true,true,true,true,true,true,true,true,true,true,true,false,false] rfl rfl (any_of HT_.out (by kernel_rfl)) (fun _ _ _ h=>h) (Or.inl ⟨by rfl,?_⟩) ?_ ?_
             rotate_left
             ·intro w'
              go_simp
              with_reducible rfl
             rotate_left
             ·simp only [Act.put,List.setIfInBounds_toArray,List.set_cons_zero,List.set_cons_succ,i64_w,i32_w]
              rfl
             refine pure_ (i:=11) (N:=some 79) (v:=?_) (a':=?_) #[true,true,true,true,true,true,true,true,true,true,true,true,false] rfl rfl (any_of HT_.out (by kernel_rfl)) (fun _ _ _ h=>h) (Or.inl ⟨by rfl,?_⟩) ?_ ?_
             rotate_left
             ·intro w'
              go_simp
              with_reducible rfl
             rotate_left
             ·simp only [Act.put,List.setIfInBounds_toArray,List.set_cons_zero,List.set_cons_succ,i64_w,i32_w]
              rfl
             refine one_ (i:=12) (N:=none) #[true,true,true,true,true,true,true,true,true,true,true,true,true] rfl rfl (one_of HT_.out (by kernel_rfl)) (by decide) (fun K hK=>?_)
             have hs47:w46.cell? ⟨gb163,0,none⟩ = some (.int .i64 t161):=(blk_cell BK163.out 0).trans rfl
             have hfs47:=blk_frozen BK163.out 0
             refine skip_ (w1:=?_) (by rfl) rfl ?_ ?_
             rotate_left
             ·go_simp
              rfl
             refine hK.out _ _ ⟨((cell_far (p:=⟨gb163,_,none⟩) (by first|exact Kd.own_blk (Kd.S_away HO_5.out (fun _ hk=>hk))|(rw [add_block];exact Kd.own_blk (Kd.S_away HO_5.out (fun _ hk=>hk)))|(show (Addr.add _ _).block ≠ _;rw [add_block];exact Kd.own_blk (Kd.S_away HO_5.out (fun _ hk=>hk)))|(dsimp only;exact Kd.own_blk (Kd.S_away HO_5.out (fun _ hk=>hk)))) _).trans (hHeld.1)),((cell_far (p:=⟨gb163,_,none⟩) (by first|exact Kd.own_blk (Kd.S_away HO_5.out (fun _ hk=>hk))|(rw [add_block];exact Kd.own_blk (Kd.S_away HO_5.out (fun _ hk=>hk)))|(show (Addr.add _ _).block ≠ _;rw [add_block];exact Kd.own_blk (Kd.S_away HO_5.out (fun _ hk=>hk)))|(dsimp only;exact Kd.own_blk (Kd.S_away HO_5.out (fun _ hk=>hk)))) _).trans (hHeld.2.1)),((cell_far (p:=⟨gb163,_,none⟩) (by first|exact Kd.own_blk (Kd.S_away HO_5.out (fun _ hk=>hk))|(rw [add_block];exact Kd.own_blk (Kd.S_away HO_5.out (fun _ hk=>hk)))|(show (Addr.add _ _).block ≠ _;rw [add_block];exact Kd.own_blk (Kd.S_away HO_5.out (fun _ hk=>hk)))|(dsimp only;exact Kd.own_blk (Kd.S_away HO_5.out (fun _ hk=>hk)))) _).trans (hHeld.2.2.1)),((cell_far (p:=⟨gb163,_,none⟩) (by first|exact Kd.own_blk (Kd.S_away HO_5.out (fun _ hk=>hk))|(rw [add_block];exact Kd.own_blk (Kd.S_away HO_5.out (fun _ hk=>hk)))|(show (Addr.add _ _).block ≠ _;rw [add_block];exact Kd.own_blk (Kd.S_away HO_5.out (fun _ hk=>hk)))|(dsimp only;exact Kd.own_blk (Kd.S_away HO_5.out (fun _ hk=>hk)))) _).trans (hHeld.2.2.2.1)),((cell_far (p:=⟨gb163,_,none⟩) (by first|exact Kd.own_blk (Kd.S_away HO_5.out (fun _ hk=>hk))|(rw [add_block];exact Kd.own_blk (Kd.S_away HO_5.out (fun _ hk=>hk)))|(show (Addr.add _ _).block ≠ _;rw [add_block];exact Kd.own_blk (Kd.S_away HO_5.out (fun _ hk=>hk)))|(dsimp only;exact Kd.own_blk (Kd.S_away HO_5.out (fun _ hk=>hk)))) _).trans (hHeld.2.2.2.2.1)),((cell_far (p:=⟨gb163,_,none⟩) (by first|exact Kd.own_blk (Kd.S_away HO_5.out (fun _ hk=>hk))|(rw [add_block];exact Kd.own_blk (Kd.S_away HO_5.out (fun _ hk=>hk)))|(show (Addr.add _ _).block ≠ _;rw [add_block];exact Kd.own_blk (Kd.S_away HO_5.out (fun _ hk=>hk)))|(dsimp only;exact Kd.own_blk (Kd.S_away HO_5.out (fun _ hk=>hk)))) _).trans (hHeld.2.2.2.2.2))⟩ (fun hHeld=>?_)
             clear hK K
             refine done_ (done_of HT_.out (by kernel_rfl)) ?_
             try go_wp2
             first|go_meet|(subst hji43;go_meet)
             case rel=>first|exact ⟨_,(wrap64 (((rd_T39 x5_1 (ji43)).f0) + ((rd_T39 x5_1 (ji43)).f1))),H',⟨by have:=HK1.out;have:=HJ5.out;have:=HJ18.out;first|omega|exact Nat.le_refl _⟩,⟨by (with_reducible repeat (first|apply Kd.S_alloc|apply Kd.S_drewN|apply Kd.S_drew));exact Kd.S_mono (Kd.S_far (p:=⟨gb163,0,none⟩) (Kd.S_mono HO_5.out (fun k_ hk=>(⟨hk,hk⟩:_ ∧ k_ ≠ gb163))) (fun _ hk=>hk.2) (.int .i64 (wrap64 (((rd_T39 x5_1 (ji43)).f0) + ((rd_T39 x5_1 (ji43)).f1))))) (fun _ hk=>hk.1)⟩,⟨by (with_reducible repeat (first|refine blk_drewN ?_ _|refine blk_drew ?_|refine blk_alloc ?_ _));refine blk_put (cs:=#[.int .i64 t161,.int .i64 0,.slice none 0 0]) ?_ 0 _ rfl;(with_reducible repeat (first|refine blk_drewN ?_ _|refine blk_drew ?_|refine blk_alloc ?_ _));exact BK163.out⟩,⟨by repeat (first|(with_reducible first|exact HI0.out|apply IsS25.alloc|apply IsS25.drewN|apply IsS25.drew|apply IsS25.set_1|refine IsS25.far ?_ NB0_163.out _)|refine IsS25.far ?_ NB0_163.out _|exact HI0.out)⟩,⟨by repeat (first|(with_reducible first|exact HK.out|apply KeepBut.set_|apply keep_drewN|apply keep_drew|apply keep_alloc|refine keep_far ?_ GW163.out _)|exact HK.out)⟩,⟨by repeat (first|(with_reducible first|exact HB.out|apply below_alloc|apply pw_below_drewN|apply below_drew1|refine below_set ?_ (IsS25.ge HI0.out)|refine below_set ?_ GE163.out)|exact HB.out)⟩⟩|((try subst hji43);exact ⟨_,(wrap64 (((rd_T39 x5_1 (((wrap64 ((x5_1.length:Int) - 1))))).f0) + ((rd_T39 x5_1 (((wrap64 ((x5_1.length:Int) - 1))))).f1))),H',⟨by have:=HK1.out;have:=HJ5.out;have:=HJ18.out;first|omega|exact Nat.le_refl _⟩,⟨by (with_reducible repeat (first|apply Kd.S_alloc|apply Kd.S_drewN|apply Kd.S_drew));exact Kd.S_mono (Kd.S_far (p:=⟨gb163,0,none⟩) (Kd.S_mono HO_5.out (fun k_ hk=>(⟨hk,hk⟩:_ ∧ k_ ≠ gb163))) (fun _ hk=>hk.2) (.int .i64 (wrap64 (((rd_T39 x5_1 (((wrap64 ((x5_1.length:Int) - 1))))).f0) + ((rd_T39 x5_1 (((wrap64 ((x5_1.length:Int) - 1))))).f1))))) (fun _ hk=>hk.1)⟩,⟨by (with_reducible repeat (first|refine blk_drewN ?_ _|refine blk_drew ?_|refine blk_alloc ?_ _));refine blk_put (cs:=#[.int .i64 t161,.int .i64 0,.slice none 0 0]) ?_ 0 _ rfl;(with_reducible repeat (first|refine blk_drewN ?_ _|refine blk_drew ?_|refine blk_alloc ?_ _));exact BK163.out⟩,⟨by repeat (first|(with_reducible first|exact HI0.out|apply IsS25.alloc|apply IsS25.drewN|apply IsS25.drew|apply IsS25.set_1|refine IsS25.far ?_ NB0_163.out _)|refine IsS25.far ?_ NB0_163.out _|exact HI0.out)⟩,⟨by repeat (first|(with_reducible first|exact HK.out|apply KeepBut.set_|apply keep_drewN|apply keep_drew|apply keep_alloc|refine keep_far ?_ GW163.out _)|exact HK.out)⟩,⟨by repeat (first|(with_reducible first|exact HB.out|apply below_alloc|apply pw_below_drewN|apply below_drew1|refine below_set ?_ (IsS25.ge HI0.out)|refine below_set ?_ GE163.out)|exact HB.out)⟩⟩)
            ·rw [if_neg c45] at H
             exact absurd H (by simp)
           ·rw [if_neg c44] at H
            exact absurd H (by simp)
          ·replace c42:=Bool.eq_false_iff.mpr c42
           subst c42
           have H1:(law26_made.j3 kj18 a1 x5_1 x6_1 s0_0 x1001_18 t161 0) = some (r1,r2):=by rw [if_neg (show ¬ (false = true) by decide)] at H;exact H
           clear H
           have H:=H1
           clear H1
           have H':=Aside0.mk H
           clear H
           go_wp2
           go_meet
           case rel=>exact ⟨_,(t161),H',⟨by have:=HK1.out;have:=HJ5.out;have:=HJ18.out;first|omega|exact Nat.le_refl _⟩,⟨by (with_reducible repeat (first|apply Kd.S_alloc|apply Kd.S_drewN|apply Kd.S_drew));exact HO_5.out⟩,⟨by (with_reducible repeat (first|refine blk_drewN ?_ _|refine blk_drew ?_|refine blk_alloc ?_ _));exact BK163.out⟩,⟨by repeat (first|(with_reducible first|exact HI0.out|apply IsS25.alloc|apply IsS25.drewN|apply IsS25.drew|apply IsS25.set_1|refine IsS25.far ?_ NB0_163.out _)|refine IsS25.far ?_ NB0_163.out _|exact HI0.out)⟩,⟨by repeat (first|(with_reducible first|exact HK.out|apply KeepBut.set_|apply keep_drewN|apply keep_drew|apply keep_alloc|refine keep_far ?_ GW163.out _)|exact HK.out)⟩,⟨by repeat (first|(with_reducible first|exact HB.out|apply below_alloc|apply pw_below_drewN|apply below_drew1|refine below_set ?_ (IsS25.ge HI0.out)|refine below_set ?_ GE163.out)|exact HB.out)⟩⟩
         case rest =>
          clear HC41
          try clear c1
          try clear p1
          try clear q1
          try clear hx1
          try clear c2
          try clear p2
          try clear c4
          try clear p6
          try clear c16
          try clear p16
          try clear q16
          try clear hx16
          try clear c17
          try clear p17
          try clear q17
          try clear hx17
          try clear c25
          try clear c25b0
          try clear c27
          try clear c28
          try clear c29
          try clear c29b0
          try clear c42
          try clear c44
          try clear c44b0
          try clear c45
          try clear c45b0
          try clear hx164_0
          try clear hx164_1
          try clear hx164_2
          try clear hx169_0
          try clear hx169_1
          try clear hx169_2
          try clear hx170_0
          try clear hx170_1
          try clear hx170_2
          try clear p1
          try clear p16
          try clear p164
          try clear p169
          try clear p170
          try clear p2
          try clear p6
          try clear q1
          try clear q16
          try clear q164
          try clear q169
          try clear q170
          obtain ⟨kq,x164000_40,HA,HJ40,HO_5,BK163,HI0,HK,HB⟩:=hcut
          cases kq with
          | zero=>exact absurd HA.out (by simp [law26_made.j3])
          | succ kj40 =>
           have H:=HA.out
           clear HA
           simp only [law26_made.j3] at H
           replace H:=Option.bind_eq_some_iff.mp H
           obtain ⟨⟨t171,t172⟩,A480,H⟩:=H
           replace H:(if x5_1.length < 3518437208883 then (law26_made.l0 kj40 a1 (x5_1 ++ [(⟨x164000_40,wrap64 (1 + t171),([]:List Int)⟩:S39)]) (wrap64 (x6_1 - 1)) s0_0 t172) else (none)) = some (r1,r2):=H
           have A48:=Aside0.mk A480
           clear A480
           by_cases c49:x5_1.length < 3518437208883
           ·rw [if_pos c49] at H
            have LMc49:=Aside0.mk c49
            clear c49
            obtain ⟨y173,hy173⟩:∃ y_:List (S39),y_ = (x5_1 ++ [(⟨x164000_40,wrap64 (1 + t171),([]:List Int)⟩:S39)]):=⟨_,rfl⟩
            replace H:(law26_made.l0 kj40 a1 y173 (wrap64 (x6_1 - 1)) s0_0 t172) = some (r1,r2):=by first|(rw [hy173];with_reducible exact H)|(have H2_:=(Option.bind_some _ _).symm.trans H;rw [hy173];with_reducible exact H2_)|(have H2_:=(Option.bind_some _ _).symm.trans H;with_reducible exact H2_)|with_reducible exact H|(rw [hy173];exact H)|exact H
            have Ny173:=Aside0.mk hy173
            clear hy173
            have H':=Aside0.mk H
            clear H
            have hnb50:=NB163_0.out
            have hnc50:=NB0_163.out
            have hcz51_0:wc.cell? ⟨gb163,0,none⟩ = some (.int .i64 x164000_40):=(blk_cell BK163.out 0).trans rfl
            have hcz51_1:wc.cell? ⟨gb163,1,none⟩ = some (.int .i64 0):=(blk_cell BK163.out 1).trans rfl
            have hcz51_2:wc.cell? ⟨gb163,2,none⟩ = some (.slice none 0 0):=(blk_cell BK163.out 2).trans rfl
            have hfz51_0:=blk_frozen BK163.out 0
            have hfz51_1:=blk_frozen BK163.out 1
            have hfz51_2:=blk_frozen BK163.out 2
            go_wp2_with (first|((with_reducible refine gate_callee (f:=16) rfl ?_);refine goesL_ (some 85) rfl rfl Try.func16 (by kernel_rfl) rfl #[.pointer (some ⟨g,0,none⟩),.int .i64 (wrap64 (a1 - x164000_40))] rfl (by (try simp only [List.map_toArray,List.map_cons,List.map_nil]);first|done|rfl|(simp only [List.length_drop,List.length_take];rfl)) ?_;(with_reducible refine (make_Tape_Next.calls g s0_0 x1001_18 (wrap64 (a1 - x164000_40)) t171 t172 w0 _ ?side1 ?side2 A48.out).mono ?_);(case side1=>repeat (first|(with_reducible first|exact HI0.out|apply IsS25.alloc|apply IsS25.drewN|apply IsS25.drew|apply IsS25.set_1|refine IsS25.far ?_ NB0_163.out _)|refine IsS25.far ?_ NB0_163.out _|exact HI0.out));(case side2=>repeat (first|(with_reducible first|exact HB.out|apply below_alloc|apply pw_below_drewN|apply below_drew1|refine below_set ?_ (IsS25.ge HI0.out)|refine below_set ?_ GE163.out)|exact HB.out));rintro e w52 ⟨rfl,hi,hb,hk⟩;refine ⟨_,rfl,?_⟩;have n0_:=Aside0.mk (Kd.S_mono (Kd.S_keep (IsS25.apartS (show IsS25 w0 _ g s0_0 x1001_18 from by repeat (first|(with_reducible first|exact HI0.out|apply IsS25.alloc|apply IsS25.drewN|apply IsS25.drew|apply IsS25.set_1|refine IsS25.far ?_ NB0_163.out _)|refine IsS25.far ?_ NB0_163.out _|exact HI0.out)) (by (with_reducible repeat (first|apply Kd.S_alloc|apply Kd.S_drewN|apply Kd.S_drew));exact HO_5.out) (by decide)) hk (fun _ h=>h.2)) (fun _ h=>h.1));have n1_:=Aside0.mk (KeepBut.blk hk (g':=gb163) (o:=.cells #[.int .i64 x164000_40,.int .i64 0,.slice none 0 0] 39 (0,0)) (by (with_reducible repeat (first|refine blk_drewN ?_ _|refine blk_drew ?_|refine blk_alloc ?_ _));exact BK163.out) NB163_0.out (by simp));have n2_:=Aside0.mk (KeepBut.trans (by repeat (first|(with_reducible first|exact HK.out|apply KeepBut.set_|apply keep_drewN|apply keep_drew|apply keep_alloc|refine keep_far ?_ GW163.out _)|exact HK.out)) hk (.inl rfl));have n3_:=Aside0.mk (hb);have n4_:=Aside0.mk (hi);clear HO_5;clear BK163;clear HK;clear HB;clear HI0;have HO_5:=n0_;have BK163:=n1_;have HK:=n2_;have HB:=n3_;have HI0:=n4_;clear n0_ n1_ n2_ n3_ n4_;(try clear hb);(try clear hb2);(try clear hk);(try clear hi);have hcz53_0:w52.cell? ⟨gb163,0,none⟩ = some (.int .i64 x164000_40):=(blk_cell BK163.out 0).trans rfl;have hcz53_1:w52.cell? ⟨gb163,1,none⟩ = some (.int .i64 0):=(blk_cell BK163.out 1).trans rfl;have hcz53_2:w52.cell? ⟨gb163,2,none⟩ = some (.slice none 0 0):=(blk_cell BK163.out 2).trans rfl;have hfz53_0:=blk_frozen BK163.out 0;have hfz53_1:=blk_frozen BK163.out 1;have hfz53_2:=blk_frozen BK163.out 2)|((with_reducible refine gate_builtin (b:=.append) (xs:=#[.tmp 88,.tmp 90]) rfl ?_);at_builtin;refine Kd.S_append k39 w.heap.size rfl (.tmp 88) (.tmp 90) 29 39 (.agg #[(.int .i64 0),(.int .i64 0),(.slice none 0 0)]) 40 rfl Try.underlying29 info39 rfl (by decide) (by omega) (.slice Ao24 x5_1.length co24) x5_1 (⟨x164000_40,wrap64 (1 + t171),([]:List Int)⟩:S39) [.int .i64 x164000_40,.int .i64 (wrap64 (1 + t171)),.slice none 0 0] (fun k_=>k_ ≠ gb163) (fun _=>False) rfl (by first|(go_simp;done)|(go_simp;rfl)) ?aP (fun k_ hk_=>hk_.elim) ?aF ?aO (Below.refl _ _) ?aS ?aL ?_;(case aP=>exact k39_mkM _ _ _ (⟨x164000_40,wrap64 (1 + t171),([]:List Int)⟩:S39) (Kd.R_nil _ _ _ _ _));(case aF=>exact (fun k_ hk=>Kd.freshB (g:=gb163) (o:=.cells #[.int .i64 x164000_40,.int .i64 (wrap64 (1 + t171)),.slice none 0 0] 39 (0,0)) (by (with_reducible repeat (first|refine blk_drewN ?_ _|refine blk_drew ?_|refine blk_alloc ?_ _));refine blk_put (cs:=#[.int .i64 x164000_40,.int .i64 0,.slice none 0 0]) ?_ 1 _ rfl;(with_reducible repeat (first|refine blk_drewN ?_ _|refine blk_drew ?_|refine blk_alloc ?_ _));exact BK163.out) k_ hk));(case aO=>exact (by (with_reducible repeat (first|apply Kd.S_alloc|apply Kd.S_drewN|apply Kd.S_drew));exact Kd.S_mono (Kd.S_far (p:=⟨gb163,1,none⟩) (Kd.S_mono HO_5.out (fun k_ hk=>(⟨hk,hk⟩:_ ∧ k_ ≠ gb163))) (fun _ hk=>hk.2) (.int .i64 (wrap64 (1 + t171)))) (fun k_ hk=>⟨hk.1,fun e_=>e_⟩)));(case aS=>exact (keep_size (w:=w) (g:=g) (row:=none) (by repeat (first|(with_reducible first|exact HK.out|apply KeepBut.set_|apply keep_drewN|apply keep_drew|apply keep_alloc|refine keep_far ?_ GW163.out _)|exact HK.out))));(case aL=>have:=LMc49.out;omega);intro v174 w54 ho hb hg hat;rw [← Ny173.out] at ho;have n0_:=Aside0.mk (blk_grown (g:=gb163) (o:=.cells #[.int .i64 x164000_40,.int .i64 (wrap64 (1 + t171)),.slice none 0 0] 39 (0,0)) (by (with_reducible repeat (first|refine blk_drewN ?_ _|refine blk_drew ?_|refine blk_alloc ?_ _));refine blk_put (cs:=#[.int .i64 x164000_40,.int .i64 0,.slice none 0 0]) ?_ 1 _ rfl;(with_reducible repeat (first|refine blk_drewN ?_ _|refine blk_drew ?_|refine blk_alloc ?_ _));exact BK163.out) hg (Kd.S_away HO_5.out (fun _ hk=>hk)));have n1_:=Aside0.mk (IsS25.grown (show IsS25 w0 _ g s0_0 t172 from by repeat (first|(with_reducible first|exact HI0.out|apply IsS25.alloc|apply IsS25.drewN|apply IsS25.drew|apply IsS25.set_1|refine IsS25.far ?_ NB0_163.out _)|refine IsS25.far ?_ NB0_163.out _|exact HI0.out)) hg (IsS25.own_neS HI0.out HO_5.out (by decide)));have n2_:=Aside0.mk (below_weaken (by repeat (first|(with_reducible first|exact HB.out|apply below_alloc|apply pw_below_drewN|apply below_drew1|refine below_set ?_ (IsS25.ge HI0.out)|refine below_set ?_ GE163.out)|exact HB.out)) HL.out hb);have n3_:=Aside0.mk (KeepBut.trans (by repeat (first|(with_reducible first|exact HK.out|apply KeepBut.set_|apply keep_drewN|apply keep_drew|apply keep_alloc|refine keep_far ?_ GW163.out _)|exact HK.out)) (KeepBut.of_grown hg g) (Kd.S_base2 HO_5.out));have n4_:=Aside0.mk (ho);clear BK163;clear HI0;clear HB;clear HK;clear HO_5;have BK163:=n0_;have HI0:=n1_;have HB:=n2_;have HK:=n3_;have HO175:=n4_;clear n0_ n1_ n2_ n3_ n4_;clear ho hb hg hat))
            go_roundg kj40
            case measure=>have:=HK1.out;have:=HJ5.out;have:=HJ18.out;have:=HJ40.out;omega
            case rel=>exact ⟨(y173),(wrap64 (x6_1 - 1)),(t172),(by first|rfl|(simp;done)|(simp [*];done)),H',⟨by have:=HK1.out;have:=HJ5.out;have:=HJ18.out;have:=HJ40.out;omega⟩,⟨by (with_reducible repeat (first|apply Kd.S_alloc|apply Kd.S_drewN|apply Kd.S_drew));exact Kd.S_mono HO175.out (fun _ hk=>trivial)⟩,⟨by repeat (first|(with_reducible first|exact HI0.out|apply IsS25.alloc|apply IsS25.drewN|apply IsS25.drew|apply IsS25.set_1|refine IsS25.far ?_ NB0_163.out _)|refine IsS25.far ?_ NB0_163.out _|exact HI0.out)⟩,⟨by repeat (first|(with_reducible first|exact HK.out|apply KeepBut.set_|apply keep_drewN|apply keep_drew|apply keep_alloc|refine keep_far ?_ GW163.out _)|exact HK.out)⟩,⟨by repeat (first|(with_reducible first|exact HB.out|apply below_alloc|apply pw_below_drewN|apply below_drew1|refine below_set ?_ (IsS25.ge HI0.out)|refine below_set ?_ GE163.out)|exact HB.out)⟩⟩
           ·rw [if_neg c49] at H
            exact absurd H (by simp)
   ·rw [if_neg c5] at H
    have c5b0:decide (0 < x6_1) = false:=decide_eq_false c5
    clear c5
    simp only [Option.some.injEq,Prod.mk.injEq] at H
    obtain ⟨rfl,rfl⟩:=H
    go_wp2
    go_ret
    exact ⟨_,by first|rfl|(simp [errW_none,errW_some] <;> rfl)|(simp [*,errW_none,errW_some] <;> rfl),by (with_reducible repeat (first|apply Kd.S_alloc|apply Kd.S_drewN|apply Kd.S_drew));exact HO_5.out,by repeat (first|(with_reducible first|exact HI0.out|apply IsS25.alloc|apply IsS25.drewN|apply IsS25.drew|apply IsS25.set_1)|exact HI0.out),by repeat (first|(with_reducible first|exact HB.out|apply below_alloc|apply pw_below_drewN|apply below_drew1|refine below_set ?_ (IsS25.ge HI0.out))|exact HB.out),by repeat (first|(with_reducible first|exact HK.out|apply KeepBut.set_|apply keep_drewN|apply keep_drew|apply keep_alloc)|exact HK.out)⟩

end Go.Proofs.Ytjckjcekapkkjaa.P
