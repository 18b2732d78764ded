-- WRITTEN BY myprint.py (wip/tools) for this seat
import Derived.Test.YtjckjcekapkkjaaPx0
import Derived.Test.YtjckjcekapkkjaaPx1
import Derived.Test.YtjckjcekapkkjaaHWords
namespace Go.Proofs.Ytjckjcekapkkjaa.P
open Go.RowKit Go.Proofs.YtjckjcekapkkjaaW.PrintWords Go.Proofs.YtjckjcekapkkjaaW.PrintLast Go.Proofs.YtjckjcekapkkjaaW.PrintMore
attribute [local go_sem] max2_int min2_int max_two min_two max_three min_three max_four min_four   -- for this text's walks alone
set_option linter.unusedVariables false
set_option linter.unusedSimpArgs false

/-! ### make_Tape_Bytes: function 41 -/
def make_Tape_Bytes.l0:Nat → Int → Int → List Int → Int → List Int → Int → Option (List Int × Int)
 | 0,_,_,_,_,_,_=>none
 | k + 1,x1,x2,x7,x8,x1000,x1001=>if x8 < x1 then ((make_Tape_Next.f x1000 x1001 x2).bind fun bt107=>(if x7.length < 140737488355328 then (make_Tape_Bytes.l0 k x1 x2 (x7 ++ [(bt107.1) % 256]) (wrap64 (x8 + 1)) x1000 bt107.2) else (none))) else (some (x7,x1001))
def make_Tape_Bytes.f (k:Nat) (s0_0:List Int) (s0_1:Int) (a1:Int) (a2:Int):Option (List Int × Int):=if 0 ≤ (mx a1 0) then (if (mx a1 0:Int).toNat ≤ 281474976710656 then (make_Tape_Bytes.l0 k a1 a2 (([]:List Int)) 0 s0_0 s0_1) else (none)) else (none)
set_option maxHeartbeats 8000000 in
set_option maxRecDepth 100000 in
theorem make_Tape_Bytes.calls (k:Nat) (g:Nat) (s0_0:List Int) (s0_1:Int) (a1:Int) (a2:Int) (r1:List Int) (r2:Int) (w0 w:World) (hI:IsS25 w0 w g s0_0 s0_1) (hB:Below w0.heap.size w0 w) (h:make_Tape_Bytes.f k s0_0 s0_1 a1 a2 = some (r1,r2)) :
  Calls Try.prog 41 #[.pointer (some ⟨g,0,none⟩),.int .i64 a1,.int .i64 a2] w fun e w'=>∃ v0_:Value,e = .returned (v0_) ∧ Kd.R (Kd.int .u8) 5 w' w.heap.size (fun _=>True) v0_ r1 ∧ IsS25 w0 w' g s0_0 r2 ∧ Below w0.heap.size w0 w' ∧ KeepBut w w' g none:=by
 have HI0:=Aside0.mk hI
 have HK:=Aside0.mk (KeepBut.refl w g none)
 have HL:=Aside0.mk hB.size
 clear hI
 have HW0:=Aside0.mk hB.size
 have HB:=Aside0.mk hB
 clear hB
 have H:(if 0 ≤ (mx a1 0) then (if (mx a1 0:Int).toNat ≤ 281474976710656 then (make_Tape_Bytes.l0 k a1 a2 (([]:List Int)) 0 s0_0 s0_1) else (none)) else (none)) = some (r1,r2):=h
 clear h
 obtain ⟨ji4,hji4⟩:∃ j_:Int,(mx a1 0) = j_:=⟨_,rfl⟩
 replace H:(if 0 ≤ (ji4) then (if (ji4:Int).toNat ≤ 281474976710656 then (make_Tape_Bytes.l0 k a1 a2 (([]:List Int)) 0 s0_0 s0_1) else (none)) else (none)) = some (r1,r2):=by first|(rw [hji4] at H;exact H)|(simp only [hji4] at H ⊢;exact H)
 (try (have hji4l:0 ≤ ji4:=by (rw [← hji4];unfold mx;(repeat' split) <;> omega)))
 (try (have hji4m:0 ≤ ji4:=by omega))
 have hji4_:(if a1 < 0 then 0 else a1) = ji4:=hji4
 by_cases c5:0 ≤ (ji4)
 ·rw [if_pos c5] at H
  have c5b0:=eq_true c5
  have c5b1:decide (0 ≤ (ji4)) = true:=decide_eq_true c5
  clear c5
  by_cases c6:(ji4:Int).toNat ≤ 281474976710656
  ·rw [if_pos c6] at H
   have c6b0:=eq_true c6
   have c6b1:decide ((ji4:Int).toNat ≤ 281474976710656) = true:=decide_eq_true c6
   clear c6
   obtain ⟨y104,hy104⟩:∃ y_:List Int,y_ = (([]:List Int)):=⟨_,rfl⟩
   replace H:(make_Tape_Bytes.l0 k a1 a2 y104 0 s0_0 s0_1) = some (r1,r2):=by first|(rw [hy104];with_reducible exact H)|(have H2_:=(Option.bind_some _ _).symm.trans H;rw [hy104];with_reducible exact H2_)|(have H2_:=(Option.bind_some _ _).symm.trans H;with_reducible exact H2_)|with_reducible exact H|(rw [hy104];exact H)|exact H
   have Ny104:=Aside0.mk hy104
   clear hy104
   have H':=Aside0.mk H
   clear H
   go_enter Try.func41,Try.ntmps41
   go_wp2_with (first|((with_reducible refine gate_dst (N:=11) rfl ?_);refine R_make0_ (Kd.int .u8) _ 5 rfl (N:=11) rfl 26 _ _ rfl ji4 rfl rfl Try.underlying26 (.int .u8 0) 1 info5 rfl (by decide) (by omega) 0 (ok:=fun _=>True) (okp:=fun _=>True) rfl (fun _ hk=>hk) trivial (of_decide_eq_true (by first|(with_reducible assumption)|assumption)) (Nat.le_trans (Nat.mul_le_mul_right _ (of_decide_eq_true (by first|(with_reducible assumption)|assumption):ji4.toNat ≤ 281474976710656)) (by omega)) (Below.refl _ _) (Nat.le_refl _) ?_;intro v105 w7 ho8 hb hg_ hnew_;clear hg_ hnew_;(first|rw [← Ny104.out] at ho8|(simp only [Int.reduceToNat] at ho8;rw [← Ny104.out] at ho8));have n0_:=Aside0.mk (Kd.R_lower ho8 (keep_size (w:=w) (g:=g) (row:=none) (by repeat (first|(with_reducible first|exact HK.out|apply KeepBut.set_|apply keep_drewN|apply keep_drew|apply keep_alloc)|exact HK.out))));have n1_:=Aside0.mk (IsS25.below (by repeat (first|(with_reducible first|exact HI0.out|apply IsS25.alloc|apply IsS25.drewN|apply IsS25.drew|apply IsS25.set_1)|exact HI0.out)) hb);have n2_:=Aside0.mk (KeepBut.trans (by repeat (first|(with_reducible first|exact HK.out|apply KeepBut.set_|apply keep_drewN|apply keep_drew|apply keep_alloc)|exact HK.out)) (KeepBut.of_below hb g none) (.inl rfl));have n3_:=Aside0.mk (below_step (by repeat (first|(with_reducible first|exact HB.out|apply below_alloc|apply pw_below_drewN|apply below_drew1|refine below_set ?_ (IsS25.ge HI0.out))|exact HB.out)) hb);clear HI0;clear HK;clear HB;have HO106:=n0_;have HI0:=n1_;have HK:=n2_;have HB:=n3_;clear n0_ n1_ n2_ n3_;clear hb ho8))
   go_loopg [7,8] k (fun kq v7 v8 w'=>∃ (x7_1:List Int) (x8_1:Int) (x1001_1:Int),v8 = .int .i64 x8_1 ∧ Aside0 (make_Tape_Bytes.l0 kq a1 a2 x7_1 x8_1 s0_0 x1001_1 = some (r1,r2)) ∧ Aside0 (kq ≤ k) ∧ Aside0 (Kd.R (Kd.int .u8) 5 w' w.heap.size (fun _=>True) v7 x7_1) ∧ Aside0 (IsS25 w0 w' g s0_0 x1001_1) ∧ Aside0 (KeepBut w w' g none) ∧ Aside0 (Below w0.heap.size w0 w'))
   case atStart=>exact ⟨(y104),(0),(s0_1),(by first|rfl|(simp;done)|(simp [*];done)),H',⟨Nat.le_refl _⟩,⟨by (with_reducible repeat (first|apply Kd.R_alloc|apply Kd.R_drewN|apply Kd.R_drew));exact HO106.out⟩,⟨by repeat (first|(with_reducible first|exact HI0.out|apply IsS25.alloc|apply IsS25.drewN|apply IsS25.drew|apply IsS25.set_1)|exact HI0.out)⟩,⟨by repeat (first|(with_reducible first|exact HK.out|apply KeepBut.set_|apply keep_drewN|apply keep_drew|apply keep_alloc)|exact HK.out)⟩,⟨by repeat (first|(with_reducible first|exact HB.out|apply below_alloc|apply pw_below_drewN|apply below_drew1|refine below_set ?_ (IsS25.ge HI0.out))|exact HB.out)⟩⟩
   case round =>
    clear H'
    try clear p2
    try clear c4
    try clear c5
    try clear c5b0
    try clear c5b1
    try clear c6
    try clear c6b0
    try clear c6b1
    obtain ⟨x7_1,x8_1,x1001_1,rfl,HA,HK1,HO_7,HI0,HK,HB⟩:=hrel
    cases gk with
    | zero=>exact absurd HA.out (by simp [make_Tape_Bytes.l0])
    | succ k1 =>
     have H:=HA.out
     clear HA
     simp only [make_Tape_Bytes.l0] at H
     by_cases c9:x8_1 < a1
     ·rw [if_pos c9] at H
      have c9b0:decide (x8_1 < a1) = true:=decide_eq_true c9
      clear c9
      replace H:=Option.bind_eq_some_iff.mp H
      obtain ⟨⟨t107,t108⟩,A100,H⟩:=H
      replace H:(if x7_1.length < 140737488355328 then (make_Tape_Bytes.l0 k1 a1 a2 (x7_1 ++ [(t107) % 256]) (wrap64 (x8_1 + 1)) s0_0 t108) else (none)) = some (r1,r2):=H
      have A10:=Aside0.mk A100
      clear A100
      by_cases c11:x7_1.length < 140737488355328
      ·rw [if_pos c11] at H
       have LMc11:=Aside0.mk c11
       clear c11
       obtain ⟨y109,hy109⟩:∃ y_:List Int,y_ = (x7_1 ++ [(t107) % 256]):=⟨_,rfl⟩
       replace H:(make_Tape_Bytes.l0 k1 a1 a2 y109 (wrap64 (x8_1 + 1)) s0_0 t108) = some (r1,r2):=by first|(rw [hy109];with_reducible exact H)|(have H2_:=(Option.bind_some _ _).symm.trans H;rw [hy109];with_reducible exact H2_)|(have H2_:=(Option.bind_some _ _).symm.trans H;with_reducible exact H2_)|with_reducible exact H|(rw [hy109];exact H)|exact H
       have Ny109:=Aside0.mk hy109
       clear hy109
       have H':=Aside0.mk H
       clear H
       go_wp2_with (first|((with_reducible refine gate_callee (f:=16) rfl ?_);refine goesL_ (some 20) rfl rfl Try.func16 (by kernel_rfl) rfl #[.pointer (some ⟨g,0,none⟩),.int .i64 a2] rfl (by (try simp only [List.map_toArray,List.map_cons,List.map_nil]);first|done|rfl|(simp only [List.length_drop,List.length_take];rfl)) ?_;(with_reducible refine (make_Tape_Next.calls g s0_0 x1001_1 a2 t107 t108 w0 _ ?side1 ?side2 A10.out).mono ?_);(case side1=>repeat (first|(with_reducible first|exact HI0.out|apply IsS25.alloc|apply IsS25.drewN|apply IsS25.drew|apply IsS25.set_1)|exact HI0.out));(case side2=>repeat (first|(with_reducible first|exact HB.out|apply below_alloc|apply pw_below_drewN|apply below_drew1|refine below_set ?_ (IsS25.ge HI0.out))|exact HB.out));rintro e w12 ⟨rfl,hi,hb,hk⟩;refine ⟨_,rfl,?_⟩;have n0_:=Aside0.mk (Kd.R_mono (Kd.R_keep (IsS25.apart (show IsS25 w0 _ g s0_0 x1001_1 from by repeat (first|(with_reducible first|exact HI0.out|apply IsS25.alloc|apply IsS25.drewN|apply IsS25.drew|apply IsS25.set_1)|exact HI0.out)) (by (with_reducible repeat (first|apply Kd.R_alloc|apply Kd.R_drewN|apply Kd.R_drew));exact HO_7.out) (by decide)) hk (fun _ h=>h.2)) (fun _ h=>h.1));have n1_:=Aside0.mk (KeepBut.trans (by repeat (first|(with_reducible first|exact HK.out|apply KeepBut.set_|apply keep_drewN|apply keep_drew|apply keep_alloc)|exact HK.out)) hk (.inl rfl));have n2_:=Aside0.mk (hb);have n3_:=Aside0.mk (hi);clear HO_7;clear HK;clear HB;clear HI0;have HO_7:=n0_;have HK:=n1_;have HB:=n2_;have HI0:=n3_;clear n0_ n1_ n2_ n3_;(try clear hb);(try clear hb2);(try clear hk);(try clear hi))|((with_reducible refine gate_builtin (b:=.append) (xs:=#[.tmp 17,.tmp 22]) rfl ?_);at_builtin;refine Kd.R_append (Kd.int .u8) w.heap.size rfl (.tmp 17) (.tmp 22) 26 5 (.int .u8 0) 1 rfl Try.underlying26 info5 rfl (by decide) (by omega) u7 x7_1 ((t107) % 256) [.int .u8 ((t107) % 256)] (fun _=>True) (fun _=>False) rfl rfl ?aP (fun _ hk=>hk.elim) ?aF ?aO (Below.refl _ _) ?aS ?aL ?_;(case aP=>exact rfl);(case aF=>exact (fun _ _=>trivial));(case aO=>exact (by (with_reducible repeat (first|apply Kd.R_alloc|apply Kd.R_drewN|apply Kd.R_drew));exact HO_7.out));(case aS=>exact (keep_size (w:=w) (g:=g) (row:=none) (by repeat (first|(with_reducible first|exact HK.out|apply KeepBut.set_|apply keep_drewN|apply keep_drew|apply keep_alloc)|exact HK.out))));(case aL=>have:=LMc11.out;omega);intro v110 w13 ho hb hg hat;rw [← Ny109.out] at ho;have n0_:=Aside0.mk (IsS25.grown (show IsS25 w0 _ g s0_0 t108 from by repeat (first|(with_reducible first|exact HI0.out|apply IsS25.alloc|apply IsS25.drewN|apply IsS25.drew|apply IsS25.set_1)|exact HI0.out)) hg (IsS25.own_ne HI0.out HO_7.out (by decide)));have n1_:=Aside0.mk (below_weaken (by repeat (first|(with_reducible first|exact HB.out|apply below_alloc|apply pw_below_drewN|apply below_drew1|refine below_set ?_ (IsS25.ge HI0.out))|exact HB.out)) HL.out hb);have n2_:=Aside0.mk (KeepBut.trans (by repeat (first|(with_reducible first|exact HK.out|apply KeepBut.set_|apply keep_drewN|apply keep_drew|apply keep_alloc)|exact HK.out)) (KeepBut.of_grown hg g) (Kd.R_base2 HO_7.out));have n3_:=Aside0.mk (ho);clear HI0;clear HB;clear HK;clear HO_7;have HI0:=n0_;have HB:=n1_;have HK:=n2_;have HO111:=n3_;clear n0_ n1_ n2_ n3_;clear ho hb hg hat))
       go_roundg k1
       case measure=>have:=HK1.out;omega
       case rel=>exact ⟨(y109),(wrap64 (x8_1 + 1)),(t108),(by first|rfl|(simp;done)|(simp [*];done)),H',⟨by have:=HK1.out;omega⟩,⟨by (with_reducible repeat (first|apply Kd.R_alloc|apply Kd.R_drewN|apply Kd.R_drew));exact HO111.out⟩,⟨by repeat (first|(with_reducible first|exact HI0.out|apply IsS25.alloc|apply IsS25.drewN|apply IsS25.drew|apply IsS25.set_1)|exact HI0.out)⟩,⟨by repeat (first|(with_reducible first|exact HK.out|apply KeepBut.set_|apply keep_drewN|apply keep_drew|apply keep_alloc)|exact HK.out)⟩,⟨by repeat (first|(with_reducible first|exact HB.out|apply below_alloc|apply pw_below_drewN|apply below_drew1|refine below_set ?_ (IsS25.ge HI0.out))|exact HB.out)⟩⟩
      ·rw [if_neg c11] at H
       exact absurd H (by simp)
     ·rw [if_neg c9] at H
      have c9b0:decide (x8_1 < a1) = false:=decide_eq_false c9
      clear c9
      simp only [Option.some.injEq,Prod.mk.injEq] at H
      obtain ⟨rfl,rfl⟩:=H
      go_wp2
      go_ret
      exact ⟨_,by first|rfl|(simp [errW_none,errW_some] <;> rfl)|(simp only [← hji4];first|rfl|(simp [errW_none,errW_some] <;> rfl))|(simp [*,errW_none,errW_some] <;> rfl),by (with_reducible repeat (first|apply Kd.R_alloc|apply Kd.R_drewN|apply Kd.R_drew));exact HO_7.out,by repeat (first|(with_reducible first|exact HI0.out|apply IsS25.alloc|apply IsS25.drewN|apply IsS25.drew|apply IsS25.set_1)|exact HI0.out),by repeat (first|(with_reducible first|exact HB.out|apply below_alloc|apply pw_below_drewN|apply below_drew1|refine below_set ?_ (IsS25.ge HI0.out))|exact HB.out),by repeat (first|(with_reducible first|exact HK.out|apply KeepBut.set_|apply keep_drewN|apply keep_drew|apply keep_alloc)|exact HK.out)⟩
  ·rw [if_neg c6] at H
   exact absurd H (by simp)
 ·rw [if_neg c5] at H
  exact absurd H (by simp)

/-! ### law26_text: function 15 -/
def law26_text.f (k:Nat) (s0_0:List Int) (s0_1:Int) (a1:Int):Option (List Int × Int):=(make_Tape_Next.f s0_0 s0_1 (wrap64 (a1 + 1))).bind fun bt112=>((make_Tape_Next.f s0_0 bt112.2 4).bind fun bt114=>((make_Tape_Bytes.f k s0_0 bt114.2 bt112.1 (wrap64 (1 + bt114.1))).bind fun bt116=>(some (bt116.1,bt116.2))))
set_option maxHeartbeats 8000000 in
set_option maxRecDepth 100000 in
theorem law26_text.calls (k:Nat) (g:Nat) (s0_0:List Int) (s0_1:Int) (a1:Int) (r1:List Int) (r2:Int) (w0 w:World) (hI:IsS25 w0 w g s0_0 s0_1) (hB:Below w0.heap.size w0 w) (h:law26_text.f k s0_0 s0_1 a1 = some (r1,r2)) :
  Calls Try.prog 15 #[.pointer (some ⟨g,0,none⟩),.int .i64 a1] w fun e w'=>∃ v0_:Value,e = .returned (v0_) ∧ Kd.R (Kd.int .u8) 5 w' w.heap.size (fun _=>True) v0_ r1 ∧ IsS25 w0 w' g s0_0 r2 ∧ Below w0.heap.size w0 w' ∧ KeepBut w w' g none:=by
 have HI0:=Aside0.mk hI
 have HK:=Aside0.mk (KeepBut.refl w g none)
 have HL:=Aside0.mk hB.size
 clear hI
 have HW0:=Aside0.mk hB.size
 have HB:=Aside0.mk hB
 clear hB
 have H:((make_Tape_Next.f s0_0 s0_1 (wrap64 (a1 + 1))).bind fun bt112=>((make_Tape_Next.f s0_0 bt112.2 4).bind fun bt114=>((make_Tape_Bytes.f k s0_0 bt114.2 bt112.1 (wrap64 (1 + bt114.1))).bind fun bt116=>(some (bt116.1,bt116.2))))) = some (r1,r2):=h
 clear h
 replace H:=Option.bind_eq_some_iff.mp H
 obtain ⟨⟨t112,t113⟩,A30,H⟩:=H
 replace H:((make_Tape_Next.f s0_0 t113 4).bind fun bt114=>((make_Tape_Bytes.f k s0_0 bt114.2 t112 (wrap64 (1 + bt114.1))).bind fun bt116=>(some (bt116.1,bt116.2)))) = some (r1,r2):=H
 have A3:=Aside0.mk A30
 clear A30
 replace H:=Option.bind_eq_some_iff.mp H
 obtain ⟨⟨t114,t115⟩,A40,H⟩:=H
 replace H:((make_Tape_Bytes.f k s0_0 t115 t112 (wrap64 (1 + t114))).bind fun bt116=>(some (bt116.1,bt116.2))) = some (r1,r2):=H
 have A4:=Aside0.mk A40
 clear A40
 replace H:=Option.bind_eq_some_iff.mp H
 obtain ⟨⟨t116,t119⟩,A50,H⟩:=H
 replace H:(some (t116,t119)) = some (r1,r2):=H
 have A5:=Aside0.mk A50
 clear A50
 simp only [Option.some.injEq,Prod.mk.injEq] at H
 obtain ⟨rfl,rfl⟩:=H
 go_enter Try.func15,Try.ntmps15
 go_wp2_with (first|((with_reducible refine gate_callee (f:=16) rfl ?_);refine goesL_ (some 9) rfl rfl Try.func16 (by kernel_rfl) rfl #[.pointer (some ⟨g,0,none⟩),.int .i64 (wrap64 (a1 + 1))] rfl (by (try simp only [List.map_toArray,List.map_cons,List.map_nil]);first|done|rfl|(simp only [List.length_drop,List.length_take];rfl)) ?_;(with_reducible refine (make_Tape_Next.calls g s0_0 s0_1 (wrap64 (a1 + 1)) t112 t113 w0 _ ?side1 ?side2 A3.out).mono ?_);(case side1=>repeat (first|(with_reducible first|exact HI0.out|apply IsS25.alloc|apply IsS25.drewN|apply IsS25.drew|apply IsS25.set_1)|exact HI0.out));(case side2=>repeat (first|(with_reducible first|exact HB.out|apply below_alloc|apply pw_below_drewN|apply below_drew1|refine below_set ?_ (IsS25.ge HI0.out))|exact HB.out));rintro e w6 ⟨rfl,hi,hb,hk⟩;refine ⟨_,rfl,?_⟩;have n0_:=Aside0.mk (KeepBut.trans (by repeat (first|(with_reducible first|exact HK.out|apply KeepBut.set_|apply keep_drewN|apply keep_drew|apply keep_alloc)|exact HK.out)) hk (.inl rfl));have n1_:=Aside0.mk (hb);have n2_:=Aside0.mk (hi);clear HK;clear HB;clear HI0;have HK:=n0_;have HB:=n1_;have HI0:=n2_;clear n0_ n1_ n2_;(try clear hb);(try clear hb2);(try clear hk);(try clear hi))|((with_reducible refine gate_callee (f:=16) rfl ?_);refine goesL_ (some 11) rfl rfl Try.func16 (by kernel_rfl) rfl #[.pointer (some ⟨g,0,none⟩),.int .i64 4] rfl (by (try simp only [List.map_toArray,List.map_cons,List.map_nil]);first|done|rfl|(simp only [List.length_drop,List.length_take];rfl)) ?_;(with_reducible refine (make_Tape_Next.calls g s0_0 t113 4 t114 t115 w0 _ ?side1 ?side2 A4.out).mono ?_);(case side1=>repeat (first|(with_reducible first|exact HI0.out|apply IsS25.alloc|apply IsS25.drewN|apply IsS25.drew|apply IsS25.set_1)|exact HI0.out));(case side2=>repeat (first|(with_reducible first|exact HB.out|apply below_alloc|apply pw_below_drewN|apply below_drew1|refine below_set ?_ (IsS25.ge HI0.out))|exact HB.out));rintro e w7 ⟨rfl,hi,hb,hk⟩;refine ⟨_,rfl,?_⟩;have n0_:=Aside0.mk (KeepBut.trans (by repeat (first|(with_reducible first|exact HK.out|apply KeepBut.set_|apply keep_drewN|apply keep_drew|apply keep_alloc)|exact HK.out)) hk (.inl rfl));have n1_:=Aside0.mk (hb);have n2_:=Aside0.mk (hi);clear HK;clear HB;clear HI0;have HK:=n0_;have HB:=n1_;have HI0:=n2_;clear n0_ n1_ n2_;(try clear hb);(try clear hb2);(try clear hk);(try clear hi))|((with_reducible refine gate_callee (f:=41) rfl ?_);refine goesL_ (some 13) rfl rfl Try.func41 (by kernel_rfl) rfl #[.pointer (some ⟨g,0,none⟩),.int .i64 t112,.int .i64 (wrap64 (1 + t114))] rfl (by (try simp only [List.map_toArray,List.map_cons,List.map_nil]);first|done|rfl|(simp only [List.length_drop,List.length_take];rfl)) ?_;(with_reducible refine (make_Tape_Bytes.calls k g s0_0 t115 t112 (wrap64 (1 + t114)) t116 t119 w0 _ ?side1 ?side2 A5.out).mono ?_);(case side1=>repeat (first|(with_reducible first|exact HI0.out|apply IsS25.alloc|apply IsS25.drewN|apply IsS25.drew|apply IsS25.set_1)|exact HI0.out));(case side2=>repeat (first|(with_reducible first|exact HB.out|apply below_alloc|apply pw_below_drewN|apply below_drew1|refine below_set ?_ (IsS25.ge HI0.out))|exact HB.out));rintro e w8 ⟨v117,rfl,ho0,hi,hb,hk⟩;refine ⟨_,rfl,?_⟩;have n0_:=Aside0.mk (Kd.R_lower ho0 (keep_size (w:=w) (g:=g) (row:=none) (by repeat (first|(with_reducible first|exact HK.out|apply KeepBut.set_|apply keep_drewN|apply keep_drew|apply keep_alloc)|exact HK.out))));have n1_:=Aside0.mk (KeepBut.trans (by repeat (first|(with_reducible first|exact HK.out|apply KeepBut.set_|apply keep_drewN|apply keep_drew|apply keep_alloc)|exact HK.out)) hk (.inl rfl));have n2_:=Aside0.mk (hb);have n3_:=Aside0.mk (hi);clear HK;clear HB;clear HI0;have HO118:=n0_;have HK:=n1_;have HB:=n2_;have HI0:=n3_;clear n0_ n1_ n2_ n3_;(try clear hb);(try clear hb2);(try clear hk);(try clear hi);(try clear ho0)))
 go_ret
 exact ⟨_,by first|rfl|(simp [errW_none,errW_some] <;> rfl)|(simp [*,errW_none,errW_some] <;> rfl),by (with_reducible repeat (first|apply Kd.R_alloc|apply Kd.R_drewN|apply Kd.R_drew));exact HO118.out,by repeat (first|(with_reducible first|exact HI0.out|apply IsS25.alloc|apply IsS25.drewN|apply IsS25.drew|apply IsS25.set_1)|exact HI0.out),by repeat (first|(with_reducible first|exact HB.out|apply below_alloc|apply pw_below_drewN|apply below_drew1|refine below_set ?_ (IsS25.ge HI0.out))|exact HB.out),by repeat (first|(with_reducible first|exact HK.out|apply KeepBut.set_|apply keep_drewN|apply keep_drew|apply keep_alloc)|exact HK.out)⟩

/-! ### delta_common: function 42 -/
def delta_common.l0:Nat → List Int → List Int → Int → Option (Int)
 | 0,_,_,_=>none
 | k + 1,x0,x1,x5=>if x5 < (x0.length:Int) then (if x5 < (x1.length:Int) then (if 0 ≤ x5 then (if (rd x0 x5) = (rd x1 x5) then (delta_common.l0 k x0 x1 (wrap64 (x5 + 1))) else (some x5)) else (none)) else (some x5)) else (some x5)
def delta_common.f (k:Nat) (l0:List Int) (l1:List Int):Option (Int):=delta_common.l0 k l0 l1 0
set_option maxHeartbeats 8000000 in
set_option maxRecDepth 100000 in
theorem delta_common.calls (k:Nat) (A0:Option Addr) (c0:Nat) (l0:List Int) (A1:Option Addr) (c1:Nat) (l1:List Int) (r:Int) (w:World) (hr0:Kd.C (Kd.int .u8) w A0 l0.length l0) (hc0:l0.length ≤ c0) (hr1:Kd.C (Kd.int .u8) w A1 l1.length l1) (hc1:l1.length ≤ c1) (h:delta_common.f k l0 l1 = some r) :
  Calls Try.prog 42 #[.slice A0 l0.length c0,.slice A1 l1.length c1] w fun e w'=>e = .returned (.int .i64 r) ∧ Drawn0 w w':=by
 have HR0:=Aside0.mk hr0
 have HC0:=Aside0.mk hc0
 clear hr0 hc0
 have HR1:=Aside0.mk hr1
 have HC1:=Aside0.mk hc1
 clear hr1 hc1
 have H:(delta_common.l0 k l0 l1 0) = some r:=h
 clear h
 have H':=Aside0.mk H
 clear H
 go_enter Try.func42,Try.ntmps42
 go_wp2
 repeat (go_quiet (fail);try go_wp2)
 go_loopg [5] k (fun kq v5 w'=>∃ (x5_1:Int),v5 = .int .i64 x5_1 ∧ Aside0 (delta_common.l0 kq l0 l1 x5_1 = some r) ∧ Aside0 (kq ≤ k) ∧ Drawn0 w w')
 case atStart=>exact ⟨(0),(by first|rfl|(simp;done)|(simp [*];done)),H',⟨Nat.le_refl _⟩,by repeat (first|exact Drawn0.refl _|apply Drawn0.step)⟩
 case round =>
  clear H'
  try clear c1
  try clear p2
  obtain ⟨x5_1,rfl,HA,HK1,⟨m1,rfl⟩⟩:=hrel
  cases gk with
  | zero=>exact absurd HA.out (by simp [delta_common.l0])
  | succ k1 =>
   have H:=HA.out
   clear HA
   simp only [delta_common.l0] at H
   by_cases c3:x5_1 < (l0.length:Int)
   ·rw [if_pos c3] at H
    have c3b0:decide (x5_1 < (l0.length:Int)) = true:=decide_eq_true c3
    clear c3
    by_cases c4:x5_1 < (l1.length:Int)
    ·rw [if_pos c4] at H
     have c4b0:decide (x5_1 < (l1.length:Int)) = true:=decide_eq_true c4
     clear c4
     by_cases c5:0 ≤ x5_1
     ·rw [if_pos c5] at H
      have c5b0:decide (0 ≤ x5_1) = true:=decide_eq_true c5
      clear c5
      by_cases c6:(rd l0 x5_1) = (rd l1 x5_1)
      ·rw [if_pos c6] at H
       have c6b0:((rd l0 x5_1) == (rd l1 x5_1)) = true:=beq_iff_eq.mpr c6
       have c6b1:((rd l0 x5_1) != (rd l1 x5_1)) = false:=bne_eq_false_iff_eq.mpr c6
       clear c6
       have H':=Aside0.mk H
       clear H
       have p120:0 ≤ (x5_1:Int):=of_decide_eq_true (by first|(with_reducible assumption)|assumption)
       have q120:x5_1 < (l0.length:Int):=of_decide_eq_true (by first|(with_reducible assumption)|assumption)
       obtain ⟨ad120,e120,hx120_0⟩:=Kd.at_int HR0.out x5_1 p120 q120
       cases e120
       replace p120:=eq_true p120
       replace q120:=eq_true q120
       have p121:0 ≤ (x5_1:Int):=of_decide_eq_true (by first|(with_reducible assumption)|assumption)
       have q121:x5_1 < (l1.length:Int):=of_decide_eq_true (by first|(with_reducible assumption)|assumption)
       obtain ⟨ad121,e121,hx121_0⟩:=Kd.at_int HR1.out x5_1 p121 q121
       cases e121
       replace p121:=eq_true p121
       replace q121:=eq_true q121
       go_wp2
       repeat (go_quiet (fail);try go_wp2)
       go_roundg k1
       case measure=>have:=HK1.out;omega
       case rel=>exact ⟨(wrap64 (x5_1 + 1)),(by first|rfl|(simp;done)|(simp [*];done)),H',⟨by have:=HK1.out;omega⟩,by repeat (first|exact Drawn0.refl _|apply Drawn0.step)⟩
      ·rw [if_neg c6] at H
       have c6b0:((rd l0 x5_1) == (rd l1 x5_1)) = false:=beq_eq_false_iff_ne.mpr c6
       have c6b1:((rd l0 x5_1) != (rd l1 x5_1)) = true:=bne_iff_ne.mpr c6
       obtain rfl:=Option.some.inj H
       have p120:0 ≤ (x5_1:Int):=of_decide_eq_true (by first|(with_reducible assumption)|assumption)
       have q120:x5_1 < (l0.length:Int):=of_decide_eq_true (by first|(with_reducible assumption)|assumption)
       obtain ⟨ad120,e120,hx120_0⟩:=Kd.at_int HR0.out x5_1 p120 q120
       cases e120
       replace p120:=eq_true p120
       replace q120:=eq_true q120
       have p121:0 ≤ (x5_1:Int):=of_decide_eq_true (by first|(with_reducible assumption)|assumption)
       have q121:x5_1 < (l1.length:Int):=of_decide_eq_true (by first|(with_reducible assumption)|assumption)
       obtain ⟨ad121,e121,hx121_0⟩:=Kd.at_int HR1.out x5_1 p121 q121
       cases e121
       replace p121:=eq_true p121
       replace q121:=eq_true q121
       go_wp2
       repeat (go_quiet (fail);try go_wp2)
       go_ret
       exact ⟨by first|rfl|(simp;done)|(simp [*];done),by repeat (first|exact Drawn0.refl _|apply Drawn0.step)⟩
     ·rw [if_neg c5] at H
      exact absurd H (by simp)
    ·rw [if_neg c4] at H
     have c4b0:decide (x5_1 < (l1.length:Int)) = false:=decide_eq_false c4
     clear c4
     obtain rfl:=Option.some.inj H
     go_wp2
     repeat (go_quiet (fail);try go_wp2)
     go_ret
     exact ⟨by first|rfl|(simp;done)|(simp [*];done),by repeat (first|exact Drawn0.refl _|apply Drawn0.step)⟩
   ·rw [if_neg c3] at H
    have c3b0:decide (x5_1 < (l0.length:Int)) = false:=decide_eq_false c3
    clear c3
    obtain rfl:=Option.some.inj H
    go_wp2
    repeat (go_quiet (fail);try go_wp2)
    go_ret
    exact ⟨by first|rfl|(simp;done)|(simp [*];done),by repeat (first|exact Drawn0.refl _|apply Drawn0.step)⟩

-- NOT PRINTED: function 43 (delta_writer_write)

-- NOT PRINTED: function 44 (delta_writer_copy)

-- NOT PRINTED: function 47 (delta_kind)

end Go.Proofs.Ytjckjcekapkkjaa.P
