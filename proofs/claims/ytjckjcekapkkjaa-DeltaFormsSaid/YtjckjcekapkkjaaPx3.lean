-- WRITTEN BY myprint.py (wip/tools) for this seat
import Derived.Test.YtjckjcekapkkjaaPx0
import Derived.Test.YtjckjcekapkkjaaPx1
import Derived.Test.YtjckjcekapkkjaaHWords
namespace Go.Proofs.Ytjckjcekapkkjaa.P
open Go.RowKit Go.Proofs.YtjckjcekapkkjaaW.PrintWords Go.Proofs.YtjckjcekapkkjaaW.PrintLast Go.Proofs.YtjckjcekapkkjaaW.PrintMore
attribute [local go_sem] max2_int min2_int max_two min_two max_three min_three max_four min_four   -- for this text's walks alone
set_option linter.unusedVariables false
set_option linter.unusedSimpArgs false

/-! ### make_Tape_Bytes: function 41 -/
def make_Tape_Bytes.l0:Nat → Int → Int → List Int → Int → List Int → Int → Option (List Int × Int)
 | 0,_,_,_,_,_,_=>none
 | k + 1,x1,x2,x7,x8,x1000,x1001=>if x8 < x1 then ((make_Tape_Next.f x1000 x1001 x2).bind fun bt143=>(if x7.length < 140737488355328 then (make_Tape_Bytes.l0 k x1 x2 (x7 ++ [(bt143.1) % 256]) (wrap64 (x8 + 1)) x1000 bt143.2) else (none))) else (some (x7,x1001))
def make_Tape_Bytes.f (k:Nat) (s0_0:List Int) (s0_1:Int) (a1:Int) (a2:Int):Option (List Int × Int):=if 0 ≤ (mx a1 0) then (if (mx a1 0:Int).toNat ≤ 281474976710656 then (make_Tape_Bytes.l0 k a1 a2 (([]:List Int)) 0 s0_0 s0_1) else (none)) else (none)
set_option maxHeartbeats 8000000 in
set_option maxRecDepth 100000 in
theorem make_Tape_Bytes.calls (k:Nat) (g:Nat) (s0_0:List Int) (s0_1:Int) (a1:Int) (a2:Int) (r1:List Int) (r2:Int) (w0 w:World) (hI:IsS25 w0 w g s0_0 s0_1) (hB:Below w0.heap.size w0 w) (h:make_Tape_Bytes.f k s0_0 s0_1 a1 a2 = some (r1,r2)) :
  Calls Try.prog 41 #[.pointer (some ⟨g,0,none⟩),.int .i64 a1,.int .i64 a2] w fun e w'=>∃ v0_:Value,e = .returned (v0_) ∧ Kd.R (Kd.int .u8) 5 w' w.heap.size (fun _=>True) v0_ r1 ∧ IsS25 w0 w' g s0_0 r2 ∧ Below w0.heap.size w0 w' ∧ KeepBut w w' g none:=by
 have HI0:=Aside0.mk hI
 have HK:=Aside0.mk (KeepBut.refl w g none)
 have HL:=Aside0.mk hB.size
 clear hI
 have HW0:=Aside0.mk hB.size
 have HB:=Aside0.mk hB
 clear hB
 have H:(if 0 ≤ (mx a1 0) then (if (mx a1 0:Int).toNat ≤ 281474976710656 then (make_Tape_Bytes.l0 k a1 a2 (([]:List Int)) 0 s0_0 s0_1) else (none)) else (none)) = some (r1,r2):=h
 clear h
 obtain ⟨ji4,hji4⟩:∃ j_:Int,(mx a1 0) = j_:=⟨_,rfl⟩
 replace H:(if 0 ≤ (ji4) then (if (ji4:Int).toNat ≤ 281474976710656 then (make_Tape_Bytes.l0 k a1 a2 (([]:List Int)) 0 s0_0 s0_1) else (none)) else (none)) = some (r1,r2):=by first|(rw [hji4] at H;exact H)|(simp only [hji4] at H ⊢;exact H)
 (try (have hji4l:0 ≤ ji4:=by (rw [← hji4];unfold mx;(repeat' split) <;> omega)))
 (try (have hji4m:0 ≤ ji4:=by omega))
 have hji4_:(if a1 < 0 then 0 else a1) = ji4:=hji4
 by_cases c5:0 ≤ (ji4)
 ·rw [if_pos c5] at H
  have c5b0:=eq_true c5
  have c5b1:decide (0 ≤ (ji4)) = true:=decide_eq_true c5
  clear c5
  by_cases c6:(ji4:Int).toNat ≤ 281474976710656
  ·rw [if_pos c6] at H
   have c6b0:=eq_true c6
   have c6b1:decide ((ji4:Int).toNat ≤ 281474976710656) = true:=decide_eq_true c6
   clear c6
   obtain ⟨y140,hy140⟩:∃ y_:List Int,y_ = (([]:List Int)):=⟨_,rfl⟩
   replace H:(make_Tape_Bytes.l0 k a1 a2 y140 0 s0_0 s0_1) = some (r1,r2):=by first|(rw [hy140];with_reducible exact H)|(have H2_:=(Option.bind_some _ _).symm.trans H;rw [hy140];with_reducible exact H2_)|(have H2_:=(Option.bind_some _ _).symm.trans H;with_reducible exact H2_)|with_reducible exact H|(rw [hy140];exact H)|exact H
   have Ny140:=Aside0.mk hy140
   clear hy140
   have H':=Aside0.mk H
   clear H
   go_enter Try.func41,Try.ntmps41
   go_wp2_with (first|((with_reducible refine gate_dst (N:=11) rfl ?_);refine R_make0_ (Kd.int .u8) _ 5 rfl (N:=11) rfl 26 _ _ rfl ji4 rfl rfl Try.underlying26 (.int .u8 0) 1 info5 rfl (by decide) (by omega) 0 (ok:=fun _=>True) (okp:=fun _=>True) rfl (fun _ hk=>hk) trivial (of_decide_eq_true (by first|(with_reducible assumption)|assumption)) (Nat.le_trans (Nat.mul_le_mul_right _ (of_decide_eq_true (by first|(with_reducible assumption)|assumption):ji4.toNat ≤ 281474976710656)) (by omega)) (Below.refl _ _) (Nat.le_refl _) ?_;intro v141 w7 ho8 hb hg_ hnew_;clear hg_ hnew_;(first|rw [← Ny140.out] at ho8|(simp only [Int.reduceToNat] at ho8;rw [← Ny140.out] at ho8));have n0_:=Aside0.mk (Kd.R_lower ho8 (keep_size (w:=w) (g:=g) (row:=none) (by repeat (first|(with_reducible first|exact HK.out|apply KeepBut.set_|apply keep_drewN|apply keep_drew|apply keep_alloc)|exact HK.out))));have n1_:=Aside0.mk (IsS25.below (by repeat (first|(with_reducible first|exact HI0.out|apply IsS25.alloc|apply IsS25.drewN|apply IsS25.drew|apply IsS25.set_1)|exact HI0.out)) hb);have n2_:=Aside0.mk (KeepBut.trans (by repeat (first|(with_reducible first|exact HK.out|apply KeepBut.set_|apply keep_drewN|apply keep_drew|apply keep_alloc)|exact HK.out)) (KeepBut.of_below hb g none) (.inl rfl));have n3_:=Aside0.mk (below_step (by repeat (first|(with_reducible first|exact HB.out|apply below_alloc|apply pw_below_drewN|apply below_drew1|refine below_set ?_ (IsS25.ge HI0.out))|exact HB.out)) hb);clear HI0;clear HK;clear HB;have HO142:=n0_;have HI0:=n1_;have HK:=n2_;have HB:=n3_;clear n0_ n1_ n2_ n3_;clear hb ho8))
   go_loopg [7,8] k (fun kq v7 v8 w'=>∃ (x7_1:List Int) (x8_1:Int) (x1001_1:Int),v8 = .int .i64 x8_1 ∧ Aside0 (make_Tape_Bytes.l0 kq a1 a2 x7_1 x8_1 s0_0 x1001_1 = some (r1,r2)) ∧ Aside0 (kq ≤ k) ∧ Aside0 (Kd.R (Kd.int .u8) 5 w' w.heap.size (fun _=>True) v7 x7_1) ∧ Aside0 (IsS25 w0 w' g s0_0 x1001_1) ∧ Aside0 (KeepBut w w' g none) ∧ Aside0 (Below w0.heap.size w0 w'))
   case atStart=>exact ⟨(y140),(0),(s0_1),(by first|rfl|(simp;done)|(simp [*];done)),H',⟨Nat.le_refl _⟩,⟨by (with_reducible repeat (first|apply Kd.R_alloc|apply Kd.R_drewN|apply Kd.R_drew));exact HO142.out⟩,⟨by repeat (first|(with_reducible first|exact HI0.out|apply IsS25.alloc|apply IsS25.drewN|apply IsS25.drew|apply IsS25.set_1)|exact HI0.out)⟩,⟨by repeat (first|(with_reducible first|exact HK.out|apply KeepBut.set_|apply keep_drewN|apply keep_drew|apply keep_alloc)|exact HK.out)⟩,⟨by repeat (first|(with_reducible first|exact HB.out|apply below_alloc|apply pw_below_drewN|apply below_drew1|refine below_set ?_ (IsS25.ge HI0.out))|exact HB.out)⟩⟩
   case round =>
    clear H'
    try clear p2
    try clear c4
    try clear c5
    try clear c5b0
    try clear c5b1
    try clear c6
    try clear c6b0
    try clear c6b1
    obtain ⟨x7_1,x8_1,x1001_1,rfl,HA,HK1,HO_7,HI0,HK,HB⟩:=hrel
    cases gk with
    | zero=>exact absurd HA.out (by simp [make_Tape_Bytes.l0])
    | succ k1 =>
     have H:=HA.out
     clear HA
     simp only [make_Tape_Bytes.l0] at H
     by_cases c9:x8_1 < a1
     ·rw [if_pos c9] at H
      have c9b0:decide (x8_1 < a1) = true:=decide_eq_true c9
      clear c9
      replace H:=Option.bind_eq_some_iff.mp H
      obtain ⟨⟨t143,t144⟩,A100,H⟩:=H
      replace H:(if x7_1.length < 140737488355328 then (make_Tape_Bytes.l0 k1 a1 a2 (x7_1 ++ [(t143) % 256]) (wrap64 (x8_1 + 1)) s0_0 t144) else (none)) = some (r1,r2):=H
      have A10:=Aside0.mk A100
      clear A100
      by_cases c11:x7_1.length < 140737488355328
      ·rw [if_pos c11] at H
       have LMc11:=Aside0.mk c11
       clear c11
       obtain ⟨y145,hy145⟩:∃ y_:List Int,y_ = (x7_1 ++ [(t143) % 256]):=⟨_,rfl⟩
       replace H:(make_Tape_Bytes.l0 k1 a1 a2 y145 (wrap64 (x8_1 + 1)) s0_0 t144) = some (r1,r2):=by first|(rw [hy145];with_reducible exact H)|(have H2_:=(Option.bind_some _ _).symm.trans H;rw [hy145];with_reducible exact H2_)|(have H2_:=(Option.bind_some _ _).symm.trans H;with_reducible exact H2_)|with_reducible exact H|(rw [hy145];exact H)|exact H
       have Ny145:=Aside0.mk hy145
       clear hy145
       have H':=Aside0.mk H
       clear H
       go_wp2_with (first|((with_reducible refine gate_callee (f:=16) rfl ?_);refine goesL_ (some 20) rfl rfl Try.func16 (by kernel_rfl) rfl #[.pointer (some ⟨g,0,none⟩),.int .i64 a2] rfl (by (try simp only [List.map_toArray,List.map_cons,List.map_nil]);first|done|rfl|(simp only [List.length_drop,List.length_take];rfl)) ?_;(with_reducible refine (make_Tape_Next.calls g s0_0 x1001_1 a2 t143 t144 w0 _ ?side1 ?side2 A10.out).mono ?_);(case side1=>repeat (first|(with_reducible first|exact HI0.out|apply IsS25.alloc|apply IsS25.drewN|apply IsS25.drew|apply IsS25.set_1)|exact HI0.out));(case side2=>repeat (first|(with_reducible first|exact HB.out|apply below_alloc|apply pw_below_drewN|apply below_drew1|refine below_set ?_ (IsS25.ge HI0.out))|exact HB.out));rintro e w12 ⟨rfl,hi,hb,hk⟩;refine ⟨_,rfl,?_⟩;have n0_:=Aside0.mk (Kd.R_mono (Kd.R_keep (IsS25.apart (show IsS25 w0 _ g s0_0 x1001_1 from by repeat (first|(with_reducible first|exact HI0.out|apply IsS25.alloc|apply IsS25.drewN|apply IsS25.drew|apply IsS25.set_1)|exact HI0.out)) (by (with_reducible repeat (first|apply Kd.R_alloc|apply Kd.R_drewN|apply Kd.R_drew));exact HO_7.out) (by decide)) hk (fun _ h=>h.2)) (fun _ h=>h.1));have n1_:=Aside0.mk (KeepBut.trans (by repeat (first|(with_reducible first|exact HK.out|apply KeepBut.set_|apply keep_drewN|apply keep_drew|apply keep_alloc)|exact HK.out)) hk (.inl rfl));have n2_:=Aside0.mk (hb);have n3_:=Aside0.mk (hi);clear HO_7;clear HK;clear HB;clear HI0;have HO_7:=n0_;have HK:=n1_;have HB:=n2_;have HI0:=n3_;clear n0_ n1_ n2_ n3_;(try clear hb);(try clear hb2);(try clear hk);(try clear hi))|((with_reducible refine gate_builtin (b:=.append) (xs:=#[.tmp 17,.tmp 22]) rfl ?_);at_builtin;refine Kd.R_append (Kd.int .u8) w.heap.size rfl (.tmp 17) (.tmp 22) 26 5 (.int .u8 0) 1 rfl Try.underlying26 info5 rfl (by decide) (by omega) u7 x7_1 ((t143) % 256) [.int .u8 ((t143) % 256)] (fun _=>True) (fun _=>False) rfl rfl ?aP (fun _ hk=>hk.elim) ?aF ?aO (Below.refl _ _) ?aS ?aL ?_;(case aP=>exact rfl);(case aF=>exact (fun _ _=>trivial));(case aO=>exact (by (with_reducible repeat (first|apply Kd.R_alloc|apply Kd.R_drewN|apply Kd.R_drew));exact HO_7.out));(case aS=>exact (keep_size (w:=w) (g:=g) (row:=none) (by repeat (first|(with_reducible first|exact HK.out|apply KeepBut.set_|apply keep_drewN|apply keep_drew|apply keep_alloc)|exact HK.out))));(case aL=>have:=LMc11.out;omega);intro v146 w13 ho hb hg hat;rw [← Ny145.out] at ho;have n0_:=Aside0.mk (IsS25.grown (show IsS25 w0 _ g s0_0 t144 from by repeat (first|(with_reducible first|exact HI0.out|apply IsS25.alloc|apply IsS25.drewN|apply IsS25.drew|apply IsS25.set_1)|exact HI0.out)) hg (IsS25.own_ne HI0.out HO_7.out (by decide)));have n1_:=Aside0.mk (below_weaken (by repeat (first|(with_reducible first|exact HB.out|apply below_alloc|apply pw_below_drewN|apply below_drew1|refine below_set ?_ (IsS25.ge HI0.out))|exact HB.out)) HL.out hb);have n2_:=Aside0.mk (KeepBut.trans (by repeat (first|(with_reducible first|exact HK.out|apply KeepBut.set_|apply keep_drewN|apply keep_drew|apply keep_alloc)|exact HK.out)) (KeepBut.of_grown hg g) (Kd.R_base2 HO_7.out));have n3_:=Aside0.mk (ho);clear HI0;clear HB;clear HK;clear HO_7;have HI0:=n0_;have HB:=n1_;have HK:=n2_;have HO147:=n3_;clear n0_ n1_ n2_ n3_;clear ho hb hg hat))
       go_roundg k1
       case measure=>have:=HK1.out;omega
       case rel=>exact ⟨(y145),(wrap64 (x8_1 + 1)),(t144),(by first|rfl|(simp;done)|(simp [*];done)),H',⟨by have:=HK1.out;omega⟩,⟨by (with_reducible repeat (first|apply Kd.R_alloc|apply Kd.R_drewN|apply Kd.R_drew));exact HO147.out⟩,⟨by repeat (first|(with_reducible first|exact HI0.out|apply IsS25.alloc|apply IsS25.drewN|apply IsS25.drew|apply IsS25.set_1)|exact HI0.out)⟩,⟨by repeat (first|(with_reducible first|exact HK.out|apply KeepBut.set_|apply keep_drewN|apply keep_drew|apply keep_alloc)|exact HK.out)⟩,⟨by repeat (first|(with_reducible first|exact HB.out|apply below_alloc|apply pw_below_drewN|apply below_drew1|refine below_set ?_ (IsS25.ge HI0.out))|exact HB.out)⟩⟩
      ·rw [if_neg c11] at H
       exact absurd H (by simp)
     ·rw [if_neg c9] at H
      have c9b0:decide (x8_1 < a1) = false:=decide_eq_false c9
      clear c9
      simp only [Option.some.injEq,Prod.mk.injEq] at H
      obtain ⟨rfl,rfl⟩:=H
      go_wp2
      go_ret
      exact ⟨_,by first|rfl|(simp [errW_none,errW_some] <;> rfl)|(simp only [← hji4];first|rfl|(simp [errW_none,errW_some] <;> rfl))|(simp [*,errW_none,errW_some] <;> rfl),by (with_reducible repeat (first|apply Kd.R_alloc|apply Kd.R_drewN|apply Kd.R_drew));exact HO_7.out,by repeat (first|(with_reducible first|exact HI0.out|apply IsS25.alloc|apply IsS25.drewN|apply IsS25.drew|apply IsS25.set_1)|exact HI0.out),by repeat (first|(with_reducible first|exact HB.out|apply below_alloc|apply pw_below_drewN|apply below_drew1|refine below_set ?_ (IsS25.ge HI0.out))|exact HB.out),by repeat (first|(with_reducible first|exact HK.out|apply KeepBut.set_|apply keep_drewN|apply keep_drew|apply keep_alloc)|exact HK.out)⟩
  ·rw [if_neg c6] at H
   exact absurd H (by simp)
 ·rw [if_neg c5] at H
  exact absurd H (by simp)

end Go.Proofs.Ytjckjcekapkkjaa.P
