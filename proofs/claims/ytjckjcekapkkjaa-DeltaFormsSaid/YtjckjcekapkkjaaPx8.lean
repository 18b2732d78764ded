-- WRITTEN BY myprint.py (wip/tools) for this seat
import Derived.Test.YtjckjcekapkkjaaPx0
import Derived.Test.YtjckjcekapkkjaaHCheck
import Derived.Test.YtjckjcekapkkjaaHWords
import Derived.Test.YtjckjcekapkkjaaHUint
namespace Go.Proofs.Ytjckjcekapkkjaa.P
open Go.RowKit Go.Proofs.YtjckjcekapkkjaaW.PrintWords Go.Proofs.YtjckjcekapkkjaaW.PrintLast Go.Proofs.YtjckjcekapkkjaaW.PrintMore
attribute [local go_sem] max2_int min2_int max_two min_two max_three min_three max_four min_four   -- for this text's walks alone
set_option linter.unusedVariables false
set_option linter.unusedSimpArgs false

/-! ### delta_Decode: function 38 -/
mutual
def delta_Decode.j0:Nat → Int → List Int → Int → Int → Bool → Option ((List (S39)) × Int)
 | 0,_,_,_,_,_=>none
 | k + 1,x0,x1,x6,x7,x30=>if x30 = true then (some (([]:List (S39)),264)) else (delta_Decode.l0 k x0 x1 x7 ([]:List (S39)) x6 0)
def delta_Decode.l0:Nat → Int → List Int → Int → List (S39) → Int → Int → Option ((List (S39)) × Int)
 | 0,_,_,_,_,_,_=>none
 | k + 1,x0,x1,x7,x9,x31,x32=>if x32 < x31 then ((codec_Uint.f x1 x7).bind fun bt252=>(if bt252.2.2 = 0 then (delta_Decode.j2 k x0 x1 x9 bt252.1 bt252.2.1 (bt252.1 / 2) x31 x32 (decide ((bt252.1 / 2) > 1048576))) else (delta_Decode.j2 k x0 x1 x9 bt252.1 bt252.2.1 (bt252.1 / 2) x31 x32 true))) else ((delta_Check.f x0 x9).bind fun bt250=>(if bt250.2 = 0 then (if x7 = (x1.length:Int) then (some (x9,0)) else (some (([]:List (S39)),264))) else (some (([]:List (S39)),264))))
def delta_Decode.j2:Nat → Int → List Int → List (S39) → Int → Int → Int → Int → Int → Bool → Option ((List (S39)) × Int)
 | 0,_,_,_,_,_,_,_,_,_=>none
 | k + 1,x0,x1,x9,x10,x11,x13,x31,x32,x48=>if x48 = true then (some (([]:List (S39)),264)) else (if (Go.bits .and .u64 x10 1) = 1 then ((codec_Uint.f x1 x11).bind fun bt255=>(if bt255.2.2 = 0 then (delta_Decode.j3 k x0 x1 x9 x13 bt255.1 bt255.2.1 x31 x32 (decide (bt255.1 > 1048576))) else (delta_Decode.j3 k x0 x1 x9 x13 bt255.1 bt255.2.1 x31 x32 true))) else (if (wrap64 (x13)) > (wrap64 ((x1.length:Int) - x11)) then (some (([]:List (S39)),264)) else (if 0 ≤ x11 then (if x11 ≤ (wrap64 (x11 + (wrap64 (x13)))) then (if (wrap64 (x11 + (wrap64 (x13)))) ≤ (x1.length:Int) then ((bytes_Clone.f ((x1.take ((wrap64 (x11 + (wrap64 (x13)))):Int).toNat).drop (x11:Int).toNat)).bind fun t262=>(if x9.length < 3518437208883 then (delta_Decode.l0 k x0 x1 (wrap64 (x11 + (wrap64 (x13)))) (x9 ++ [(⟨0,0,t262⟩:S39)]) x31 (IntKind.u64.wrap (x32 + 1))) else (none))) else (none)) else (none)) else (none))))
def delta_Decode.j3:Nat → Int → List Int → List (S39) → Int → Int → Int → Int → Int → Bool → Option ((List (S39)) × Int)
 | 0,_,_,_,_,_,_,_,_,_=>none
 | k + 1,x0,x1,x9,x13,x14,x15,x31,x32,x65=>if x65 = true then (some (([]:List (S39)),264)) else (if x9.length < 3518437208883 then (delta_Decode.l0 k x0 x1 x15 (x9 ++ [(⟨wrap64 (x14),wrap64 (x13),([]:List Int)⟩:S39)]) x31 (IntKind.u64.wrap (x32 + 1))) else (none))
end
def delta_Decode.f (k:Nat) (a0:Int) (l1:List Int):Option ((List (S39)) × Int):=(codec_Uint.f l1 0).bind fun bt247=>(if bt247.2.2 = 0 then (delta_Decode.j0 k a0 l1 bt247.1 bt247.2.1 (decide (bt247.1 > 4096))) else (delta_Decode.j0 k a0 l1 bt247.1 bt247.2.1 true))
set_option maxHeartbeats 8000000 in
set_option maxRecDepth 100000 in
theorem delta_Decode.calls (k:Nat) (a0:Int) (A1:Option Addr) (c1:Nat) (l1:List Int) (r1:List (S39)) (r2:Int) (w:World) (hr1:Kd.C (Kd.int .u8) w A1 l1.length l1) (hc1:l1.length ≤ c1) (h:delta_Decode.f k a0 l1 = some (r1,r2)) :
  Calls Try.prog 38 #[.int .i64 a0,.slice A1 l1.length c1] w fun e w'=>∃ v0_:Value,e = .returned (.tuple #[v0_,.int .i64 r2]) ∧ Kd.S k39 39 w' w.heap.size (fun _=>True) v0_ r1 ∧ Below w.heap.size w w':=by
 have hu39:=Try.underlying39
 have HR1:=Aside0.mk hr1
 have HC1:=Aside0.mk hc1
 clear hr1 hc1
 have HB:=Aside0.mk (Below.refl w.heap.size w)
 have H:((codec_Uint.f l1 0).bind fun bt247=>(if bt247.2.2 = 0 then (delta_Decode.j0 k a0 l1 bt247.1 bt247.2.1 (decide (bt247.1 > 4096))) else (delta_Decode.j0 k a0 l1 bt247.1 bt247.2.1 true))) = some (r1,r2):=h
 clear h
 replace H:=Option.bind_eq_some_iff.mp H
 obtain ⟨⟨t247,t248,t249⟩,A30,H⟩:=H
 replace H:(if t249 = 0 then (delta_Decode.j0 k a0 l1 t247 t248 (decide (t247 > 4096))) else (delta_Decode.j0 k a0 l1 t247 t248 true)) = some (r1,r2):=H
 have A3:=Aside0.mk A30
 clear A30
 have HC4:=Aside0.mk H
 clear H
 go_enter Try.func38,Try.ntmps38
 go_upto_region 2 with (first|((with_reducible refine gate_callee (f:=55) rfl ?_);refine goesL_ (some 21) rfl rfl Try.func55 (by kernel_rfl) rfl #[.slice A1 l1.length c1,.int .i64 0] rfl (by (try simp only [List.map_toArray,List.map_cons,List.map_nil]);first|done|rfl|(simp only [List.length_drop,List.length_take];rfl)) ?_;(with_reducible refine (codec_Uint.calls _ _ l1 0 t247 t248 t249 _ ?side1 ?side2 A3.out).mono ?_);(case side1=>repeat (first|exact HR1.out|(with_reducible refine Kd.C_alloc ?_ _)|(with_reducible refine Kd.C_drewN ?_ _)|(with_reducible refine Kd.C_drew ?_)));(case side2=>exact HC1.out);rintro e w' ⟨rfl,⟨nd,rfl⟩⟩;refine ⟨_,rfl,?_⟩))
 (try simp only [Act.put,List.setIfInBounds_toArray,List.set_cons_zero,List.set_cons_succ])
 go_cut [30] (fun v30 wc=>∃ (kq:Nat) (x30_3:Bool),v30 = .bool x30_3 ∧ Aside0 (delta_Decode.j0 kq a0 l1 t247 t248 x30_3 = some (r1,r2)) ∧ Aside0 (kq ≤ k) ∧ Aside0 (Below w.heap.size w wc))
 case first =>
  have H:=HC4.out
  clear HC4
  by_cases c5:t249 = 0
  ·rw [if_pos c5] at H
   have c5b0:(t249 == 0) = true:=beq_iff_eq.mpr c5
   have c5b1:(t249 != 0) = false:=bne_eq_false_iff_eq.mpr c5
   clear c5
   (first|rw [c5b0]|(simp only [i64_w,i32_w];rw [c5b0])|skip)
   have H':=Aside0.mk H
   clear H
   go_wp2
   go_meet
   case rel=>exact ⟨_,(decide (t247 > 4096)),(by first|rfl|(simp;done)|(simp [*];done)),H',⟨by first|omega|exact Nat.le_refl _⟩,⟨by repeat (first|(with_reducible first|exact HB.out|apply below_alloc|apply pw_below_drewN|apply below_drew1)|exact HB.out)⟩⟩
  ·rw [if_neg c5] at H
   have c5b0:(t249 == 0) = false:=beq_eq_false_iff_ne.mpr c5
   have c5b1:(t249 != 0) = true:=bne_iff_ne.mpr c5
   (first|rw [c5b0]|(simp only [i64_w,i32_w];rw [c5b0])|skip)
   have H':=Aside0.mk H
   clear H
   go_wp2
   go_meet
   case rel=>exact ⟨_,(true),(by first|rfl|(simp;done)|(simp [*];done)),H',⟨by first|omega|exact Nat.le_refl _⟩,⟨by repeat (first|(with_reducible first|exact HB.out|apply below_alloc|apply pw_below_drewN|apply below_drew1)|exact HB.out)⟩⟩
 case rest =>
  clear HC4
  try clear c1
  try clear p2
  try clear c3
  try clear c5
  try clear c5b0
  try clear c5b1
  obtain ⟨kq,x30_3,rfl,HA,HJ3,HB⟩:=hcut
  cases kq with
  | zero=>exact absurd HA.out (by simp [delta_Decode.j0])
  | succ kj3 =>
   have H:=HA.out
   clear HA
   simp only [delta_Decode.j0] at H
   by_cases c6:x30_3 = true
   ·subst c6
    have H1:(some (([]:List (S39)),264)) = some (r1,r2):=by rw [if_pos rfl] at H;exact H
    clear H
    have H:=H1
    clear H1
    simp only [Option.some.injEq,Prod.mk.injEq] at H
    obtain ⟨rfl,rfl⟩:=H
    go_wp2
    go_ret2
    exact ⟨_,by first|rfl|(simp [errW_none,errW_some] <;> rfl)|(simp [*,errW_none,errW_some] <;> rfl),by first|exact Kd.S_nil _ _ _ _ _|exact Kd.N_nil _ _ _ _ _|exact Kd.V_nil _ _ _ _ _|exact Kd.Q_nil _ _ _ _ _|exact Kd.R_nil _ _ _ _ _,by repeat (first|(with_reducible first|exact HB.out|apply below_alloc|apply pw_below_drewN|apply below_drew1)|exact HB.out)⟩
   ·replace c6:=Bool.eq_false_iff.mpr c6
    subst c6
    have H1:(delta_Decode.l0 kj3 a0 l1 t248 ([]:List (S39)) t247 0) = some (r1,r2):=by rw [if_neg (show ¬ (false = true) by decide)] at H;exact H
    clear H
    have H:=H1
    clear H1
    have H':=Aside0.mk H
    clear H
    go_wp2
    go_loopg [7,9,32] kj3 (fun kq v7 v9 v32 w'=>∃ (x7_2:Int) (x9_2:List (S39)) (x32_2:Int),v7 = .int .i64 x7_2 ∧ v32 = .int .u64 x32_2 ∧ Aside0 (delta_Decode.l0 kq a0 l1 x7_2 x9_2 t247 x32_2 = some (r1,r2)) ∧ Aside0 (kq ≤ kj3) ∧ Aside0 (Kd.S k39 39 w' w.heap.size (fun _=>True) v9 x9_2) ∧ Aside0 (Below w.heap.size w w'))
    case atStart=>exact ⟨(t248),(([]:List (S39))),(0),(by first|rfl|(simp;done)|(simp [*];done)),(by first|rfl|(simp;done)|(simp [*];done)),H',⟨Nat.le_refl _⟩,⟨by first|exact Kd.S_nil _ _ _ _ _|exact Kd.N_nil _ _ _ _ _|exact Kd.V_nil _ _ _ _ _|exact Kd.Q_nil _ _ _ _ _|exact Kd.R_nil _ _ _ _ _⟩,⟨by repeat (first|(with_reducible first|exact HB.out|apply below_alloc|apply pw_below_drewN|apply below_drew1)|exact HB.out)⟩⟩
    case round =>
     clear H'
     try clear c1
     try clear p2
     try clear c3
     try clear c5
     try clear c5b0
     try clear c5b1
     try clear c6
     try clear p2
     obtain ⟨x7_2,x9_2,x32_2,rfl,rfl,HA,HK2,HO_9,HB⟩:=hrel
     cases gk with
     | zero=>exact absurd HA.out (by simp [delta_Decode.l0])
     | succ k2 =>
      have H:=HA.out
      clear HA
      simp only [delta_Decode.l0] at H
      by_cases c7:x32_2 < t247
      ·rw [if_pos c7] at H
       have c7b0:decide (x32_2 < t247) = true:=decide_eq_true c7
       clear c7
       replace H:=Option.bind_eq_some_iff.mp H
       obtain ⟨⟨t252,t253,t254⟩,A80,H⟩:=H
       replace H:(if t254 = 0 then (delta_Decode.j2 k2 a0 l1 x9_2 t252 t253 (t252 / 2) t247 x32_2 (decide ((t252 / 2) > 1048576))) else (delta_Decode.j2 k2 a0 l1 x9_2 t252 t253 (t252 / 2) t247 x32_2 true)) = some (r1,r2):=H
       have A8:=Aside0.mk A80
       clear A80
       have HC9:=Aside0.mk H
       clear H
       go_upto_region 9 with (first|((with_reducible refine gate_callee (f:=55) rfl ?_);refine goesL_ (some 37) rfl rfl Try.func55 (by kernel_rfl) rfl #[.slice A1 l1.length c1,.int .i64 x7_2] rfl (by (try simp only [List.map_toArray,List.map_cons,List.map_nil]);first|done|rfl|(simp only [List.length_drop,List.length_take];rfl)) ?_;(with_reducible refine (codec_Uint.calls _ _ l1 x7_2 t252 t253 t254 _ ?side1 ?side2 A8.out).mono ?_);(case side1=>repeat (first|exact (Kd.C_below HR1.out HB.out)|(with_reducible refine Kd.C_alloc ?_ _)|(with_reducible refine Kd.C_drewN ?_ _)|(with_reducible refine Kd.C_drew ?_)));(case side2=>exact HC1.out);rintro e w' ⟨rfl,⟨nd,rfl⟩⟩;refine ⟨_,rfl,?_⟩))
       (try simp only [Act.put,List.setIfInBounds_toArray,List.set_cons_zero,List.set_cons_succ])
       go_cut [48] (fun v48 wc=>∃ (kq:Nat) (x48_8:Bool),v48 = .bool x48_8 ∧ Aside0 (delta_Decode.j2 kq a0 l1 x9_2 t252 t253 (t252 / 2) t247 x32_2 x48_8 = some (r1,r2)) ∧ Aside0 (kq ≤ k2) ∧ Aside0 (Kd.S k39 39 wc w.heap.size (fun _=>True) u9 x9_2) ∧ Aside0 (Below w.heap.size w wc))
       case first =>
        have H:=HC9.out
        clear HC9
        by_cases c10:t254 = 0
        ·rw [if_pos c10] at H
         have c10b0:(t254 == 0) = true:=beq_iff_eq.mpr c10
         have c10b1:(t254 != 0) = false:=bne_eq_false_iff_eq.mpr c10
         clear c10
         (first|rw [c10b0]|(simp only [i64_w,i32_w];rw [c10b0])|skip)
         have H':=Aside0.mk H
         clear H
         go_wp2
         go_meet
         case rel=>exact ⟨_,(decide ((t252 / 2) > 1048576)),(by first|rfl|(simp;done)|(simp [*];done)),H',⟨by have:=HJ3.out;have:=HK2.out;first|omega|exact Nat.le_refl _⟩,⟨by (with_reducible repeat (first|apply Kd.S_alloc|apply Kd.S_drewN|apply Kd.S_drew));exact HO_9.out⟩,⟨by repeat (first|(with_reducible first|exact HB.out|apply below_alloc|apply pw_below_drewN|apply below_drew1)|exact HB.out)⟩⟩
        ·rw [if_neg c10] at H
         have c10b0:(t254 == 0) = false:=beq_eq_false_iff_ne.mpr c10
         have c10b1:(t254 != 0) = true:=bne_iff_ne.mpr c10
         (first|rw [c10b0]|(simp only [i64_w,i32_w];rw [c10b0])|skip)
         have H':=Aside0.mk H
         clear H
         go_wp2
         go_meet
         case rel=>exact ⟨_,(true),(by first|rfl|(simp;done)|(simp [*];done)),H',⟨by have:=HJ3.out;have:=HK2.out;first|omega|exact Nat.le_refl _⟩,⟨by (with_reducible repeat (first|apply Kd.S_alloc|apply Kd.S_drewN|apply Kd.S_drew));exact HO_9.out⟩,⟨by repeat (first|(with_reducible first|exact HB.out|apply below_alloc|apply pw_below_drewN|apply below_drew1)|exact HB.out)⟩⟩
       case rest =>
        clear HC9
        try clear c1
        try clear p2
        try clear c3
        try clear c5
        try clear c5b0
        try clear c5b1
        try clear c6
        try clear c7
        try clear c7b0
        try clear c10
        try clear c10b0
        try clear c10b1
        try clear p2
        obtain ⟨kq,x48_8,rfl,HA,HJ8,HO_9,HB⟩:=hcut
        cases kq with
        | zero=>exact absurd HA.out (by simp [delta_Decode.j2])
        | succ kj8 =>
         have H:=HA.out
         clear HA
         simp only [delta_Decode.j2] at H
         by_cases c11:x48_8 = true
         ·subst c11
          have H1:(some (([]:List (S39)),264)) = some (r1,r2):=by rw [if_pos rfl] at H;exact H
          clear H
          have H:=H1
          clear H1
          simp only [Option.some.injEq,Prod.mk.injEq] at H
          obtain ⟨rfl,rfl⟩:=H
          go_wp2
          go_ret2
          exact ⟨_,by first|rfl|(simp [errW_none,errW_some] <;> rfl)|(simp [*,errW_none,errW_some] <;> rfl),by first|exact Kd.S_nil _ _ _ _ _|exact Kd.N_nil _ _ _ _ _|exact Kd.V_nil _ _ _ _ _|exact Kd.Q_nil _ _ _ _ _|exact Kd.R_nil _ _ _ _ _,by repeat (first|(with_reducible first|exact HB.out|apply below_alloc|apply pw_below_drewN|apply below_drew1)|exact HB.out)⟩
         ·replace c11:=Bool.eq_false_iff.mpr c11
          subst c11
          have H1:(if (Go.bits .and .u64 t252 1) = 1 then ((codec_Uint.f l1 t253).bind fun bt255=>(if bt255.2.2 = 0 then (delta_Decode.j3 kj8 a0 l1 x9_2 (t252 / 2) bt255.1 bt255.2.1 t247 x32_2 (decide (bt255.1 > 1048576))) else (delta_Decode.j3 kj8 a0 l1 x9_2 (t252 / 2) bt255.1 bt255.2.1 t247 x32_2 true))) else (if (wrap64 ((t252 / 2))) > (wrap64 ((l1.length:Int) - t253)) then (some (([]:List (S39)),264)) else (if 0 ≤ t253 then (if t253 ≤ (wrap64 (t253 + (wrap64 ((t252 / 2))))) then (if (wrap64 (t253 + (wrap64 ((t252 / 2))))) ≤ (l1.length:Int) then ((bytes_Clone.f ((l1.take ((wrap64 (t253 + (wrap64 ((t252 / 2))))):Int).toNat).drop (t253:Int).toNat)).bind fun t262=>(if x9_2.length < 3518437208883 then (delta_Decode.l0 kj8 a0 l1 (wrap64 (t253 + (wrap64 ((t252 / 2))))) (x9_2 ++ [(⟨0,0,t262⟩:S39)]) t247 (IntKind.u64.wrap (x32_2 + 1))) else (none))) else (none)) else (none)) else (none)))) = some (r1,r2):=by rw [if_neg (show ¬ (false = true) by decide)] at H;exact H
          clear H
          have H:=H1
          clear H1
          by_cases c12:(Go.bits .and .u64 t252 1) = 1
          ·rw [if_pos c12] at H
           have c12b0:((Go.bits .and .u64 t252 1) == 1) = true:=beq_iff_eq.mpr c12
           have c12b1:((Go.bits .and .u64 t252 1) != 1) = false:=bne_eq_false_iff_eq.mpr c12
           clear c12
           replace H:=Option.bind_eq_some_iff.mp H
           obtain ⟨⟨t255,t256,t257⟩,A130,H⟩:=H
           replace H:(if t257 = 0 then (delta_Decode.j3 kj8 a0 l1 x9_2 (t252 / 2) t255 t256 t247 x32_2 (decide (t255 > 1048576))) else (delta_Decode.j3 kj8 a0 l1 x9_2 (t252 / 2) t255 t256 t247 x32_2 true)) = some (r1,r2):=H
           have A13:=Aside0.mk A130
           clear A130
           have HC14:=Aside0.mk H
           clear H
           go_upto_region 14 with (first|((with_reducible refine gate_callee (f:=55) rfl ?_);refine goesL_ (some 56) rfl rfl Try.func55 (by kernel_rfl) rfl #[.slice A1 l1.length c1,.int .i64 t253] rfl (by (try simp only [List.map_toArray,List.map_cons,List.map_nil]);first|done|rfl|(simp only [List.length_drop,List.length_take];rfl)) ?_;(with_reducible refine (codec_Uint.calls _ _ l1 t253 t255 t256 t257 _ ?side1 ?side2 A13.out).mono ?_);(case side1=>repeat (first|exact (Kd.C_below HR1.out HB.out)|(with_reducible refine Kd.C_alloc ?_ _)|(with_reducible refine Kd.C_drewN ?_ _)|(with_reducible refine Kd.C_drew ?_)));(case side2=>exact HC1.out);rintro e w' ⟨rfl,⟨nd,rfl⟩⟩;refine ⟨_,rfl,?_⟩))
           (try simp only [Act.put,List.setIfInBounds_toArray,List.set_cons_zero,List.set_cons_succ])
           go_cut [65] (fun v65 wc=>∃ (kq:Nat) (x65_13:Bool),v65 = .bool x65_13 ∧ Aside0 (delta_Decode.j3 kq a0 l1 x9_2 (t252 / 2) t255 t256 t247 x32_2 x65_13 = some (r1,r2)) ∧ Aside0 (kq ≤ kj8) ∧ Aside0 (Kd.S k39 39 wc w.heap.size (fun _=>True) u9 x9_2) ∧ Aside0 (Below w.heap.size w wc))
           case first =>
            have H:=HC14.out
            clear HC14
            by_cases c15:t257 = 0
            ·rw [if_pos c15] at H
             have c15b0:(t257 == 0) = true:=beq_iff_eq.mpr c15
             have c15b1:(t257 != 0) = false:=bne_eq_false_iff_eq.mpr c15
             clear c15
             (first|rw [c15b0]|(simp only [i64_w,i32_w];rw [c15b0])|skip)
             have H':=Aside0.mk H
             clear H
             go_wp2
             go_meet
             case rel=>exact ⟨_,(decide (t255 > 1048576)),(by first|rfl|(simp;done)|(simp [*];done)),H',⟨by have:=HJ3.out;have:=HK2.out;have:=HJ8.out;first|omega|exact Nat.le_refl _⟩,⟨by (with_reducible repeat (first|apply Kd.S_alloc|apply Kd.S_drewN|apply Kd.S_drew));exact HO_9.out⟩,⟨by repeat (first|(with_reducible first|exact HB.out|apply below_alloc|apply pw_below_drewN|apply below_drew1)|exact HB.out)⟩⟩
            ·rw [if_neg c15] at H
             have c15b0:(t257 == 0) = false:=beq_eq_false_iff_ne.mpr c15
             have c15b1:(t257 != 0) = true:=bne_iff_ne.mpr c15
             (first|rw [c15b0]|(simp only [i64_w,i32_w];rw [c15b0])|skip)
             have H':=Aside0.mk H
             clear H
             go_wp2
             go_meet
             case rel=>exact ⟨_,(true),(by first|rfl|(simp;done)|(simp [*];done)),H',⟨by have:=HJ3.out;have:=HK2.out;have:=HJ8.out;first|omega|exact Nat.le_refl _⟩,⟨by (with_reducible repeat (first|apply Kd.S_alloc|apply Kd.S_drewN|apply Kd.S_drew));exact HO_9.out⟩,⟨by repeat (first|(with_reducible first|exact HB.out|apply below_alloc|apply pw_below_drewN|apply below_drew1)|exact HB.out)⟩⟩
           case rest =>
            clear HC14
            try clear c1
            try clear p2
            try clear c3
            try clear c5
            try clear c5b0
            try clear c5b1
            try clear c6
            try clear p6
            try clear c7
            try clear c7b0
            try clear c10
            try clear c10b0
            try clear c10b1
            try clear c11
            try clear c12
            try clear c12b0
            try clear c12b1
            try clear c15
            try clear c15b0
            try clear c15b1
            try clear p2
            obtain ⟨kq,x65_13,rfl,HA,HJ13,HO_9,HB⟩:=hcut
            cases kq with
            | zero=>exact absurd HA.out (by simp [delta_Decode.j3])
            | succ kj13 =>
             have H:=HA.out
             clear HA
             simp only [delta_Decode.j3] at H
             by_cases c16:x65_13 = true
             ·subst c16
              have H1:(some (([]:List (S39)),264)) = some (r1,r2):=by rw [if_pos rfl] at H;exact H
              clear H
              have H:=H1
              clear H1
              simp only [Option.some.injEq,Prod.mk.injEq] at H
              obtain ⟨rfl,rfl⟩:=H
              go_wp2
              go_ret2
              exact ⟨_,by first|rfl|(simp [errW_none,errW_some] <;> rfl)|(simp [*,errW_none,errW_some] <;> rfl),by first|exact Kd.S_nil _ _ _ _ _|exact Kd.N_nil _ _ _ _ _|exact Kd.V_nil _ _ _ _ _|exact Kd.Q_nil _ _ _ _ _|exact Kd.R_nil _ _ _ _ _,by repeat (first|(with_reducible first|exact HB.out|apply below_alloc|apply pw_below_drewN|apply below_drew1)|exact HB.out)⟩
             ·replace c16:=Bool.eq_false_iff.mpr c16
              subst c16
              have H1:(if x9_2.length < 3518437208883 then (delta_Decode.l0 kj13 a0 l1 t256 (x9_2 ++ [(⟨wrap64 (t255),wrap64 ((t252 / 2)),([]:List Int)⟩:S39)]) t247 (IntKind.u64.wrap (x32_2 + 1))) else (none)) = some (r1,r2):=by rw [if_neg (show ¬ (false = true) by decide)] at H;exact H
              clear H
              have H:=H1
              clear H1
              by_cases c17:x9_2.length < 3518437208883
              ·rw [if_pos c17] at H
               have LMc17:=Aside0.mk c17
               clear c17
               obtain ⟨y258,hy258⟩:∃ y_:List (S39),y_ = (x9_2 ++ [(⟨wrap64 (t255),wrap64 ((t252 / 2)),([]:List Int)⟩:S39)]):=⟨_,rfl⟩
               replace H:(delta_Decode.l0 kj13 a0 l1 t256 y258 t247 (IntKind.u64.wrap (x32_2 + 1))) = some (r1,r2):=by first|(rw [hy258];with_reducible exact H)|(have H2_:=(Option.bind_some _ _).symm.trans H;rw [hy258];with_reducible exact H2_)|(have H2_:=(Option.bind_some _ _).symm.trans H;with_reducible exact H2_)|with_reducible exact H|(rw [hy258];exact H)|exact H
               have Ny258:=Aside0.mk hy258
               clear hy258
               have H':=Aside0.mk H
               clear H
               go_wp2_with (first|((with_reducible refine gate_builtin (b:=.append) (xs:=#[.tmp 66,.tmp 72]) rfl ?_);(try (refine gate_guard (by rfl) ?_;dsimp only));at_builtin;refine Kd.S_append k39 (w0:=w) w.heap.size rfl (.tmp 66) (.tmp 72) 29 39 (.agg #[(.int .i64 0),(.int .i64 0),(.slice none 0 0)]) 40 rfl Try.underlying29 info39 rfl (by decide) (by omega) u9 x9_2 (⟨wrap64 (t255),wrap64 ((t252 / 2)),([]:List Int)⟩:S39) [.int .i64 (wrap64 (t255)),.int .i64 (wrap64 ((t252 / 2))),.slice none 0 0] (fun _=>True) (fun _=>False) rfl rfl ?aP (fun k_ hk_=>hk_.elim) ?aF ?aO ?aB ?aS ?aL ?_;(case aP=>exact k39_mkM _ _ _ (⟨wrap64 (t255),wrap64 ((t252 / 2)),([]:List Int)⟩:S39) (Kd.R_nil _ _ _ _ _));(case aB=>exact (by repeat (first|(with_reducible first|exact HB.out|apply below_alloc|apply pw_below_drewN|apply below_drew1)|exact HB.out)));(case aF=>exact (fun _ _=>trivial));(case aO=>exact (by (with_reducible repeat (first|apply Kd.S_alloc|apply Kd.S_drewN|apply Kd.S_drew));exact Kd.S_mono HO_9.out (fun k_ hk=>⟨trivial,fun e_=>e_⟩)));(case aS=>exact (below_size (by repeat (first|(with_reducible first|exact HB.out|apply below_alloc|apply pw_below_drewN|apply below_drew1)|exact HB.out))));(case aL=>have:=LMc17.out;omega);intro v259 w18 ho hb hg hat;rw [← Ny258.out] at ho;have n0_:=Aside0.mk (hb);have n1_:=Aside0.mk (ho);clear HB;clear HO_9;have HB:=n0_;have HO260:=n1_;clear n0_ n1_;clear ho hb hg hat))
               go_roundg kj13
               case measure=>have:=HJ3.out;have:=HK2.out;have:=HJ8.out;have:=HJ13.out;omega
               case rel=>exact ⟨(t256),(y258),(IntKind.u64.wrap (x32_2 + 1)),(by first|rfl|(simp;done)|(simp [*];done)),(by first|rfl|(simp;done)|(simp [*];done)),H',⟨by have:=HJ3.out;have:=HK2.out;have:=HJ8.out;have:=HJ13.out;omega⟩,⟨by (with_reducible repeat (first|apply Kd.S_alloc|apply Kd.S_drewN|apply Kd.S_drew));exact HO260.out⟩,⟨by repeat (first|(with_reducible first|exact HB.out|apply below_alloc|apply pw_below_drewN|apply below_drew1)|exact HB.out)⟩⟩
              ·rw [if_neg c17] at H
               exact absurd H (by simp)
          ·rw [if_neg c12] at H
           have c12b0:((Go.bits .and .u64 t252 1) == 1) = false:=beq_eq_false_iff_ne.mpr c12
           have c12b1:((Go.bits .and .u64 t252 1) != 1) = true:=bne_iff_ne.mpr c12
           by_cases c19:(wrap64 ((t252 / 2))) > (wrap64 ((l1.length:Int) - t253))
           ·rw [if_pos c19] at H
            have c19b0:decide ((wrap64 ((l1.length:Int) - t253)) < (wrap64 ((t252 / 2)))) = true:=decide_eq_true c19
            clear c19
            simp only [Option.some.injEq,Prod.mk.injEq] at H
            obtain ⟨rfl,rfl⟩:=H
            go_wp2
            go_ret2
            exact ⟨_,by first|rfl|(simp [errW_none,errW_some] <;> rfl)|(simp [*,errW_none,errW_some] <;> rfl),by first|exact Kd.S_nil _ _ _ _ _|exact Kd.N_nil _ _ _ _ _|exact Kd.V_nil _ _ _ _ _|exact Kd.Q_nil _ _ _ _ _|exact Kd.R_nil _ _ _ _ _,by repeat (first|(with_reducible first|exact HB.out|apply below_alloc|apply pw_below_drewN|apply below_drew1)|exact HB.out)⟩
           ·rw [if_neg c19] at H
            have c19b0:decide ((wrap64 ((l1.length:Int) - t253)) < (wrap64 ((t252 / 2)))) = false:=decide_eq_false c19
            clear c19
            by_cases c20:0 ≤ t253
            ·rw [if_pos c20] at H
             have c20b0:=eq_true c20
             have c20b1:decide (0 ≤ t253) = true:=decide_eq_true c20
             clear c20
             by_cases c21:t253 ≤ (wrap64 (t253 + (wrap64 ((t252 / 2)))))
             ·rw [if_pos c21] at H
              have c21b0:=eq_true c21
              have c21b1:decide (t253 ≤ (wrap64 (t253 + (wrap64 ((t252 / 2)))))) = true:=decide_eq_true c21
              by_cases c22:(wrap64 (t253 + (wrap64 ((t252 / 2))))) ≤ (l1.length:Int)
              ·rw [if_pos c22] at H
               have c22b0:=eq_true c22
               have c22b1:decide ((wrap64 (t253 + (wrap64 ((t252 / 2))))) ≤ (l1.length:Int)) = true:=decide_eq_true c22
               replace H:=Option.bind_eq_some_iff.mp H
               obtain ⟨t262,A230,H⟩:=H
               replace H:(if x9_2.length < 3518437208883 then (delta_Decode.l0 kj8 a0 l1 (wrap64 (t253 + (wrap64 ((t252 / 2))))) (x9_2 ++ [(⟨0,0,t262⟩:S39)]) t247 (IntKind.u64.wrap (x32_2 + 1))) else (none)) = some (r1,r2):=H
               have A23:=Aside0.mk A230
               clear A230
               by_cases c24:x9_2.length < 3518437208883
               ·rw [if_pos c24] at H
                have LMc24:=Aside0.mk c24
                clear c24
                obtain ⟨y265,hy265⟩:∃ y_:List (S39),y_ = (x9_2 ++ [(⟨0,0,t262⟩:S39)]):=⟨_,rfl⟩
                replace H:(delta_Decode.l0 kj8 a0 l1 (wrap64 (t253 + (wrap64 ((t252 / 2))))) y265 t247 (IntKind.u64.wrap (x32_2 + 1))) = some (r1,r2):=by first|(rw [hy265];with_reducible exact H)|(have H2_:=(Option.bind_some _ _).symm.trans H;rw [hy265];with_reducible exact H2_)|(have H2_:=(Option.bind_some _ _).symm.trans H;with_reducible exact H2_)|with_reducible exact H|(rw [hy265];exact H)|exact H
                have Ny265:=Aside0.mk hy265
                clear hy265
                have H':=Aside0.mk H
                clear H
                obtain ⟨i025,hi025,_,hsz25,_⟩:=info_parts info5
                obtain ⟨A25,hcut25,hA25,hC25⟩:=print_mid_of (P:=Try.prog) (Value.int .u8) 0 26 5 .i64 .i64 Try.underlying26 hi025 hsz25 A1 c1 l1 t253 (wrap64 (t253 + (wrap64 ((t252 / 2))))) (of_decide_eq_true (by first|(with_reducible assumption)|assumption)) (by first|omega|exact of_decide_eq_true (by first|(with_reducible assumption)|assumption)) (of_decide_eq_true (by first|(with_reducible assumption)|assumption)) HC1.out
                have HR261:=Aside0.mk (Kd.C_of_reads (h1:=fun _=>rfl) (hA25 _ (Kd.reads_of_C HR1.out)))
                have HC261:=Aside0.mk hC25
                clear hA25 hC25 hi025 hsz25
                go_wp2_with (first|((with_reducible refine gate_callee (f:=56) rfl ?_);refine goesL_ (some 90) rfl rfl Try.func56 (by kernel_rfl) rfl #[.slice A25 ((l1.take ((wrap64 (t253 + (wrap64 ((t252 / 2))))):Int).toNat).drop (t253:Int).toNat).length (c1 - t253.toNat)] rfl (by (try simp only [List.map_toArray,List.map_cons,List.map_nil]);first|done|(rw [show ((l1.take ((wrap64 (t253 + (wrap64 ((t252 / 2))))):Int).toNat).drop (t253:Int).toNat).length = ((wrap64 (t253 + (wrap64 ((t252 / 2))))).toNat - t253.toNat) from (by rw [List.length_drop,List.length_take];have h_:((wrap64 (t253 + (wrap64 ((t252 / 2))))):Int) ≤ (l1.length:Int):=of_decide_eq_true (by first|(with_reducible assumption)|assumption);omega)] <;> rfl)|rfl|(simp only [List.length_drop,List.length_take];rfl)) ?_;(with_reducible refine (bytes_Clone.calls _ _ ((l1.take ((wrap64 (t253 + (wrap64 ((t252 / 2))))):Int).toNat).drop (t253:Int).toNat) t262 _ ?side1 ?side2 A23.out).mono ?_);(case side1=>repeat (first|exact (Kd.C_below HR261.out HB.out)|(with_reducible refine Kd.C_alloc ?_ _)|(with_reducible refine Kd.C_drewN ?_ _)|(with_reducible refine Kd.C_drew ?_)));(case side2=>exact HC261.out);rintro e w26 ⟨v263,rfl,ho0,hb⟩;refine ⟨_,rfl,?_⟩;have n0_:=Aside0.mk (Kd.S_elder' (by (with_reducible repeat (first|apply Kd.S_alloc|apply Kd.S_drewN|apply Kd.S_drew));exact HO_9.out) (Kd.R_base ho0) hb);have n1_:=Aside0.mk (Kd.R_lower ho0 (below_size (by repeat (first|(with_reducible first|exact HB.out|apply below_alloc|apply pw_below_drewN|apply below_drew1)|exact HB.out))));have n2_:=Aside0.mk (below_step (by repeat (first|(with_reducible first|exact HB.out|apply below_alloc|apply pw_below_drewN|apply below_drew1)|exact HB.out)) hb);clear HO_9;clear HB;have HO_9:=n0_;have HO264:=n1_;have HB:=n2_;clear n0_ n1_ n2_;(try clear hb);(try clear hb2);(try clear hk);(try clear hi);(try clear ho0);obtain ⟨Ao27,co27,eo27⟩:=Kd.R_slice HO264.out;subst eo27)|((with_reducible refine gate_builtin (b:=.append) (xs:=#[.tmp 82,.tmp 92]) rfl ?_);(try (refine gate_guard (by rfl) ?_;dsimp only));at_builtin;refine Kd.S_append k39 (w0:=w) w.heap.size rfl (.tmp 82) (.tmp 92) 29 39 (.agg #[(.int .i64 0),(.int .i64 0),(.slice none 0 0)]) 40 rfl Try.underlying29 info39 rfl (by decide) (by omega) u9 x9_2 (⟨0,0,t262⟩:S39) [.int .i64 0,.int .i64 0,.slice Ao27 t262.length co27] (fun _=>True) (fun k_=>some k_ = (.slice Ao27 t262.length co27:Value).ownBlock) rfl rfl ?aP (fun k_ hk_=>((Kd.R_mono (ok':=fun k_=>((fun _=>True)) k_ ∧ some k_ ≠ (u9:Value).ownBlock) (Kd.R_apart' (HO264.out) (Kd.S_typed HO_9.out) (by decide)) (fun k_ hk=>⟨trivial,hk.2⟩))).1 k_ hk_.symm) ?aF ?aO ?aB ?aS ?aL ?_;(case aP=>exact k39_mkM _ _ _ (⟨0,0,t262⟩:S39) (Kd.R_mono (Kd.R_tight rfl (Kd.R_mono (ok':=fun k_=>((fun _=>True)) k_ ∧ some k_ ≠ (u9:Value).ownBlock) (Kd.R_apart' (HO264.out) (Kd.S_typed HO_9.out) (by decide)) (fun k_ hk=>⟨trivial,hk.2⟩))) (fun _ h_=>h_)));(case aB=>exact (by repeat (first|(with_reducible first|exact HB.out|apply below_alloc|apply pw_below_drewN|apply below_drew1)|exact HB.out)));(case aF=>exact (fun _ _=>trivial));(case aO=>exact (by (with_reducible repeat (first|apply Kd.S_alloc|apply Kd.S_drewN|apply Kd.S_drew));exact Kd.S_mono HO_9.out (fun k_ hk=>⟨trivial,fun e_=>hk.2 e_⟩)));(case aS=>exact (below_size (by repeat (first|(with_reducible first|exact HB.out|apply below_alloc|apply pw_below_drewN|apply below_drew1)|exact HB.out))));(case aL=>have:=LMc24.out;omega);intro v266 w28 ho hb hg hat;rw [← Ny265.out] at ho;have n0_:=Aside0.mk (hb);have n1_:=Aside0.mk (ho);clear HB;clear HO_9;clear HO264;have HB:=n0_;have HO267:=n1_;clear n0_ n1_;clear ho hb hg hat))
                go_roundg kj8
                case measure=>have:=HJ3.out;have:=HK2.out;have:=HJ8.out;omega
                case rel=>exact ⟨(wrap64 (t253 + (wrap64 ((t252 / 2))))),(y265),(IntKind.u64.wrap (x32_2 + 1)),(by first|rfl|(simp;done)|(simp [*];done)),(by first|rfl|(simp;done)|(simp [*];done)),H',⟨by have:=HJ3.out;have:=HK2.out;have:=HJ8.out;omega⟩,⟨by (with_reducible repeat (first|apply Kd.S_alloc|apply Kd.S_drewN|apply Kd.S_drew));exact HO267.out⟩,⟨by repeat (first|(with_reducible first|exact HB.out|apply below_alloc|apply pw_below_drewN|apply below_drew1)|exact HB.out)⟩⟩
               ·rw [if_neg c24] at H
                exact absurd H (by simp)
              ·rw [if_neg c22] at H
               exact absurd H (by simp)
             ·rw [if_neg c21] at H
              exact absurd H (by simp)
            ·rw [if_neg c20] at H
             exact absurd H (by simp)
      ·rw [if_neg c7] at H
       have c7b0:decide (x32_2 < t247) = false:=decide_eq_false c7
       clear c7
       replace H:=Option.bind_eq_some_iff.mp H
       obtain ⟨⟨t250,t251⟩,A290,H⟩:=H
       replace H:(if t251 = 0 then (if x7_2 = (l1.length:Int) then (some (x9_2,0)) else (some (([]:List (S39)),264))) else (some (([]:List (S39)),264))) = some (r1,r2):=H
       have A29:=Aside0.mk A290
       clear A290
       by_cases c30:t251 = 0
       ·rw [if_pos c30] at H
        have c30b0:(t251 == 0) = true:=beq_iff_eq.mpr c30
        have c30b1:(t251 != 0) = false:=bne_eq_false_iff_eq.mpr c30
        clear c30
        by_cases c31:x7_2 = (l1.length:Int)
        ·rw [if_pos c31] at H
         have c31b0:(x7_2 == (l1.length:Int)) = true:=beq_iff_eq.mpr c31
         have c31b1:(x7_2 != (l1.length:Int)) = false:=bne_eq_false_iff_eq.mpr c31
         clear c31
         simp only [Option.some.injEq,Prod.mk.injEq] at H
         obtain ⟨rfl,rfl⟩:=H
         obtain ⟨Ao32,co32,eo32⟩:=Kd.S_slice HO_9.out
         subst eo32
         go_wp2_with (first|((with_reducible refine gate_callee (f:=23) rfl ?_);refine goesL_ (some 102) rfl rfl Try.func23 (by kernel_rfl) rfl #[.int .i64 a0,.slice Ao32 x9_2.length co32] rfl (by (try simp only [List.map_toArray,List.map_cons,List.map_nil]);first|done|rfl|(simp only [List.length_drop,List.length_take];rfl)) ?_;(with_reducible refine (delta_Check.calls a0 _ _ x9_2 t250 t251 _ ?side1 ?side2 A29.out).mono ?_);(case side1=>repeat (first|exact (Kd.S_reads' HO_9.out).2.2|(with_reducible refine Kd.C_alloc ?_ _)|(with_reducible refine Kd.C_drewN ?_ _)|(with_reducible refine Kd.C_drew ?_)));(case side2=>exact (Kd.S_reads' HO_9.out).2.1);rintro e w33 ⟨rfl,hb⟩;refine ⟨_,rfl,?_⟩;have n0_:=Aside0.mk (Kd.S_below (by (with_reducible repeat (first|apply Kd.S_alloc|apply Kd.S_drewN|apply Kd.S_drew));exact HO_9.out) hb);have n1_:=Aside0.mk (below_step (by repeat (first|(with_reducible first|exact HB.out|apply below_alloc|apply pw_below_drewN|apply below_drew1)|exact HB.out)) hb);clear HO_9;clear HB;have HO_9:=n0_;have HB:=n1_;clear n0_ n1_;(try clear hb);(try clear hb2);(try clear hk);(try clear hi)))
         go_ret2
         exact ⟨_,by first|rfl|(simp [errW_none,errW_some] <;> rfl)|(simp [*,errW_none,errW_some] <;> rfl),by (with_reducible repeat (first|apply Kd.S_alloc|apply Kd.S_drewN|apply Kd.S_drew));exact HO_9.out,by repeat (first|(with_reducible first|exact HB.out|apply below_alloc|apply pw_below_drewN|apply below_drew1)|exact HB.out)⟩
        ·rw [if_neg c31] at H
         have c31b0:(x7_2 == (l1.length:Int)) = false:=beq_eq_false_iff_ne.mpr c31
         have c31b1:(x7_2 != (l1.length:Int)) = true:=bne_iff_ne.mpr c31
         simp only [Option.some.injEq,Prod.mk.injEq] at H
         obtain ⟨rfl,rfl⟩:=H
         obtain ⟨Ao34,co34,eo34⟩:=Kd.S_slice HO_9.out
         subst eo34
         go_wp2_with (first|((with_reducible refine gate_callee (f:=23) rfl ?_);refine goesL_ (some 102) rfl rfl Try.func23 (by kernel_rfl) rfl #[.int .i64 a0,.slice Ao34 x9_2.length co34] rfl (by (try simp only [List.map_toArray,List.map_cons,List.map_nil]);first|done|rfl|(simp only [List.length_drop,List.length_take];rfl)) ?_;(with_reducible refine (delta_Check.calls a0 _ _ x9_2 t250 t251 _ ?side1 ?side2 A29.out).mono ?_);(case side1=>repeat (first|exact (Kd.S_reads' HO_9.out).2.2|(with_reducible refine Kd.C_alloc ?_ _)|(with_reducible refine Kd.C_drewN ?_ _)|(with_reducible refine Kd.C_drew ?_)));(case side2=>exact (Kd.S_reads' HO_9.out).2.1);rintro e w35 ⟨rfl,hb⟩;refine ⟨_,rfl,?_⟩;have n0_:=Aside0.mk (Kd.S_below (by (with_reducible repeat (first|apply Kd.S_alloc|apply Kd.S_drewN|apply Kd.S_drew));exact HO_9.out) hb);have n1_:=Aside0.mk (below_step (by repeat (first|(with_reducible first|exact HB.out|apply below_alloc|apply pw_below_drewN|apply below_drew1)|exact HB.out)) hb);clear HO_9;clear HB;have HO_9:=n0_;have HB:=n1_;clear n0_ n1_;(try clear hb);(try clear hb2);(try clear hk);(try clear hi)))
         go_ret2
         exact ⟨_,by first|rfl|(simp [errW_none,errW_some] <;> rfl)|(simp [*,errW_none,errW_some] <;> rfl),by first|exact Kd.S_nil _ _ _ _ _|exact Kd.N_nil _ _ _ _ _|exact Kd.V_nil _ _ _ _ _|exact Kd.Q_nil _ _ _ _ _|exact Kd.R_nil _ _ _ _ _,by repeat (first|(with_reducible first|exact HB.out|apply below_alloc|apply pw_below_drewN|apply below_drew1)|exact HB.out)⟩
       ·rw [if_neg c30] at H
        have c30b0:(t251 == 0) = false:=beq_eq_false_iff_ne.mpr c30
        have c30b1:(t251 != 0) = true:=bne_iff_ne.mpr c30
        simp only [Option.some.injEq,Prod.mk.injEq] at H
        obtain ⟨rfl,rfl⟩:=H
        obtain ⟨Ao36,co36,eo36⟩:=Kd.S_slice HO_9.out
        subst eo36
        go_wp2_with (first|((with_reducible refine gate_callee (f:=23) rfl ?_);refine goesL_ (some 102) rfl rfl Try.func23 (by kernel_rfl) rfl #[.int .i64 a0,.slice Ao36 x9_2.length co36] rfl (by (try simp only [List.map_toArray,List.map_cons,List.map_nil]);first|done|rfl|(simp only [List.length_drop,List.length_take];rfl)) ?_;(with_reducible refine (delta_Check.calls a0 _ _ x9_2 t250 t251 _ ?side1 ?side2 A29.out).mono ?_);(case side1=>repeat (first|exact (Kd.S_reads' HO_9.out).2.2|(with_reducible refine Kd.C_alloc ?_ _)|(with_reducible refine Kd.C_drewN ?_ _)|(with_reducible refine Kd.C_drew ?_)));(case side2=>exact (Kd.S_reads' HO_9.out).2.1);rintro e w37 ⟨rfl,hb⟩;refine ⟨_,rfl,?_⟩;have n0_:=Aside0.mk (Kd.S_below (by (with_reducible repeat (first|apply Kd.S_alloc|apply Kd.S_drewN|apply Kd.S_drew));exact HO_9.out) hb);have n1_:=Aside0.mk (below_step (by repeat (first|(with_reducible first|exact HB.out|apply below_alloc|apply pw_below_drewN|apply below_drew1)|exact HB.out)) hb);clear HO_9;clear HB;have HO_9:=n0_;have HB:=n1_;clear n0_ n1_;(try clear hb);(try clear hb2);(try clear hk);(try clear hi)))
        go_ret2
        exact ⟨_,by first|rfl|(simp [errW_none,errW_some] <;> rfl)|(simp [*,errW_none,errW_some] <;> rfl),by first|exact Kd.S_nil _ _ _ _ _|exact Kd.N_nil _ _ _ _ _|exact Kd.V_nil _ _ _ _ _|exact Kd.Q_nil _ _ _ _ _|exact Kd.R_nil _ _ _ _ _,by repeat (first|(with_reducible first|exact HB.out|apply below_alloc|apply pw_below_drewN|apply below_drew1)|exact HB.out)⟩

/-! ### stockyardref01_open: function 63 -/
def stockyardref01_open.l0:Nat → List Int → List Int → Int → Int → Option (Bool)
 | 0,_,_,_,_=>none
 | k + 1,x0,x5,x6,x7=>if x7 < x6 then (if 0 ≤ x7 then (if x7 < (x5.length:Int) then (if (rd x5 x7) < 128 then (some false) else (stockyardref01_open.l0 k x0 x5 x6 (wrap64 (x7 + 1)))) else (none)) else (none)) else (some (decide ((x0.length:Int) < 10)))
def stockyardref01_open.f (k:Nat) (l0:List Int):Option (Bool):=stockyardref01_open.l0 k l0 l0 (l0.length:Int) 0
set_option maxHeartbeats 8000000 in
set_option maxRecDepth 100000 in
theorem stockyardref01_open.calls (k:Nat) (A0:Option Addr) (c0:Nat) (l0:List Int) (r:Bool) (w:World) (hr0:Kd.C (Kd.int .u8) w A0 l0.length l0) (hc0:l0.length ≤ c0) (h:stockyardref01_open.f k l0 = some r) :
  Calls Try.prog 63 #[.slice A0 l0.length c0] w fun e w'=>e = .returned (.bool r) ∧ Drawn0 w w':=by
 have HR0:=Aside0.mk hr0
 have HC0:=Aside0.mk hc0
 clear hr0 hc0
 have H:(stockyardref01_open.l0 k l0 l0 (l0.length:Int) 0) = some r:=h
 clear h
 have H':=Aside0.mk H
 clear H
 go_enter Try.func63,Try.ntmps63
 go_wp2
 go_loopg [7] k (fun kq v7 w'=>∃ (x7_1:Int),v7 = .int .i64 x7_1 ∧ Aside0 (stockyardref01_open.l0 kq l0 l0 (l0.length:Int) x7_1 = some r) ∧ Aside0 (kq ≤ k) ∧ Drawn0 w w')
 case atStart=>exact ⟨(0),(by first|rfl|(simp;done)|(simp [*];done)),H',⟨Nat.le_refl _⟩,by repeat (first|exact Drawn0.refl _|apply Drawn0.step)⟩
 case round =>
  clear H'
  obtain ⟨x7_1,rfl,HA,HK1,⟨m1,rfl⟩⟩:=hrel
  cases gk with
  | zero=>exact absurd HA.out (by simp [stockyardref01_open.l0])
  | succ k1 =>
   have H:=HA.out
   clear HA
   simp only [stockyardref01_open.l0] at H
   by_cases c2:x7_1 < (l0.length:Int)
   ·rw [if_pos c2] at H
    have c2b0:decide (x7_1 < (l0.length:Int)) = true:=decide_eq_true c2
    clear c2
    by_cases c3:0 ≤ x7_1
    ·rw [if_pos c3] at H
     have c3b0:decide (0 ≤ x7_1) = true:=decide_eq_true c3
     clear c3
     by_cases c4:x7_1 < (l0.length:Int)
     ·rw [if_pos c4] at H
      have c4b0:decide (x7_1 < (l0.length:Int)) = true:=decide_eq_true c4
      clear c4
      by_cases c5:(rd l0 x7_1) < 128
      ·rw [if_pos c5] at H
       have c5b0:decide ((rd l0 x7_1) < 128) = true:=decide_eq_true c5
       clear c5
       obtain rfl:=Option.some.inj H
       have p268:0 ≤ (x7_1:Int):=of_decide_eq_true (by first|(with_reducible assumption)|assumption)
       have q268:x7_1 < (l0.length:Int):=of_decide_eq_true (by first|(with_reducible assumption)|assumption)
       obtain ⟨ad268,e268,hx268_0⟩:=Kd.at_int HR0.out x7_1 p268 q268
       cases e268
       replace p268:=eq_true p268
       replace q268:=eq_true q268
       go_wp2
       go_ret
       exact ⟨by first|rfl|(simp;done)|(simp [*];done),by repeat (first|exact Drawn0.refl _|apply Drawn0.step)⟩
      ·rw [if_neg c5] at H
       have c5b0:decide ((rd l0 x7_1) < 128) = false:=decide_eq_false c5
       clear c5
       have H':=Aside0.mk H
       clear H
       have p268:0 ≤ (x7_1:Int):=of_decide_eq_true (by first|(with_reducible assumption)|assumption)
       have q268:x7_1 < (l0.length:Int):=of_decide_eq_true (by first|(with_reducible assumption)|assumption)
       obtain ⟨ad268,e268,hx268_0⟩:=Kd.at_int HR0.out x7_1 p268 q268
       cases e268
       replace p268:=eq_true p268
       replace q268:=eq_true q268
       go_wp2
       go_roundg k1
       case measure=>have:=HK1.out;omega
       case rel=>exact ⟨(wrap64 (x7_1 + 1)),(by first|rfl|(simp;done)|(simp [*];done)),H',⟨by have:=HK1.out;omega⟩,by repeat (first|exact Drawn0.refl _|apply Drawn0.step)⟩
     ·rw [if_neg c4] at H
      exact absurd H (by simp)
    ·rw [if_neg c3] at H
     exact absurd H (by simp)
   ·rw [if_neg c2] at H
    have c2b0:decide (x7_1 < (l0.length:Int)) = false:=decide_eq_false c2
    clear c2
    obtain rfl:=Option.some.inj H
    go_wp2
    go_ret
    exact ⟨by first|rfl|(simp;done)|(simp [*];done),by repeat (first|exact Drawn0.refl _|apply Drawn0.step)⟩

end Go.Proofs.Ytjckjcekapkkjaa.P
