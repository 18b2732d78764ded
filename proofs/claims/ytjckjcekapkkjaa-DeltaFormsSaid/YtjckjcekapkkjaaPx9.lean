-- WRITTEN BY myprint.py (wip/tools) for this seat
import Derived.Test.YtjckjcekapkkjaaPx0
import Derived.Test.YtjckjcekapkkjaaPx6
import Derived.Test.YtjckjcekapkkjaaHTakeUint
namespace Go.Proofs.Ytjckjcekapkkjaa.P
open Go.RowKit Go.Proofs.YtjckjcekapkkjaaW.PrintWords Go.Proofs.YtjckjcekapkkjaaW.PrintLast Go.Proofs.YtjckjcekapkkjaaW.PrintMore
attribute [local go_sem] max2_int min2_int max_two min_two max_three min_three max_four min_four   -- for this text's walks alone
set_option linter.unusedVariables false
set_option linter.unusedSimpArgs false

/-! ### ref26_Decode: function 39 -/
mutual
def ref26_Decode.j0:Nat → Int → List Int → Int → Int → Bool → Option ((List (S39)) × Int)
 | 0,_,_,_,_,_=>none
 | k + 1,x0,x1,x6,x7,x27=>if x27 = true then (some (([]:List (S39)),264)) else (ref26_Decode.l0 k x0 x1 x6 x7 ([]:List (S39)) 0)
def ref26_Decode.l0:Nat → Int → List Int → Int → Int → List (S39) → Int → Option ((List (S39)) × Int)
 | 0,_,_,_,_,_,_=>none
 | k + 1,x0,x1,x6,x7,x9,x10=>if x10 < x6 then ((stockyardref01_TakeUint.f x1 x7).bind fun bt274=>(if bt274.2.2 = 0 then (ref26_Decode.j2 k x0 x1 x6 bt274.2.1 x9 x10 bt274.1 (decide (bt274.1 > 2097153))) else (ref26_Decode.j2 k x0 x1 x6 bt274.2.1 x9 x10 bt274.1 true))) else ((ref26_Check.f k x0 x9).bind fun bt272=>(if bt272.2 = 0 then (if x7 = (x1.length:Int) then (some (x9,0)) else (some (([]:List (S39)),264))) else (some (([]:List (S39)),264))))
def ref26_Decode.j2:Nat → Int → List Int → Int → Int → List (S39) → Int → Int → Bool → Option ((List (S39)) × Int)
 | 0,_,_,_,_,_,_,_,_=>none
 | k + 1,x0,x1,x6,x7,x9,x10,x11,x45=>if x45 = true then (some (([]:List (S39)),264)) else (if (Int.tmod x11 2) = 1 then ((stockyardref01_TakeUint.f x1 x7).bind fun bt277=>(if bt277.2.2 = 0 then (ref26_Decode.j3 k x0 x1 x6 bt277.2.1 x9 x10 x11 bt277.1 (decide (bt277.1 > 1048576))) else (ref26_Decode.j3 k x0 x1 x6 bt277.2.1 x9 x10 x11 bt277.1 true))) else (if (wrap64 (IntKind.u64.wrap (Int.tdiv x11 2))) > (wrap64 ((x1.length:Int) - x7)) then (some (([]:List (S39)),264)) else (if 0 ≤ x7 then (if x7 ≤ (wrap64 (x7 + (wrap64 (IntKind.u64.wrap (Int.tdiv x11 2))))) then (if (wrap64 (x7 + (wrap64 (IntKind.u64.wrap (Int.tdiv x11 2))))) ≤ (x1.length:Int) then (if ([]:List Int).length + ((x1.take ((wrap64 (x7 + (wrap64 (IntKind.u64.wrap (Int.tdiv x11 2))))):Int).toNat).drop (x7:Int).toNat).length < 140737488355328 then (if x9.length < 3518437208883 then (ref26_Decode.l0 k x0 x1 x6 (wrap64 (x7 + (wrap64 (IntKind.u64.wrap (Int.tdiv x11 2))))) (x9 ++ [(⟨0,0,(([]:List Int) ++ ((x1.take ((wrap64 (x7 + (wrap64 (IntKind.u64.wrap (Int.tdiv x11 2))))):Int).toNat).drop (x7:Int).toNat))⟩:S39)]) (IntKind.u64.wrap (x10 + 1))) else (none)) else (none)) else (none)) else (none)) else (none))))
def ref26_Decode.j3:Nat → Int → List Int → Int → Int → List (S39) → Int → Int → Int → Bool → Option ((List (S39)) × Int)
 | 0,_,_,_,_,_,_,_,_,_=>none
 | k + 1,x0,x1,x6,x7,x9,x10,x11,x12,x61=>if x61 = true then (some (([]:List (S39)),264)) else (if x9.length < 3518437208883 then (ref26_Decode.l0 k x0 x1 x6 x7 (x9 ++ [(⟨wrap64 (x12),wrap64 (IntKind.u64.wrap (Int.tdiv x11 2)),([]:List Int)⟩:S39)]) (IntKind.u64.wrap (x10 + 1))) else (none))
end
def ref26_Decode.f (k:Nat) (a0:Int) (l1:List Int):Option ((List (S39)) × Int):=(stockyardref01_TakeUint.f l1 0).bind fun bt269=>(if bt269.2.2 = 0 then (ref26_Decode.j0 k a0 l1 bt269.1 bt269.2.1 (decide (bt269.1 > 4096))) else (ref26_Decode.j0 k a0 l1 bt269.1 bt269.2.1 true))
set_option maxHeartbeats 8000000 in
set_option maxRecDepth 100000 in
theorem ref26_Decode.calls (k:Nat) (a0:Int) (A1:Option Addr) (c1:Nat) (l1:List Int) (r1:List (S39)) (r2:Int) (w:World) (hr1:Kd.C (Kd.int .u8) w A1 l1.length l1) (hc1:l1.length ≤ c1) (h:ref26_Decode.f k a0 l1 = some (r1,r2)) :
  Calls Try.prog 39 #[.int .i64 a0,.slice A1 l1.length c1] w fun e w'=>∃ v0_:Value,e = .returned (.tuple #[v0_,.int .i64 r2]) ∧ Kd.S k39 39 w' w.heap.size (fun _=>True) v0_ r1 ∧ Below w.heap.size w w':=by
 have hu39:=Try.underlying39
 have HR1:=Aside0.mk hr1
 have HC1:=Aside0.mk hc1
 clear hr1 hc1
 have HB:=Aside0.mk (Below.refl w.heap.size w)
 have H:((stockyardref01_TakeUint.f l1 0).bind fun bt269=>(if bt269.2.2 = 0 then (ref26_Decode.j0 k a0 l1 bt269.1 bt269.2.1 (decide (bt269.1 > 4096))) else (ref26_Decode.j0 k a0 l1 bt269.1 bt269.2.1 true))) = some (r1,r2):=h
 clear h
 replace H:=Option.bind_eq_some_iff.mp H
 obtain ⟨⟨t269,t270,t271⟩,A30,H⟩:=H
 replace H:(if t271 = 0 then (ref26_Decode.j0 k a0 l1 t269 t270 (decide (t269 > 4096))) else (ref26_Decode.j0 k a0 l1 t269 t270 true)) = some (r1,r2):=H
 have A3:=Aside0.mk A30
 clear A30
 have HC4:=Aside0.mk H
 clear H
 go_enter Try.func39,Try.ntmps39
 go_upto_region 2 with (first|((with_reducible refine gate_callee (f:=57) rfl ?_);refine goesL_ (some 18) rfl rfl Try.func57 (by kernel_rfl) rfl #[.slice A1 l1.length c1,.int .i64 0] rfl (by (try simp only [List.map_toArray,List.map_cons,List.map_nil]);first|done|rfl|(simp only [List.length_drop,List.length_take];rfl)) ?_;(with_reducible refine (stockyardref01_TakeUint.calls _ _ l1 0 t269 t270 t271 _ ?side1 ?side2 A3.out).mono ?_);(case side1=>repeat (first|exact HR1.out|(with_reducible refine Kd.C_alloc ?_ _)|(with_reducible refine Kd.C_drewN ?_ _)|(with_reducible refine Kd.C_drew ?_)));(case side2=>exact HC1.out);rintro e w' ⟨rfl,⟨nd,rfl⟩⟩;refine ⟨_,rfl,?_⟩))
 (try simp only [Act.put,List.setIfInBounds_toArray,List.set_cons_zero,List.set_cons_succ])
 go_cut [27] (fun v27 wc=>∃ (kq:Nat) (x27_3:Bool),v27 = .bool x27_3 ∧ Aside0 (ref26_Decode.j0 kq a0 l1 t269 t270 x27_3 = some (r1,r2)) ∧ Aside0 (kq ≤ k) ∧ Aside0 (Below w.heap.size w wc))
 case first =>
  have H:=HC4.out
  clear HC4
  by_cases c5:t271 = 0
  ·rw [if_pos c5] at H
   have c5b0:(t271 == 0) = true:=beq_iff_eq.mpr c5
   have c5b1:(t271 != 0) = false:=bne_eq_false_iff_eq.mpr c5
   clear c5
   (first|rw [c5b0]|(simp only [i64_w,i32_w];rw [c5b0])|skip)
   have H':=Aside0.mk H
   clear H
   go_wp2
   go_meet
   case rel=>exact ⟨_,(decide (t269 > 4096)),(by first|rfl|(simp;done)|(simp [*];done)),H',⟨by first|omega|exact Nat.le_refl _⟩,⟨by repeat (first|(with_reducible first|exact HB.out|apply below_alloc|apply pw_below_drewN|apply below_drew1)|exact HB.out)⟩⟩
  ·rw [if_neg c5] at H
   have c5b0:(t271 == 0) = false:=beq_eq_false_iff_ne.mpr c5
   have c5b1:(t271 != 0) = true:=bne_iff_ne.mpr c5
   (first|rw [c5b0]|(simp only [i64_w,i32_w];rw [c5b0])|skip)
   have H':=Aside0.mk H
   clear H
   go_wp2
   go_meet
   case rel=>exact ⟨_,(true),(by first|rfl|(simp;done)|(simp [*];done)),H',⟨by first|omega|exact Nat.le_refl _⟩,⟨by repeat (first|(with_reducible first|exact HB.out|apply below_alloc|apply pw_below_drewN|apply below_drew1)|exact HB.out)⟩⟩
 case rest =>
  clear HC4
  try clear c1
  try clear p2
  try clear c3
  try clear c5
  try clear c5b0
  try clear c5b1
  obtain ⟨kq,x27_3,rfl,HA,HJ3,HB⟩:=hcut
  cases kq with
  | zero=>exact absurd HA.out (by simp [ref26_Decode.j0])
  | succ kj3 =>
   have H:=HA.out
   clear HA
   simp only [ref26_Decode.j0] at H
   by_cases c6:x27_3 = true
   ·subst c6
    have H1:(some (([]:List (S39)),264)) = some (r1,r2):=by rw [if_pos rfl] at H;exact H
    clear H
    have H:=H1
    clear H1
    simp only [Option.some.injEq,Prod.mk.injEq] at H
    obtain ⟨rfl,rfl⟩:=H
    go_wp2
    go_ret2
    exact ⟨_,by first|rfl|(simp [errW_none,errW_some] <;> rfl)|(simp [*,errW_none,errW_some] <;> rfl),by first|exact Kd.S_nil _ _ _ _ _|exact Kd.N_nil _ _ _ _ _|exact Kd.V_nil _ _ _ _ _|exact Kd.Q_nil _ _ _ _ _|exact Kd.R_nil _ _ _ _ _,by repeat (first|(with_reducible first|exact HB.out|apply below_alloc|apply pw_below_drewN|apply below_drew1)|exact HB.out)⟩
   ·replace c6:=Bool.eq_false_iff.mpr c6
    subst c6
    have H1:(ref26_Decode.l0 kj3 a0 l1 t269 t270 ([]:List (S39)) 0) = some (r1,r2):=by rw [if_neg (show ¬ (false = true) by decide)] at H;exact H
    clear H
    have H:=H1
    clear H1
    have H':=Aside0.mk H
    clear H
    go_wp2
    go_loopg [7,9,10] kj3 (fun kq v7 v9 v10 w'=>∃ (x7_2:Int) (x9_2:List (S39)) (x10_2:Int),v7 = .int .i64 x7_2 ∧ v10 = .int .u64 x10_2 ∧ Aside0 (ref26_Decode.l0 kq a0 l1 t269 x7_2 x9_2 x10_2 = some (r1,r2)) ∧ Aside0 (kq ≤ kj3) ∧ Aside0 (Kd.S k39 39 w' w.heap.size (fun _=>True) v9 x9_2) ∧ Aside0 (Below w.heap.size w w'))
    case atStart=>exact ⟨(t270),(([]:List (S39))),(0),(by first|rfl|(simp;done)|(simp [*];done)),(by first|rfl|(simp;done)|(simp [*];done)),H',⟨Nat.le_refl _⟩,⟨by first|exact Kd.S_nil _ _ _ _ _|exact Kd.N_nil _ _ _ _ _|exact Kd.V_nil _ _ _ _ _|exact Kd.Q_nil _ _ _ _ _|exact Kd.R_nil _ _ _ _ _⟩,⟨by repeat (first|(with_reducible first|exact HB.out|apply below_alloc|apply pw_below_drewN|apply below_drew1)|exact HB.out)⟩⟩
    case round =>
     clear H'
     try clear c1
     try clear p2
     try clear c3
     try clear c5
     try clear c5b0
     try clear c5b1
     try clear c6
     try clear p2
     obtain ⟨x7_2,x9_2,x10_2,rfl,rfl,HA,HK2,HO_9,HB⟩:=hrel
     cases gk with
     | zero=>exact absurd HA.out (by simp [ref26_Decode.l0])
     | succ k2 =>
      have H:=HA.out
      clear HA
      simp only [ref26_Decode.l0] at H
      by_cases c7:x10_2 < t269
      ·rw [if_pos c7] at H
       have c7b0:decide (x10_2 < t269) = true:=decide_eq_true c7
       clear c7
       replace H:=Option.bind_eq_some_iff.mp H
       obtain ⟨⟨t274,t275,t276⟩,A80,H⟩:=H
       replace H:(if t276 = 0 then (ref26_Decode.j2 k2 a0 l1 t269 t275 x9_2 x10_2 t274 (decide (t274 > 2097153))) else (ref26_Decode.j2 k2 a0 l1 t269 t275 x9_2 x10_2 t274 true)) = some (r1,r2):=H
       have A8:=Aside0.mk A80
       clear A80
       have HC9:=Aside0.mk H
       clear H
       go_upto_region 10 with (first|((with_reducible refine gate_callee (f:=57) rfl ?_);refine goesL_ (some 36) rfl rfl Try.func57 (by kernel_rfl) rfl #[.slice A1 l1.length c1,.int .i64 x7_2] rfl (by (try simp only [List.map_toArray,List.map_cons,List.map_nil]);first|done|rfl|(simp only [List.length_drop,List.length_take];rfl)) ?_;(with_reducible refine (stockyardref01_TakeUint.calls _ _ l1 x7_2 t274 t275 t276 _ ?side1 ?side2 A8.out).mono ?_);(case side1=>repeat (first|exact (Kd.C_below HR1.out HB.out)|(with_reducible refine Kd.C_alloc ?_ _)|(with_reducible refine Kd.C_drewN ?_ _)|(with_reducible refine Kd.C_drew ?_)));(case side2=>exact HC1.out);rintro e w' ⟨rfl,⟨nd,rfl⟩⟩;refine ⟨_,rfl,?_⟩))
       (try simp only [Act.put,List.setIfInBounds_toArray,List.set_cons_zero,List.set_cons_succ])
       go_cut [45] (fun v45 wc=>∃ (kq:Nat) (x45_8:Bool),v45 = .bool x45_8 ∧ Aside0 (ref26_Decode.j2 kq a0 l1 t269 t275 x9_2 x10_2 t274 x45_8 = some (r1,r2)) ∧ Aside0 (kq ≤ k2) ∧ Aside0 (Kd.S k39 39 wc w.heap.size (fun _=>True) u9 x9_2) ∧ Aside0 (Below w.heap.size w wc))
       case first =>
        have H:=HC9.out
        clear HC9
        by_cases c10:t276 = 0
        ·rw [if_pos c10] at H
         have c10b0:(t276 == 0) = true:=beq_iff_eq.mpr c10
         have c10b1:(t276 != 0) = false:=bne_eq_false_iff_eq.mpr c10
         clear c10
         (first|rw [c10b0]|(simp only [i64_w,i32_w];rw [c10b0])|skip)
         have H':=Aside0.mk H
         clear H
         go_wp2
         go_meet
         case rel=>exact ⟨_,(decide (t274 > 2097153)),(by first|rfl|(simp;done)|(simp [*];done)),H',⟨by have:=HJ3.out;have:=HK2.out;first|omega|exact Nat.le_refl _⟩,⟨by (with_reducible repeat (first|apply Kd.S_alloc|apply Kd.S_drewN|apply Kd.S_drew));exact HO_9.out⟩,⟨by repeat (first|(with_reducible first|exact HB.out|apply below_alloc|apply pw_below_drewN|apply below_drew1)|exact HB.out)⟩⟩
        ·rw [if_neg c10] at H
         have c10b0:(t276 == 0) = false:=beq_eq_false_iff_ne.mpr c10
         have c10b1:(t276 != 0) = true:=bne_iff_ne.mpr c10
         (first|rw [c10b0]|(simp only [i64_w,i32_w];rw [c10b0])|skip)
         have H':=Aside0.mk H
         clear H
         go_wp2
         go_meet
         case rel=>exact ⟨_,(true),(by first|rfl|(simp;done)|(simp [*];done)),H',⟨by have:=HJ3.out;have:=HK2.out;first|omega|exact Nat.le_refl _⟩,⟨by (with_reducible repeat (first|apply Kd.S_alloc|apply Kd.S_drewN|apply Kd.S_drew));exact HO_9.out⟩,⟨by repeat (first|(with_reducible first|exact HB.out|apply below_alloc|apply pw_below_drewN|apply below_drew1)|exact HB.out)⟩⟩
       case rest =>
        clear HC9
        try clear c1
        try clear p2
        try clear c3
        try clear c5
        try clear c5b0
        try clear c5b1
        try clear c6
        try clear c7
        try clear c7b0
        try clear c10
        try clear c10b0
        try clear c10b1
        try clear p2
        obtain ⟨kq,x45_8,rfl,HA,HJ8,HO_9,HB⟩:=hcut
        cases kq with
        | zero=>exact absurd HA.out (by simp [ref26_Decode.j2])
        | succ kj8 =>
         have H:=HA.out
         clear HA
         simp only [ref26_Decode.j2] at H
         by_cases c11:x45_8 = true
         ·subst c11
          have H1:(some (([]:List (S39)),264)) = some (r1,r2):=by rw [if_pos rfl] at H;exact H
          clear H
          have H:=H1
          clear H1
          simp only [Option.some.injEq,Prod.mk.injEq] at H
          obtain ⟨rfl,rfl⟩:=H
          go_wp2
          go_ret2
          exact ⟨_,by first|rfl|(simp [errW_none,errW_some] <;> rfl)|(simp [*,errW_none,errW_some] <;> rfl),by first|exact Kd.S_nil _ _ _ _ _|exact Kd.N_nil _ _ _ _ _|exact Kd.V_nil _ _ _ _ _|exact Kd.Q_nil _ _ _ _ _|exact Kd.R_nil _ _ _ _ _,by repeat (first|(with_reducible first|exact HB.out|apply below_alloc|apply pw_below_drewN|apply below_drew1)|exact HB.out)⟩
         ·replace c11:=Bool.eq_false_iff.mpr c11
          subst c11
          have H1:(if (Int.tmod t274 2) = 1 then ((stockyardref01_TakeUint.f l1 t275).bind fun bt277=>(if bt277.2.2 = 0 then (ref26_Decode.j3 kj8 a0 l1 t269 bt277.2.1 x9_2 x10_2 t274 bt277.1 (decide (bt277.1 > 1048576))) else (ref26_Decode.j3 kj8 a0 l1 t269 bt277.2.1 x9_2 x10_2 t274 bt277.1 true))) else (if (wrap64 (IntKind.u64.wrap (Int.tdiv t274 2))) > (wrap64 ((l1.length:Int) - t275)) then (some (([]:List (S39)),264)) else (if 0 ≤ t275 then (if t275 ≤ (wrap64 (t275 + (wrap64 (IntKind.u64.wrap (Int.tdiv t274 2))))) then (if (wrap64 (t275 + (wrap64 (IntKind.u64.wrap (Int.tdiv t274 2))))) ≤ (l1.length:Int) then (if ([]:List Int).length + ((l1.take ((wrap64 (t275 + (wrap64 (IntKind.u64.wrap (Int.tdiv t274 2))))):Int).toNat).drop (t275:Int).toNat).length < 140737488355328 then (if x9_2.length < 3518437208883 then (ref26_Decode.l0 kj8 a0 l1 t269 (wrap64 (t275 + (wrap64 (IntKind.u64.wrap (Int.tdiv t274 2))))) (x9_2 ++ [(⟨0,0,(([]:List Int) ++ ((l1.take ((wrap64 (t275 + (wrap64 (IntKind.u64.wrap (Int.tdiv t274 2))))):Int).toNat).drop (t275:Int).toNat))⟩:S39)]) (IntKind.u64.wrap (x10_2 + 1))) else (none)) else (none)) else (none)) else (none)) else (none)))) = some (r1,r2):=by rw [if_neg (show ¬ (false = true) by decide)] at H;exact H
          clear H
          have H:=H1
          clear H1
          by_cases c12:(Int.tmod t274 2) = 1
          ·rw [if_pos c12] at H
           have c12b0:((Int.tmod t274 2) == 1) = true:=beq_iff_eq.mpr c12
           have c12b1:((Int.tmod t274 2) != 1) = false:=bne_eq_false_iff_eq.mpr c12
           clear c12
           replace H:=Option.bind_eq_some_iff.mp H
           obtain ⟨⟨t277,t278,t279⟩,A130,H⟩:=H
           replace H:(if t279 = 0 then (ref26_Decode.j3 kj8 a0 l1 t269 t278 x9_2 x10_2 t274 t277 (decide (t277 > 1048576))) else (ref26_Decode.j3 kj8 a0 l1 t269 t278 x9_2 x10_2 t274 t277 true)) = some (r1,r2):=H
           have A13:=Aside0.mk A130
           clear A130
           have HC14:=Aside0.mk H
           clear H
           go_upto_region 14 with (first|((with_reducible refine gate_callee (f:=57) rfl ?_);refine goesL_ (some 52) rfl rfl Try.func57 (by kernel_rfl) rfl #[.slice A1 l1.length c1,.int .i64 t275] rfl (by (try simp only [List.map_toArray,List.map_cons,List.map_nil]);first|done|rfl|(simp only [List.length_drop,List.length_take];rfl)) ?_;(with_reducible refine (stockyardref01_TakeUint.calls _ _ l1 t275 t277 t278 t279 _ ?side1 ?side2 A13.out).mono ?_);(case side1=>repeat (first|exact (Kd.C_below HR1.out HB.out)|(with_reducible refine Kd.C_alloc ?_ _)|(with_reducible refine Kd.C_drewN ?_ _)|(with_reducible refine Kd.C_drew ?_)));(case side2=>exact HC1.out);rintro e w' ⟨rfl,⟨nd,rfl⟩⟩;refine ⟨_,rfl,?_⟩))
           (try simp only [Act.put,List.setIfInBounds_toArray,List.set_cons_zero,List.set_cons_succ])
           go_cut [61] (fun v61 wc=>∃ (kq:Nat) (x61_13:Bool),v61 = .bool x61_13 ∧ Aside0 (ref26_Decode.j3 kq a0 l1 t269 t278 x9_2 x10_2 t274 t277 x61_13 = some (r1,r2)) ∧ Aside0 (kq ≤ kj8) ∧ Aside0 (Kd.S k39 39 wc w.heap.size (fun _=>True) u9 x9_2) ∧ Aside0 (Below w.heap.size w wc))
           case first =>
            have H:=HC14.out
            clear HC14
            by_cases c15:t279 = 0
            ·rw [if_pos c15] at H
             have c15b0:(t279 == 0) = true:=beq_iff_eq.mpr c15
             have c15b1:(t279 != 0) = false:=bne_eq_false_iff_eq.mpr c15
             clear c15
             (first|rw [c15b0]|(simp only [i64_w,i32_w];rw [c15b0])|skip)
             have H':=Aside0.mk H
             clear H
             go_wp2
             go_meet
             case rel=>exact ⟨_,(decide (t277 > 1048576)),(by first|rfl|(simp;done)|(simp [*];done)),H',⟨by have:=HJ3.out;have:=HK2.out;have:=HJ8.out;first|omega|exact Nat.le_refl _⟩,⟨by (with_reducible repeat (first|apply Kd.S_alloc|apply Kd.S_drewN|apply Kd.S_drew));exact HO_9.out⟩,⟨by repeat (first|(with_reducible first|exact HB.out|apply below_alloc|apply pw_below_drewN|apply below_drew1)|exact HB.out)⟩⟩
            ·rw [if_neg c15] at H
             have c15b0:(t279 == 0) = false:=beq_eq_false_iff_ne.mpr c15
             have c15b1:(t279 != 0) = true:=bne_iff_ne.mpr c15
             (first|rw [c15b0]|(simp only [i64_w,i32_w];rw [c15b0])|skip)
             have H':=Aside0.mk H
             clear H
             go_wp2
             go_meet
             case rel=>exact ⟨_,(true),(by first|rfl|(simp;done)|(simp [*];done)),H',⟨by have:=HJ3.out;have:=HK2.out;have:=HJ8.out;first|omega|exact Nat.le_refl _⟩,⟨by (with_reducible repeat (first|apply Kd.S_alloc|apply Kd.S_drewN|apply Kd.S_drew));exact HO_9.out⟩,⟨by repeat (first|(with_reducible first|exact HB.out|apply below_alloc|apply pw_below_drewN|apply below_drew1)|exact HB.out)⟩⟩
           case rest =>
            clear HC14
            try clear c1
            try clear p2
            try clear c3
            try clear c5
            try clear c5b0
            try clear c5b1
            try clear c6
            try clear p6
            try clear c7
            try clear c7b0
            try clear c10
            try clear c10b0
            try clear c10b1
            try clear c11
            try clear c12
            try clear c12b0
            try clear c12b1
            try clear c15
            try clear c15b0
            try clear c15b1
            try clear p2
            obtain ⟨kq,x61_13,rfl,HA,HJ13,HO_9,HB⟩:=hcut
            cases kq with
            | zero=>exact absurd HA.out (by simp [ref26_Decode.j3])
            | succ kj13 =>
             have H:=HA.out
             clear HA
             simp only [ref26_Decode.j3] at H
             by_cases c16:x61_13 = true
             ·subst c16
              have H1:(some (([]:List (S39)),264)) = some (r1,r2):=by rw [if_pos rfl] at H;exact H
              clear H
              have H:=H1
              clear H1
              simp only [Option.some.injEq,Prod.mk.injEq] at H
              obtain ⟨rfl,rfl⟩:=H
              go_wp2
              go_ret2
              exact ⟨_,by first|rfl|(simp [errW_none,errW_some] <;> rfl)|(simp [*,errW_none,errW_some] <;> rfl),by first|exact Kd.S_nil _ _ _ _ _|exact Kd.N_nil _ _ _ _ _|exact Kd.V_nil _ _ _ _ _|exact Kd.Q_nil _ _ _ _ _|exact Kd.R_nil _ _ _ _ _,by repeat (first|(with_reducible first|exact HB.out|apply below_alloc|apply pw_below_drewN|apply below_drew1)|exact HB.out)⟩
             ·replace c16:=Bool.eq_false_iff.mpr c16
              subst c16
              have H1:(if x9_2.length < 3518437208883 then (ref26_Decode.l0 kj13 a0 l1 t269 t278 (x9_2 ++ [(⟨wrap64 (t277),wrap64 (IntKind.u64.wrap (Int.tdiv t274 2)),([]:List Int)⟩:S39)]) (IntKind.u64.wrap (x10_2 + 1))) else (none)) = some (r1,r2):=by rw [if_neg (show ¬ (false = true) by decide)] at H;exact H
              clear H
              have H:=H1
              clear H1
              by_cases c17:x9_2.length < 3518437208883
              ·rw [if_pos c17] at H
               have LMc17:=Aside0.mk c17
               clear c17
               obtain ⟨y280,hy280⟩:∃ y_:List (S39),y_ = (x9_2 ++ [(⟨wrap64 (t277),wrap64 (IntKind.u64.wrap (Int.tdiv t274 2)),([]:List Int)⟩:S39)]):=⟨_,rfl⟩
               replace H:(ref26_Decode.l0 kj13 a0 l1 t269 t278 y280 (IntKind.u64.wrap (x10_2 + 1))) = some (r1,r2):=by first|(rw [hy280];with_reducible exact H)|(have H2_:=(Option.bind_some _ _).symm.trans H;rw [hy280];with_reducible exact H2_)|(have H2_:=(Option.bind_some _ _).symm.trans H;with_reducible exact H2_)|with_reducible exact H|(rw [hy280];exact H)|exact H
               have Ny280:=Aside0.mk hy280
               clear hy280
               have H':=Aside0.mk H
               clear H
               go_wp2_with (first|((with_reducible refine gate_builtin (b:=.append) (xs:=#[.tmp 62,.tmp 69]) rfl ?_);(try (refine gate_guard (by rfl) ?_;dsimp only));at_builtin;refine Kd.S_append k39 (w0:=w) w.heap.size rfl (.tmp 62) (.tmp 69) 29 39 (.agg #[(.int .i64 0),(.int .i64 0),(.slice none 0 0)]) 40 rfl Try.underlying29 info39 rfl (by decide) (by omega) u9 x9_2 (⟨wrap64 (t277),wrap64 (IntKind.u64.wrap (Int.tdiv t274 2)),([]:List Int)⟩:S39) [.int .i64 (wrap64 (t277)),.int .i64 (wrap64 (IntKind.u64.wrap (Int.tdiv t274 2))),.slice none 0 0] (fun _=>True) (fun _=>False) rfl rfl ?aP (fun k_ hk_=>hk_.elim) ?aF ?aO ?aB ?aS ?aL ?_;(case aP=>exact k39_mkM _ _ _ (⟨wrap64 (t277),wrap64 (IntKind.u64.wrap (Int.tdiv t274 2)),([]:List Int)⟩:S39) (Kd.R_nil _ _ _ _ _));(case aB=>exact (by repeat (first|(with_reducible first|exact HB.out|apply below_alloc|apply pw_below_drewN|apply below_drew1)|exact HB.out)));(case aF=>exact (fun _ _=>trivial));(case aO=>exact (by (with_reducible repeat (first|apply Kd.S_alloc|apply Kd.S_drewN|apply Kd.S_drew));exact Kd.S_mono HO_9.out (fun k_ hk=>⟨trivial,fun e_=>e_⟩)));(case aS=>exact (below_size (by repeat (first|(with_reducible first|exact HB.out|apply below_alloc|apply pw_below_drewN|apply below_drew1)|exact HB.out))));(case aL=>have:=LMc17.out;omega);intro v281 w18 ho hb hg hat;rw [← Ny280.out] at ho;have n0_:=Aside0.mk (hb);have n1_:=Aside0.mk (ho);clear HB;clear HO_9;have HB:=n0_;have HO282:=n1_;clear n0_ n1_;clear ho hb hg hat))
               go_roundg kj13
               case measure=>have:=HJ3.out;have:=HK2.out;have:=HJ8.out;have:=HJ13.out;omega
               case rel=>exact ⟨(t278),(y280),(IntKind.u64.wrap (x10_2 + 1)),(by first|rfl|(simp;done)|(simp [*];done)),(by first|rfl|(simp;done)|(simp [*];done)),H',⟨by have:=HJ3.out;have:=HK2.out;have:=HJ8.out;have:=HJ13.out;omega⟩,⟨by (with_reducible repeat (first|apply Kd.S_alloc|apply Kd.S_drewN|apply Kd.S_drew));exact HO282.out⟩,⟨by repeat (first|(with_reducible first|exact HB.out|apply below_alloc|apply pw_below_drewN|apply below_drew1)|exact HB.out)⟩⟩
              ·rw [if_neg c17] at H
               exact absurd H (by simp)
          ·rw [if_neg c12] at H
           have c12b0:((Int.tmod t274 2) == 1) = false:=beq_eq_false_iff_ne.mpr c12
           have c12b1:((Int.tmod t274 2) != 1) = true:=bne_iff_ne.mpr c12
           by_cases c19:(wrap64 (IntKind.u64.wrap (Int.tdiv t274 2))) > (wrap64 ((l1.length:Int) - t275))
           ·rw [if_pos c19] at H
            have c19b0:decide ((wrap64 ((l1.length:Int) - t275)) < (wrap64 (IntKind.u64.wrap (Int.tdiv t274 2)))) = true:=decide_eq_true c19
            clear c19
            simp only [Option.some.injEq,Prod.mk.injEq] at H
            obtain ⟨rfl,rfl⟩:=H
            go_wp2
            go_ret2
            exact ⟨_,by first|rfl|(simp [errW_none,errW_some] <;> rfl)|(simp [*,errW_none,errW_some] <;> rfl),by first|exact Kd.S_nil _ _ _ _ _|exact Kd.N_nil _ _ _ _ _|exact Kd.V_nil _ _ _ _ _|exact Kd.Q_nil _ _ _ _ _|exact Kd.R_nil _ _ _ _ _,by repeat (first|(with_reducible first|exact HB.out|apply below_alloc|apply pw_below_drewN|apply below_drew1)|exact HB.out)⟩
           ·rw [if_neg c19] at H
            have c19b0:decide ((wrap64 ((l1.length:Int) - t275)) < (wrap64 (IntKind.u64.wrap (Int.tdiv t274 2)))) = false:=decide_eq_false c19
            clear c19
            by_cases c20:0 ≤ t275
            ·rw [if_pos c20] at H
             have c20b0:=eq_true c20
             have c20b1:decide (0 ≤ t275) = true:=decide_eq_true c20
             clear c20
             by_cases c21:t275 ≤ (wrap64 (t275 + (wrap64 (IntKind.u64.wrap (Int.tdiv t274 2)))))
             ·rw [if_pos c21] at H
              have c21b0:=eq_true c21
              have c21b1:decide (t275 ≤ (wrap64 (t275 + (wrap64 (IntKind.u64.wrap (Int.tdiv t274 2)))))) = true:=decide_eq_true c21
              by_cases c22:(wrap64 (t275 + (wrap64 (IntKind.u64.wrap (Int.tdiv t274 2))))) ≤ (l1.length:Int)
              ·rw [if_pos c22] at H
               have c22b0:=eq_true c22
               have c22b1:decide ((wrap64 (t275 + (wrap64 (IntKind.u64.wrap (Int.tdiv t274 2))))) ≤ (l1.length:Int)) = true:=decide_eq_true c22
               by_cases c23:([]:List Int).length + ((l1.take ((wrap64 (t275 + (wrap64 (IntKind.u64.wrap (Int.tdiv t274 2))))):Int).toNat).drop (t275:Int).toNat).length < 140737488355328
               ·rw [if_pos c23] at H
                have LMc23:=Aside0.mk c23
                clear c23
                obtain ⟨y284,hy284⟩:∃ y_:List Int,y_ = (([]:List Int) ++ ((l1.take ((wrap64 (t275 + (wrap64 (IntKind.u64.wrap (Int.tdiv t274 2))))):Int).toNat).drop (t275:Int).toNat)):=⟨_,rfl⟩
                replace H:(if x9_2.length < 3518437208883 then (ref26_Decode.l0 kj8 a0 l1 t269 (wrap64 (t275 + (wrap64 (IntKind.u64.wrap (Int.tdiv t274 2))))) (x9_2 ++ [(⟨0,0,y284⟩:S39)]) (IntKind.u64.wrap (x10_2 + 1))) else (none)) = some (r1,r2):=by first|(rw [hy284];with_reducible exact H)|(have H2_:=(Option.bind_some _ _).symm.trans H;rw [hy284];with_reducible exact H2_)|(have H2_:=(Option.bind_some _ _).symm.trans H;with_reducible exact H2_)|with_reducible exact H|(rw [hy284];exact H)|exact H
                have Ny284:=Aside0.mk hy284
                clear hy284
                by_cases c24:x9_2.length < 3518437208883
                ·rw [if_pos c24] at H
                 have LMc24:=Aside0.mk c24
                 clear c24
                 obtain ⟨y287,hy287⟩:∃ y_:List (S39),y_ = (x9_2 ++ [(⟨0,0,y284⟩:S39)]):=⟨_,rfl⟩
                 replace H:(ref26_Decode.l0 kj8 a0 l1 t269 (wrap64 (t275 + (wrap64 (IntKind.u64.wrap (Int.tdiv t274 2))))) y287 (IntKind.u64.wrap (x10_2 + 1))) = some (r1,r2):=by first|(rw [hy287];with_reducible exact H)|(have H2_:=(Option.bind_some _ _).symm.trans H;rw [hy287];with_reducible exact H2_)|(have H2_:=(Option.bind_some _ _).symm.trans H;with_reducible exact H2_)|with_reducible exact H|(rw [hy287];exact H)|exact H
                 have Ny287:=Aside0.mk hy287
                 clear hy287
                 have H':=Aside0.mk H
                 clear H
                 obtain ⟨i025,hi025,_,hsz25,_⟩:=info_parts info5
                 obtain ⟨A25,hcut25,hA25,hC25⟩:=print_mid_of (P:=Try.prog) (Value.int .u8) 0 26 5 .i64 .i64 Try.underlying26 hi025 hsz25 A1 c1 l1 t275 (wrap64 (t275 + (wrap64 (IntKind.u64.wrap (Int.tdiv t274 2))))) (of_decide_eq_true (by first|(with_reducible assumption)|assumption)) (by first|omega|exact of_decide_eq_true (by first|(with_reducible assumption)|assumption)) (of_decide_eq_true (by first|(with_reducible assumption)|assumption)) HC1.out
                 have HR283:=Aside0.mk (Kd.C_of_reads (h1:=fun _=>rfl) (hA25 _ (Kd.reads_of_C HR1.out)))
                 have HC283:=Aside0.mk hC25
                 clear hA25 hC25 hi025 hsz25
                 go_wp2_with (first|((with_reducible refine gate_builtin (b:=.append) (xs:=#[.const (.slice none 0 0),.tmp 86]) rfl ?_);(try (refine gate_guard (by rfl) ?_;dsimp only));at_builtin;refine Kd.R_append_rows (Kd.int .u8) (w0:=w) w.heap.size rfl (.const (.slice none 0 0)) (.tmp 86) 26 5 (.int .u8 0) 1 rfl Try.underlying26 info5 rfl (by decide) (by omega) (.slice none 0 0) ([]:List Int) ((l1.take ((wrap64 (t275 + (wrap64 (IntKind.u64.wrap (Int.tdiv t274 2))))):Int).toNat).drop (t275:Int).toNat) _ _ _ (fun _=>True) (fun _=>False) rfl rfl ?aO ?aR (fun _ _ h=>h) (fun _ h=>h.elim) ?aF ?aB ?aS ?aL ?_;(case aR=>first|(rw [← show ((l1.take ((wrap64 (t275 + (wrap64 (IntKind.u64.wrap (Int.tdiv t274 2))))):Int).toNat).drop (t275:Int).toNat).length = ((wrap64 (t275 + (wrap64 (IntKind.u64.wrap (Int.tdiv t274 2))))).toNat - t275.toNat) from (by rw [List.length_drop,List.length_take];have h_:((wrap64 (t275 + (wrap64 (IntKind.u64.wrap (Int.tdiv t274 2))))):Int) ≤ (l1.length:Int):=of_decide_eq_true (by first|(with_reducible assumption)|assumption);omega)];repeat (first|exact (Kd.C_below HR283.out HB.out)|(with_reducible refine Kd.C_alloc ?_ _)|(with_reducible refine Kd.C_drewN ?_ _)|(with_reducible refine Kd.C_drew ?_)))|(repeat (first|exact (Kd.C_below HR283.out HB.out)|(with_reducible refine Kd.C_alloc ?_ _)|(with_reducible refine Kd.C_drewN ?_ _)|(with_reducible refine Kd.C_drew ?_))));(case aB=>exact (by repeat (first|(with_reducible first|exact HB.out|apply below_alloc|apply pw_below_drewN|apply below_drew1)|exact HB.out)));(case aF=>exact (fun _ _=>trivial));(case aO=>exact ((Kd.R_nil _ _ _ _ (fun _=>True))));(case aS=>exact (below_size (by repeat (first|(with_reducible first|exact HB.out|apply below_alloc|apply pw_below_drewN|apply below_drew1)|exact HB.out))));(case aL=>have:=LMc23.out;have hlx_:=(show ((l1.take ((wrap64 (t275 + (wrap64 (IntKind.u64.wrap (Int.tdiv t274 2))))):Int).toNat).drop (t275:Int).toNat).length = ((wrap64 (t275 + (wrap64 (IntKind.u64.wrap (Int.tdiv t274 2))))).toNat - t275.toNat) from (by rw [List.length_drop,List.length_take];have h_:((wrap64 (t275 + (wrap64 (IntKind.u64.wrap (Int.tdiv t274 2))))):Int) ≤ (l1.length:Int):=of_decide_eq_true (by first|(with_reducible assumption)|assumption);omega));omega);intro v285 w26 ho hb hg hat;rw [← Ny284.out] at ho;have n0_:=Aside0.mk (Kd.S_after (Kd.S_apart_nil (by (with_reducible repeat (first|apply Kd.S_alloc|apply Kd.S_drewN|apply Kd.S_drew));exact HO_9.out)) hg hat);have n1_:=Aside0.mk (hb);have n2_:=Aside0.mk (ho);clear HO_9;clear HB;have HO_9:=n0_;have HB:=n1_;have HO286:=n2_;clear n0_ n1_ n2_;clear ho hb hg hat;obtain ⟨Ao27,co27,eo27⟩:=Kd.R_slice HO286.out;subst eo27)|((with_reducible refine gate_builtin (b:=.append) (xs:=#[.tmp 80,.tmp 89]) rfl ?_);(try (refine gate_guard (by rfl) ?_;dsimp only));at_builtin;refine Kd.S_append k39 (w0:=w) w.heap.size rfl (.tmp 80) (.tmp 89) 29 39 (.agg #[(.int .i64 0),(.int .i64 0),(.slice none 0 0)]) 40 rfl Try.underlying29 info39 rfl (by decide) (by omega) u9 x9_2 (⟨0,0,y284⟩:S39) [.int .i64 0,.int .i64 0,.slice Ao27 y284.length co27] (fun _=>True) (fun k_=>some k_ = (.slice Ao27 y284.length co27:Value).ownBlock) rfl rfl ?aP (fun k_ hk_=>((Kd.R_mono (ok':=fun k_=>((fun _=>True)) k_ ∧ some k_ ≠ (u9:Value).ownBlock) (Kd.R_apart' (HO286.out) (Kd.S_typed HO_9.out) (by decide)) (fun k_ hk=>⟨trivial,hk.2⟩))).1 k_ hk_.symm) ?aF ?aO ?aB ?aS ?aL ?_;(case aP=>exact k39_mkM _ _ _ (⟨0,0,y284⟩:S39) (Kd.R_mono (Kd.R_tight rfl (Kd.R_mono (ok':=fun k_=>((fun _=>True)) k_ ∧ some k_ ≠ (u9:Value).ownBlock) (Kd.R_apart' (HO286.out) (Kd.S_typed HO_9.out) (by decide)) (fun k_ hk=>⟨trivial,hk.2⟩))) (fun _ h_=>h_)));(case aB=>exact (by repeat (first|(with_reducible first|exact HB.out|apply below_alloc|apply pw_below_drewN|apply below_drew1)|exact HB.out)));(case aF=>exact (fun _ _=>trivial));(case aO=>exact (by (with_reducible repeat (first|apply Kd.S_alloc|apply Kd.S_drewN|apply Kd.S_drew));exact Kd.S_mono HO_9.out (fun k_ hk=>⟨trivial,fun e_=>hk.2 e_⟩)));(case aS=>exact (below_size (by repeat (first|(with_reducible first|exact HB.out|apply below_alloc|apply pw_below_drewN|apply below_drew1)|exact HB.out))));(case aL=>have:=LMc24.out;omega);intro v288 w28 ho hb hg hat;rw [← Ny287.out] at ho;have n0_:=Aside0.mk (hb);have n1_:=Aside0.mk (ho);clear HB;clear HO_9;clear HO286;have HB:=n0_;have HO289:=n1_;clear n0_ n1_;clear ho hb hg hat))
                 go_roundg kj8
                 case measure=>have:=HJ3.out;have:=HK2.out;have:=HJ8.out;omega
                 case rel=>exact ⟨(wrap64 (t275 + (wrap64 (IntKind.u64.wrap (Int.tdiv t274 2))))),(y287),(IntKind.u64.wrap (x10_2 + 1)),(by first|rfl|(simp;done)|(simp [*];done)),(by first|rfl|(simp;done)|(simp [*];done)),H',⟨by have:=HJ3.out;have:=HK2.out;have:=HJ8.out;omega⟩,⟨by (with_reducible repeat (first|apply Kd.S_alloc|apply Kd.S_drewN|apply Kd.S_drew));exact HO289.out⟩,⟨by repeat (first|(with_reducible first|exact HB.out|apply below_alloc|apply pw_below_drewN|apply below_drew1)|exact HB.out)⟩⟩
                ·rw [if_neg c24] at H
                 exact absurd H (by simp)
               ·rw [if_neg c23] at H
                exact absurd H (by simp)
              ·rw [if_neg c22] at H
               exact absurd H (by simp)
             ·rw [if_neg c21] at H
              exact absurd H (by simp)
            ·rw [if_neg c20] at H
             exact absurd H (by simp)
      ·rw [if_neg c7] at H
       have c7b0:decide (x10_2 < t269) = false:=decide_eq_false c7
       clear c7
       replace H:=Option.bind_eq_some_iff.mp H
       obtain ⟨⟨t272,t273⟩,A290,H⟩:=H
       replace H:(if t273 = 0 then (if x7_2 = (l1.length:Int) then (some (x9_2,0)) else (some (([]:List (S39)),264))) else (some (([]:List (S39)),264))) = some (r1,r2):=H
       have A29:=Aside0.mk A290
       clear A290
       by_cases c30:t273 = 0
       ·rw [if_pos c30] at H
        have c30b0:(t273 == 0) = true:=beq_iff_eq.mpr c30
        have c30b1:(t273 != 0) = false:=bne_eq_false_iff_eq.mpr c30
        clear c30
        by_cases c31:x7_2 = (l1.length:Int)
        ·rw [if_pos c31] at H
         have c31b0:(x7_2 == (l1.length:Int)) = true:=beq_iff_eq.mpr c31
         have c31b1:(x7_2 != (l1.length:Int)) = false:=bne_eq_false_iff_eq.mpr c31
         clear c31
         simp only [Option.some.injEq,Prod.mk.injEq] at H
         obtain ⟨rfl,rfl⟩:=H
         obtain ⟨Ao32,co32,eo32⟩:=Kd.S_slice HO_9.out
         subst eo32
         go_wp2_with (first|((with_reducible refine gate_callee (f:=24) rfl ?_);refine goesL_ (some 97) rfl rfl Try.func24 (by kernel_rfl) rfl #[.int .i64 a0,.slice Ao32 x9_2.length co32] rfl (by (try simp only [List.map_toArray,List.map_cons,List.map_nil]);first|done|rfl|(simp only [List.length_drop,List.length_take];rfl)) ?_;(with_reducible refine (ref26_Check.calls k2 a0 _ _ x9_2 t272 t273 _ ?side1 ?side2 A29.out).mono ?_);(case side1=>repeat (first|exact (Kd.S_reads' HO_9.out).2.2|(with_reducible refine Kd.C_alloc ?_ _)|(with_reducible refine Kd.C_drewN ?_ _)|(with_reducible refine Kd.C_drew ?_)));(case side2=>exact (Kd.S_reads' HO_9.out).2.1);rintro e w33 ⟨rfl,hb⟩;refine ⟨_,rfl,?_⟩;have n0_:=Aside0.mk (Kd.S_below (by (with_reducible repeat (first|apply Kd.S_alloc|apply Kd.S_drewN|apply Kd.S_drew));exact HO_9.out) hb);have n1_:=Aside0.mk (below_step (by repeat (first|(with_reducible first|exact HB.out|apply below_alloc|apply pw_below_drewN|apply below_drew1)|exact HB.out)) hb);clear HO_9;clear HB;have HO_9:=n0_;have HB:=n1_;clear n0_ n1_;(try clear hb);(try clear hb2);(try clear hk);(try clear hi)))
         go_ret2
         exact ⟨_,by first|rfl|(simp [errW_none,errW_some] <;> rfl)|(simp [*,errW_none,errW_some] <;> rfl),by (with_reducible repeat (first|apply Kd.S_alloc|apply Kd.S_drewN|apply Kd.S_drew));exact HO_9.out,by repeat (first|(with_reducible first|exact HB.out|apply below_alloc|apply pw_below_drewN|apply below_drew1)|exact HB.out)⟩
        ·rw [if_neg c31] at H
         have c31b0:(x7_2 == (l1.length:Int)) = false:=beq_eq_false_iff_ne.mpr c31
         have c31b1:(x7_2 != (l1.length:Int)) = true:=bne_iff_ne.mpr c31
         simp only [Option.some.injEq,Prod.mk.injEq] at H
         obtain ⟨rfl,rfl⟩:=H
         obtain ⟨Ao34,co34,eo34⟩:=Kd.S_slice HO_9.out
         subst eo34
         go_wp2_with (first|((with_reducible refine gate_callee (f:=24) rfl ?_);refine goesL_ (some 97) rfl rfl Try.func24 (by kernel_rfl) rfl #[.int .i64 a0,.slice Ao34 x9_2.length co34] rfl (by (try simp only [List.map_toArray,List.map_cons,List.map_nil]);first|done|rfl|(simp only [List.length_drop,List.length_take];rfl)) ?_;(with_reducible refine (ref26_Check.calls k2 a0 _ _ x9_2 t272 t273 _ ?side1 ?side2 A29.out).mono ?_);(case side1=>repeat (first|exact (Kd.S_reads' HO_9.out).2.2|(with_reducible refine Kd.C_alloc ?_ _)|(with_reducible refine Kd.C_drewN ?_ _)|(with_reducible refine Kd.C_drew ?_)));(case side2=>exact (Kd.S_reads' HO_9.out).2.1);rintro e w35 ⟨rfl,hb⟩;refine ⟨_,rfl,?_⟩;have n0_:=Aside0.mk (Kd.S_below (by (with_reducible repeat (first|apply Kd.S_alloc|apply Kd.S_drewN|apply Kd.S_drew));exact HO_9.out) hb);have n1_:=Aside0.mk (below_step (by repeat (first|(with_reducible first|exact HB.out|apply below_alloc|apply pw_below_drewN|apply below_drew1)|exact HB.out)) hb);clear HO_9;clear HB;have HO_9:=n0_;have HB:=n1_;clear n0_ n1_;(try clear hb);(try clear hb2);(try clear hk);(try clear hi)))
         go_ret2
         exact ⟨_,by first|rfl|(simp [errW_none,errW_some] <;> rfl)|(simp [*,errW_none,errW_some] <;> rfl),by first|exact Kd.S_nil _ _ _ _ _|exact Kd.N_nil _ _ _ _ _|exact Kd.V_nil _ _ _ _ _|exact Kd.Q_nil _ _ _ _ _|exact Kd.R_nil _ _ _ _ _,by repeat (first|(with_reducible first|exact HB.out|apply below_alloc|apply pw_below_drewN|apply below_drew1)|exact HB.out)⟩
       ·rw [if_neg c30] at H
        have c30b0:(t273 == 0) = false:=beq_eq_false_iff_ne.mpr c30
        have c30b1:(t273 != 0) = true:=bne_iff_ne.mpr c30
        simp only [Option.some.injEq,Prod.mk.injEq] at H
        obtain ⟨rfl,rfl⟩:=H
        obtain ⟨Ao36,co36,eo36⟩:=Kd.S_slice HO_9.out
        subst eo36
        go_wp2_with (first|((with_reducible refine gate_callee (f:=24) rfl ?_);refine goesL_ (some 97) rfl rfl Try.func24 (by kernel_rfl) rfl #[.int .i64 a0,.slice Ao36 x9_2.length co36] rfl (by (try simp only [List.map_toArray,List.map_cons,List.map_nil]);first|done|rfl|(simp only [List.length_drop,List.length_take];rfl)) ?_;(with_reducible refine (ref26_Check.calls k2 a0 _ _ x9_2 t272 t273 _ ?side1 ?side2 A29.out).mono ?_);(case side1=>repeat (first|exact (Kd.S_reads' HO_9.out).2.2|(with_reducible refine Kd.C_alloc ?_ _)|(with_reducible refine Kd.C_drewN ?_ _)|(with_reducible refine Kd.C_drew ?_)));(case side2=>exact (Kd.S_reads' HO_9.out).2.1);rintro e w37 ⟨rfl,hb⟩;refine ⟨_,rfl,?_⟩;have n0_:=Aside0.mk (Kd.S_below (by (with_reducible repeat (first|apply Kd.S_alloc|apply Kd.S_drewN|apply Kd.S_drew));exact HO_9.out) hb);have n1_:=Aside0.mk (below_step (by repeat (first|(with_reducible first|exact HB.out|apply below_alloc|apply pw_below_drewN|apply below_drew1)|exact HB.out)) hb);clear HO_9;clear HB;have HO_9:=n0_;have HB:=n1_;clear n0_ n1_;(try clear hb);(try clear hb2);(try clear hk);(try clear hi)))
        go_ret2
        exact ⟨_,by first|rfl|(simp [errW_none,errW_some] <;> rfl)|(simp [*,errW_none,errW_some] <;> rfl),by first|exact Kd.S_nil _ _ _ _ _|exact Kd.N_nil _ _ _ _ _|exact Kd.V_nil _ _ _ _ _|exact Kd.Q_nil _ _ _ _ _|exact Kd.R_nil _ _ _ _ _,by repeat (first|(with_reducible first|exact HB.out|apply below_alloc|apply pw_below_drewN|apply below_drew1)|exact HB.out)⟩

end Go.Proofs.Ytjckjcekapkkjaa.P
