-- WRITTEN BY myprint.py (wip/tools) for this seat
import Derived.Test.YtjckjcekapkkjaaPx0
namespace Go.Proofs.Ytjckjcekapkkjaa.P
open Go.RowKit Go.Proofs.YtjckjcekapkkjaaW.PrintWords Go.Proofs.YtjckjcekapkkjaaW.PrintLast Go.Proofs.YtjckjcekapkkjaaW.PrintMore
attribute [local go_sem] max2_int min2_int max_two min_two max_three min_three max_four min_four   -- for this text's walks alone
set_option linter.unusedVariables false
set_option linter.unusedSimpArgs false

/-! ### make_Fold: function 21 -/
def make_Fold.f (a0:Int) (a1:Int):Option (Int):=if a1 ≤ 1 then (some 0) else (if a1 = 0 then (none) else (if (Int.tmod a0 a1) < 0 then (some (wrap64 ((Int.tmod a0 a1) + a1))) else (some (Int.tmod a0 a1))))
set_option maxHeartbeats 8000000 in
set_option maxRecDepth 100000 in
theorem make_Fold.calls (a0:Int) (a1:Int) (r:Int) (w:World) (h:make_Fold.f a0 a1 = some r) :
  Calls Try.prog 21 #[.int .i64 a0,.int .i64 a1] w fun e w'=>e = .returned (.int .i64 r) ∧ Drawn0 w w':=by
 have H:(if a1 ≤ 1 then (some 0) else (if a1 = 0 then (none) else (if (Int.tmod a0 a1) < 0 then (some (wrap64 ((Int.tmod a0 a1) + a1))) else (some (Int.tmod a0 a1))))) = some r:=h
 clear h
 by_cases c3:a1 ≤ 1
 ·rw [if_pos c3] at H
  have c3b0:decide (a1 ≤ 1) = true:=decide_eq_true c3
  clear c3
  obtain rfl:=Option.some.inj H
  go_enter Try.func21,Try.ntmps21
  go_wp2
  go_ret
  exact ⟨by first|rfl|(simp;done)|(simp [*];done),by repeat (first|exact Drawn0.refl _|apply Drawn0.step)⟩
 ·rw [if_neg c3] at H
  have c3b0:decide (a1 ≤ 1) = false:=decide_eq_false c3
  clear c3
  by_cases c4:a1 = 0
  ·rw [if_pos c4] at H
   exact absurd H (by simp)
  ·rw [if_neg c4] at H
   have c4b0:(a1 == 0) = false:=beq_eq_false_iff_ne.mpr c4
   have c4b1:(a1 != 0) = true:=bne_iff_ne.mpr c4
   by_cases c5:(Int.tmod a0 a1) < 0
   ·rw [if_pos c5] at H
    have c5b0:decide ((Int.tmod a0 a1) < 0) = true:=decide_eq_true c5
    clear c5
    obtain rfl:=Option.some.inj H
    go_enter Try.func21,Try.ntmps21
    go_wp2
    go_ret
    exact ⟨by first|rfl|(simp;done)|(simp [*];done),by repeat (first|exact Drawn0.refl _|apply Drawn0.step)⟩
   ·rw [if_neg c5] at H
    have c5b0:decide ((Int.tmod a0 a1) < 0) = false:=decide_eq_false c5
    clear c5
    obtain rfl:=Option.some.inj H
    go_enter Try.func21,Try.ntmps21
    go_wp2
    go_ret
    exact ⟨by first|rfl|(simp;done)|(simp [*];done),by repeat (first|exact Drawn0.refl _|apply Drawn0.step)⟩

/-- A state of type 25 at block g of W;what its slices lead to came in by w0. -/
def IsS25 (w0 W:World) (g:Nat) (f0:List Int) (f1:Int):Prop:=∃ A0 c0,W.heap[g]? = some (.cells #[.slice A0 f0.length c0,.int .i64 f1] 25 (0,0)) ∧ w0.heap.size ≤ g ∧ Kd.C (Kd.int .i64) w0 A0 f0.length f0
theorem IsS25.grown {w0 W:World} {g:Nat} {f0:List Int} {f1:Int} {W1:World} {row:Option Nat} (h:IsS25 w0 W g f0 f1) (hw:W.grownBy W1 row) (hne:some g ≠ row):IsS25 w0 W1 g f0 f1:=by
 obtain ⟨A0,c0,hb,hg,hr0⟩:=h
 exact ⟨A0,c0,blk_grown hb hw hne,hg,hr0⟩
theorem IsS25.own_neN {w0 W:World} {g:Nat} {f0:List Int} {f1:Int} {α:Type} {d:Kd α} {e:Nat} {base:Nat} {ok:Nat → Prop} {v:Value} {xs:List α} (h:IsS25 w0 W g f0 f1) (ho:Kd.N d e W base ok v xs) (ht:e ≠ 25):some g ≠ v.ownBlock:=by
 obtain ⟨A0,c0,hb,hg,hr0⟩:=h
 exact Kd.N_ne ho hb ht
theorem IsS25.fresh {w0 W:World} {g:Nat} {f0:List Int} {f1:Int} (h:IsS25 w0 W g f0 f1):∀ k,W.heap.size ≤ k → k ≠ g:=by
 obtain ⟨A0,c0,hb,hg,hr0⟩:=h
 exact Kd.freshB hb
theorem IsS25.kept {w0 W:World} {g:Nat} {f0:List Int} {f1:Int} {W1:World} {S:Nat → Prop} (h:IsS25 w0 W g f0 f1) (hk:Kept W W1 S) (hne:¬ S g):IsS25 w0 W1 g f0 f1:=by
 obtain ⟨A0,c0,hb,hg,hr0⟩:=h
 exact ⟨A0,c0,blk_kept hb hk hne,hg,hr0⟩
theorem IsS25.below {w0 W:World} {g:Nat} {f0:List Int} {f1:Int} {W1:World} (h:IsS25 w0 W g f0 f1) (hw:Below W.heap.size W W1):IsS25 w0 W1 g f0 f1:=h.grown (grown_of_below hw none) (by simp)
theorem IsS25.alloc {w0 W:World} {g:Nat} {f0:List Int} {f1:Int} (h:IsS25 w0 W g f0 f1) (o:Obj):IsS25 w0 (W.alloc o) g f0 f1:=h.below (below_alloc (Below.refl _ _) o)
theorem IsS25.drewN {w0 W:World} {g:Nat} {f0:List Int} {f1:Int} (h:IsS25 w0 W g f0 f1) (m:Nat):IsS25 w0 (W.drewN m) g f0 f1:=h
theorem IsS25.drew {w0 W:World} {g:Nat} {f0:List Int} {f1:Int} (h:IsS25 w0 W g f0 f1):IsS25 w0 W.drew g f0 f1:=h
theorem IsS25.at_ {w0 W:World} {g:Nat} {f0:List Int} {f1:Int} {w':World} {m:Nat} (hq:W.drewN m = w') (h:IsS25 w0 W g f0 f1):IsS25 w0 w' g f0 f1:=by subst hq;exact IsS25.drewN h m
theorem IsS25.apart {w0 W:World} {g:Nat} {f0:List Int} {f1:Int} {α:Type} {d:Kd α} {e:Nat} {base:Nat} {ok:Nat → Prop} {v:Value} {xs:List α} (h:IsS25 w0 W g f0 f1) (ho:d.R e W base ok v xs) (ht:∀ q,q ∈ e :: d.E → q ≠ 25):d.R e W base (fun k=>ok k ∧ k ≠ g) v xs:=by
 obtain ⟨A0,c0,hb,hg,hr0⟩:=h
 exact Kd.R_types ho hb ht
theorem IsS25.own_ne {w0 W:World} {g:Nat} {f0:List Int} {f1:Int} {α:Type} {d:Kd α} {e:Nat} {base:Nat} {ok:Nat → Prop} {v:Value} {xs:List α} (h:IsS25 w0 W g f0 f1) (ho:d.R e W base ok v xs) (ht:e ≠ 25):some g ≠ v.ownBlock:=by
 obtain ⟨A0,c0,hb,hg,hr0⟩:=h
 exact Kd.R_ne ho hb ht
theorem IsS25.apartS {w0 W:World} {g:Nat} {f0:List Int} {f1:Int} {α:Type} {d:Kd α} {e:Nat} {base:Nat} {ok:Nat → Prop} {v:Value} {xs:List α} (h:IsS25 w0 W g f0 f1) (ho:d.S e W base ok v xs) (ht:∀ q,q ∈ e :: d.E → q ≠ 25):d.S e W base (fun k=>ok k ∧ k ≠ g) v xs:=by
 obtain ⟨A0,c0,hb,hg,hr0⟩:=h
 exact Kd.S_types ho hb ht
theorem IsS25.own_neS {w0 W:World} {g:Nat} {f0:List Int} {f1:Int} {α:Type} {d:Kd α} {e:Nat} {base:Nat} {ok:Nat → Prop} {v:Value} {xs:List α} (h:IsS25 w0 W g f0 f1) (ho:d.S e W base ok v xs) (ht:e ≠ 25):some g ≠ v.ownBlock:=by
 obtain ⟨A0,c0,hb,hg,hr0⟩:=h
 exact Kd.S_ne ho hb ht
theorem IsS25.lt {w0 W:World} {g:Nat} {f0:List Int} {f1:Int} (h:IsS25 w0 W g f0 f1):g < W.heap.size:=by
 obtain ⟨A0,c0,hb,hg,hr0⟩:=h
 exact blk_lt hb
theorem IsS25.ge {w0 W:World} {g:Nat} {f0:List Int} {f1:Int} (h:IsS25 w0 W g f0 f1):w0.heap.size ≤ g:=by
 obtain ⟨A0,c0,hb,hg,hr0⟩:=h
 exact hg
theorem IsS25.far {w0 W:World} {g:Nat} {f0:List Int} {f1:Int} {p:Addr} (h:IsS25 w0 W g f0 f1) (hne:g ≠ p.block) (u:Value):IsS25 w0 (W.setCell p u) g f0 f1:=by
 obtain ⟨A0,c0,hb,hg,hr0⟩:=h
 exact ⟨A0,c0,blk_far hb hne u,hg,hr0⟩
theorem cellS25_0 {W:World} {g:Nat} {A0:Option Addr} {c0:Nat} {f0:List Int} {f1:Int} (h:W.heap[g]? = some (.cells #[.slice A0 f0.length c0,.int .i64 f1] 25 (0,0))):W.cell? ⟨g,0,none⟩ = some (.slice A0 f0.length c0):=(blk_cell h 0).trans rfl
theorem cellS25_1 {W:World} {g:Nat} {A0:Option Addr} {c0:Nat} {f0:List Int} {f1:Int} (h:W.heap[g]? = some (.cells #[.slice A0 f0.length c0,.int .i64 f1] 25 (0,0))):W.cell? ⟨g,1,none⟩ = some (.int .i64 f1):=(blk_cell h 1).trans rfl
theorem IsS25.set_1 {w0 W:World} {g:Nat} {f0:List Int} {f1:Int} (h:IsS25 w0 W g f0 f1) (x:Int):IsS25 w0 (W.setCell ⟨g,1,none⟩ (.int .i64 x)) g f0 x:=by
 obtain ⟨A0,c0,hb,hg,hr0⟩:=h
 exact ⟨A0,c0,by simpa using blk_set hb 1 (.int .i64 x),hg,hr0⟩
theorem IsS25.new (w0 W:World) (A0:Option Addr) (c0:Nat) (f0:List Int) (f1:Int) (hB:Below w0.heap.size w0 W) (hr0:Kd.C (Kd.int .i64) w0 A0 f0.length f0):IsS25 w0 (W.alloc (.cells #[.slice A0 f0.length c0,.int .i64 f1] 25)) W.heap.size f0 f1:=⟨A0,c0,by simpa using heap_alloc_new W _,hB.size,hr0⟩

/-! ### make_Tape_Next: function 16 -/
def make_Tape_Next.f (s0_0:List Int) (s0_1:Int) (a1:Int):Option (Int × Int):=if s0_1 < (s0_0.length:Int) then (if 0 ≤ s0_1 then ((make_Fold.f (rd s0_0 s0_1) a1).bind fun t102=>(some (t102,wrap64 (s0_1 + 1)))) else (none)) else ((make_Fold.f (Int.tmod (wrap64 (s0_1 * 7)) 11) a1).bind fun t103=>(some (t103,wrap64 (s0_1 + 1))))
set_option maxHeartbeats 8000000 in
set_option maxRecDepth 100000 in
theorem make_Tape_Next.calls (g:Nat) (s0_0:List Int) (s0_1:Int) (a1:Int) (r1:Int) (r2:Int) (w0 w:World) (hI:IsS25 w0 w g s0_0 s0_1) (hB:Below w0.heap.size w0 w) (h:make_Tape_Next.f s0_0 s0_1 a1 = some (r1,r2)) :
  Calls Try.prog 16 #[.pointer (some ⟨g,0,none⟩),.int .i64 a1] w fun e w'=>e = .returned (.int .i64 r1) ∧ IsS25 w0 w' g s0_0 r2 ∧ Below w0.heap.size w0 w' ∧ KeepBut w w' g none:=by
 have HI0:=Aside0.mk hI
 have HK:=Aside0.mk (KeepBut.refl w g none)
 have HL:=Aside0.mk hB.size
 clear hI
 have HW0:=Aside0.mk hB.size
 have HB:=Aside0.mk hB
 clear hB
 have H:(if s0_1 < (s0_0.length:Int) then (if 0 ≤ s0_1 then ((make_Fold.f (rd s0_0 s0_1) a1).bind fun t102=>(some (t102,wrap64 (s0_1 + 1)))) else (none)) else ((make_Fold.f (Int.tmod (wrap64 (s0_1 * 7)) 11) a1).bind fun t103=>(some (t103,wrap64 (s0_1 + 1))))) = some (r1,r2):=h
 clear h
 by_cases c3:s0_1 < (s0_0.length:Int)
 ·rw [if_pos c3] at H
  have c3b0:decide (s0_1 < (s0_0.length:Int)) = true:=decide_eq_true c3
  clear c3
  by_cases c4:0 ≤ s0_1
  ·rw [if_pos c4] at H
   have c4b0:decide (0 ≤ s0_1) = true:=decide_eq_true c4
   clear c4
   replace H:=Option.bind_eq_some_iff.mp H
   obtain ⟨t102,A50,H⟩:=H
   replace H:(some (t102,wrap64 (s0_1 + 1))) = some (r1,r2):=H
   have A5:=Aside0.mk A50
   clear A50
   simp only [Option.some.injEq,Prod.mk.injEq] at H
   obtain ⟨rfl,rfl⟩:=H
   obtain ⟨ASz6_0,cSz6_0,HGz6,hgz6,HSz6_0⟩:=HI0.out
   have hcz6_0:=cellS25_0 HGz6
   have hcz6_1:=cellS25_1 HGz6
   have hfz6_1:=blk_frozen HGz6 1
   clear HGz6 hgz6
   have p101:0 ≤ (s0_1:Int):=of_decide_eq_true (by first|(with_reducible assumption)|assumption)
   have q101:s0_1 < (s0_0.length:Int):=of_decide_eq_true (by first|(with_reducible assumption)|assumption)
   obtain ⟨ad101,e101,hx101_0⟩:=Kd.at_int HSz6_0 s0_1 p101 q101
   cases e101
   replace hx101_0:=pw_cell_below HB.out hx101_0
   replace p101:=eq_true p101
   replace q101:=eq_true q101
   go_enter Try.func16,Try.ntmps16
   go_wp2_with (first|(go_at_call 21;(with_reducible refine (make_Fold.calls (rd s0_0 s0_1) a1 t102 _ A5.out).mono ?_);rintro e w' ⟨rfl,⟨nd,rfl⟩⟩;(try first|exact ⟨rfl,_,World.drewN_drewN _ _ _⟩|exact ⟨rfl,_,Eq.trans (World.drewN_drewN _ _ _) (congrArg (World.drewN _) (Nat.add_assoc _ _ _))⟩)))
   repeat (go_quiet (first|(go_at_call 21;(with_reducible refine (make_Fold.calls (rd s0_0 s0_1) a1 t102 _ A5.out).mono ?_);rintro e w' ⟨rfl,⟨nd,rfl⟩⟩;(try first|exact ⟨rfl,_,World.drewN_drewN _ _ _⟩|exact ⟨rfl,_,Eq.trans (World.drewN_drewN _ _ _) (congrArg (World.drewN _) (Nat.add_assoc _ _ _))⟩)));try go_wp2_with (first|(go_at_call 21;(with_reducible refine (make_Fold.calls (rd s0_0 s0_1) a1 t102 _ A5.out).mono ?_);rintro e w' ⟨rfl,⟨nd,rfl⟩⟩;(try first|exact ⟨rfl,_,World.drewN_drewN _ _ _⟩|exact ⟨rfl,_,Eq.trans (World.drewN_drewN _ _ _) (congrArg (World.drewN _) (Nat.add_assoc _ _ _))⟩))))
   go_ret
   exact ⟨by first|rfl|(simp [errW_none,errW_some] <;> rfl)|(simp [*,errW_none,errW_some] <;> rfl),by repeat (first|(with_reducible first|exact HI0.out|apply IsS25.alloc|apply IsS25.drewN|apply IsS25.drew|apply IsS25.set_1)|exact HI0.out),by repeat (first|(with_reducible first|exact HB.out|apply below_alloc|apply pw_below_drewN|apply below_drew1|refine below_set ?_ (IsS25.ge HI0.out))|exact HB.out),by repeat (first|(with_reducible first|exact HK.out|apply KeepBut.set_|apply keep_drewN|apply keep_drew|apply keep_alloc)|exact HK.out)⟩
  ·rw [if_neg c4] at H
   exact absurd H (by simp)
 ·rw [if_neg c3] at H
  have c3b0:decide (s0_1 < (s0_0.length:Int)) = false:=decide_eq_false c3
  clear c3
  replace H:=Option.bind_eq_some_iff.mp H
  obtain ⟨t103,A70,H⟩:=H
  replace H:(some (t103,wrap64 (s0_1 + 1))) = some (r1,r2):=H
  have A7:=Aside0.mk A70
  clear A70
  simp only [Option.some.injEq,Prod.mk.injEq] at H
  obtain ⟨rfl,rfl⟩:=H
  obtain ⟨ASz8_0,cSz8_0,HGz8,hgz8,HSz8_0⟩:=HI0.out
  have hcz8_0:=cellS25_0 HGz8
  have hcz8_1:=cellS25_1 HGz8
  have hfz8_1:=blk_frozen HGz8 1
  clear HGz8 hgz8
  go_enter Try.func16,Try.ntmps16
  go_wp2_with (first|(go_at_call 21;(with_reducible refine (make_Fold.calls (Int.tmod (wrap64 (s0_1 * 7)) 11) a1 t103 _ A7.out).mono ?_);rintro e w' ⟨rfl,⟨nd,rfl⟩⟩;(try first|exact ⟨rfl,_,World.drewN_drewN _ _ _⟩|exact ⟨rfl,_,Eq.trans (World.drewN_drewN _ _ _) (congrArg (World.drewN _) (Nat.add_assoc _ _ _))⟩)))
  repeat (go_quiet (first|(go_at_call 21;(with_reducible refine (make_Fold.calls (Int.tmod (wrap64 (s0_1 * 7)) 11) a1 t103 _ A7.out).mono ?_);rintro e w' ⟨rfl,⟨nd,rfl⟩⟩;(try first|exact ⟨rfl,_,World.drewN_drewN _ _ _⟩|exact ⟨rfl,_,Eq.trans (World.drewN_drewN _ _ _) (congrArg (World.drewN _) (Nat.add_assoc _ _ _))⟩)));try go_wp2_with (first|(go_at_call 21;(with_reducible refine (make_Fold.calls (Int.tmod (wrap64 (s0_1 * 7)) 11) a1 t103 _ A7.out).mono ?_);rintro e w' ⟨rfl,⟨nd,rfl⟩⟩;(try first|exact ⟨rfl,_,World.drewN_drewN _ _ _⟩|exact ⟨rfl,_,Eq.trans (World.drewN_drewN _ _ _) (congrArg (World.drewN _) (Nat.add_assoc _ _ _))⟩))))
  go_ret
  exact ⟨by first|rfl|(simp [errW_none,errW_some] <;> rfl)|(simp [*,errW_none,errW_some] <;> rfl),by repeat (first|(with_reducible first|exact HI0.out|apply IsS25.alloc|apply IsS25.drewN|apply IsS25.drew|apply IsS25.set_1)|exact HI0.out),by repeat (first|(with_reducible first|exact HB.out|apply below_alloc|apply pw_below_drewN|apply below_drew1|refine below_set ?_ (IsS25.ge HI0.out))|exact HB.out),by repeat (first|(with_reducible first|exact HK.out|apply KeepBut.set_|apply keep_drewN|apply keep_drew|apply keep_alloc)|exact HK.out)⟩

/-! ### delta_common: function 42 -/
def delta_common.l0:Nat → List Int → List Int → Int → Option (Int)
 | 0,_,_,_=>none
 | k + 1,x0,x1,x5=>if x5 < (x0.length:Int) then (if x5 < (x1.length:Int) then (if 0 ≤ x5 then (if (rd x0 x5) = (rd x1 x5) then (delta_common.l0 k x0 x1 (wrap64 (x5 + 1))) else (some x5)) else (none)) else (some x5)) else (some x5)
def delta_common.f (k:Nat) (l0:List Int) (l1:List Int):Option (Int):=delta_common.l0 k l0 l1 0
set_option maxHeartbeats 8000000 in
set_option maxRecDepth 100000 in
theorem delta_common.calls (k:Nat) (A0:Option Addr) (c0:Nat) (l0:List Int) (A1:Option Addr) (c1:Nat) (l1:List Int) (r:Int) (w:World) (hr0:Kd.C (Kd.int .u8) w A0 l0.length l0) (hc0:l0.length ≤ c0) (hr1:Kd.C (Kd.int .u8) w A1 l1.length l1) (hc1:l1.length ≤ c1) (h:delta_common.f k l0 l1 = some r) :
  Calls Try.prog 42 #[.slice A0 l0.length c0,.slice A1 l1.length c1] w fun e w'=>e = .returned (.int .i64 r) ∧ Drawn0 w w':=by
 have HR0:=Aside0.mk hr0
 have HC0:=Aside0.mk hc0
 clear hr0 hc0
 have HR1:=Aside0.mk hr1
 have HC1:=Aside0.mk hc1
 clear hr1 hc1
 have H:(delta_common.l0 k l0 l1 0) = some r:=h
 clear h
 have H':=Aside0.mk H
 clear H
 go_enter Try.func42,Try.ntmps42
 go_wp2
 repeat (go_quiet (fail);try go_wp2)
 go_loopg [5] k (fun kq v5 w'=>∃ (x5_1:Int),v5 = .int .i64 x5_1 ∧ Aside0 (delta_common.l0 kq l0 l1 x5_1 = some r) ∧ Aside0 (kq ≤ k) ∧ Drawn0 w w')
 case atStart=>exact ⟨(0),(by first|rfl|(simp;done)|(simp [*];done)),H',⟨Nat.le_refl _⟩,by repeat (first|exact Drawn0.refl _|apply Drawn0.step)⟩
 case round =>
  clear H'
  try clear c1
  try clear p2
  obtain ⟨x5_1,rfl,HA,HK1,⟨m1,rfl⟩⟩:=hrel
  cases gk with
  | zero=>exact absurd HA.out (by simp [delta_common.l0])
  | succ k1 =>
   have H:=HA.out
   clear HA
   simp only [delta_common.l0] at H
   by_cases c3:x5_1 < (l0.length:Int)
   ·rw [if_pos c3] at H
    have c3b0:decide (x5_1 < (l0.length:Int)) = true:=decide_eq_true c3
    clear c3
    by_cases c4:x5_1 < (l1.length:Int)
    ·rw [if_pos c4] at H
     have c4b0:decide (x5_1 < (l1.length:Int)) = true:=decide_eq_true c4
     clear c4
     by_cases c5:0 ≤ x5_1
     ·rw [if_pos c5] at H
      have c5b0:decide (0 ≤ x5_1) = true:=decide_eq_true c5
      clear c5
      by_cases c6:(rd l0 x5_1) = (rd l1 x5_1)
      ·rw [if_pos c6] at H
       have c6b0:((rd l0 x5_1) == (rd l1 x5_1)) = true:=beq_iff_eq.mpr c6
       have c6b1:((rd l0 x5_1) != (rd l1 x5_1)) = false:=bne_eq_false_iff_eq.mpr c6
       clear c6
       have H':=Aside0.mk H
       clear H
       have p104:0 ≤ (x5_1:Int):=of_decide_eq_true (by first|(with_reducible assumption)|assumption)
       have q104:x5_1 < (l0.length:Int):=of_decide_eq_true (by first|(with_reducible assumption)|assumption)
       obtain ⟨ad104,e104,hx104_0⟩:=Kd.at_int HR0.out x5_1 p104 q104
       cases e104
       replace p104:=eq_true p104
       replace q104:=eq_true q104
       have p105:0 ≤ (x5_1:Int):=of_decide_eq_true (by first|(with_reducible assumption)|assumption)
       have q105:x5_1 < (l1.length:Int):=of_decide_eq_true (by first|(with_reducible assumption)|assumption)
       obtain ⟨ad105,e105,hx105_0⟩:=Kd.at_int HR1.out x5_1 p105 q105
       cases e105
       replace p105:=eq_true p105
       replace q105:=eq_true q105
       go_wp2
       repeat (go_quiet (fail);try go_wp2)
       go_roundg k1
       case measure=>have:=HK1.out;omega
       case rel=>exact ⟨(wrap64 (x5_1 + 1)),(by first|rfl|(simp;done)|(simp [*];done)),H',⟨by have:=HK1.out;omega⟩,by repeat (first|exact Drawn0.refl _|apply Drawn0.step)⟩
      ·rw [if_neg c6] at H
       have c6b0:((rd l0 x5_1) == (rd l1 x5_1)) = false:=beq_eq_false_iff_ne.mpr c6
       have c6b1:((rd l0 x5_1) != (rd l1 x5_1)) = true:=bne_iff_ne.mpr c6
       obtain rfl:=Option.some.inj H
       have p104:0 ≤ (x5_1:Int):=of_decide_eq_true (by first|(with_reducible assumption)|assumption)
       have q104:x5_1 < (l0.length:Int):=of_decide_eq_true (by first|(with_reducible assumption)|assumption)
       obtain ⟨ad104,e104,hx104_0⟩:=Kd.at_int HR0.out x5_1 p104 q104
       cases e104
       replace p104:=eq_true p104
       replace q104:=eq_true q104
       have p105:0 ≤ (x5_1:Int):=of_decide_eq_true (by first|(with_reducible assumption)|assumption)
       have q105:x5_1 < (l1.length:Int):=of_decide_eq_true (by first|(with_reducible assumption)|assumption)
       obtain ⟨ad105,e105,hx105_0⟩:=Kd.at_int HR1.out x5_1 p105 q105
       cases e105
       replace p105:=eq_true p105
       replace q105:=eq_true q105
       go_wp2
       repeat (go_quiet (fail);try go_wp2)
       go_ret
       exact ⟨by first|rfl|(simp;done)|(simp [*];done),by repeat (first|exact Drawn0.refl _|apply Drawn0.step)⟩
     ·rw [if_neg c5] at H
      exact absurd H (by simp)
    ·rw [if_neg c4] at H
     have c4b0:decide (x5_1 < (l1.length:Int)) = false:=decide_eq_false c4
     clear c4
     obtain rfl:=Option.some.inj H
     go_wp2
     repeat (go_quiet (fail);try go_wp2)
     go_ret
     exact ⟨by first|rfl|(simp;done)|(simp [*];done),by repeat (first|exact Drawn0.refl _|apply Drawn0.step)⟩
   ·rw [if_neg c3] at H
    have c3b0:decide (x5_1 < (l0.length:Int)) = false:=decide_eq_false c3
    clear c3
    obtain rfl:=Option.some.inj H
    go_wp2
    repeat (go_quiet (fail);try go_wp2)
    go_ret
    exact ⟨by first|rfl|(simp;done)|(simp [*];done),by repeat (first|exact Drawn0.refl _|apply Drawn0.step)⟩

-- NOT PRINTED: function 43 (delta_writer_write)

-- NOT PRINTED: function 44 (delta_writer_copy)

-- NOT PRINTED: function 47 (delta_kind)

end Go.Proofs.Ytjckjcekapkkjaa.P
