-- WRITTEN BY myprint.py (wip/tools) for this seat
import Derived.Test.YtjckjcekapkkjaaProg
import Derived.Below
import Derived.Deep.Draws
import Derived.Deep.AppendLies
import Derived.Maps.AppendAt
import Derived.OwnWalk
import Derived.Laws.BytesArg
import Derived.Laws.MakeOwn
import Derived.Laws.OwnMore
import Derived.Deep.OwnRows
import Derived.Tactics
import Derived.Lib.ConvBytes
import Derived.Laws.Slices
import Derived.WalkKit
import Derived.KernelRfl
import Derived.RowKit3
import Derived.Deep.LoopGhost
import Derived.Deep.QuietTactic
import Derived.BigQuiet
import Derived.WideLaws
import Derived.Deep.DeepCutAuto
import Derived.Deep.CutBlock
import Derived.Deep.RegionHeld3
import Derived.Laws.Rows
import Derived.Lib.AppendStr
import Derived.ArgAppend
import Derived.Laws.IdiomCopy
import Derived.OrdersHeld
import Derived.Laws.BitsLemmas
import Derived.RowKit
import Derived.Test.YtjckjcekapkkjaaWWords
import Derived.Test.YtjckjcekapkkjaaWLast
import Derived.Test.YtjckjcekapkkjaaWTab
import Derived.Test.YtjckjcekapkkjaaWApart
import Derived.Test.YtjckjcekapkkjaaWKept
import Derived.Test.YtjckjcekapkkjaaWShare
import Derived.Test.YtjckjcekapkkjaaWN
import Derived.Laws.StructEq
import Derived.Test.YtjckjcekapkkjaaWRepsOne
import Derived.Test.YtjckjcekapkkjaaWNEv
import Derived.Test.YtjckjcekapkkjaaWMore
namespace Go.Proofs.Ytjckjcekapkkjaa.P
open Go.RowKit Go.Proofs.YtjckjcekapkkjaaW.PrintWords Go.Proofs.YtjckjcekapkkjaaW.PrintLast Go.Proofs.YtjckjcekapkkjaaW.PrintMore
attribute [local go_sem] max2_int min2_int max_two min_two max_three min_three max_four min_four   -- for this text's walks alone
set_option linter.unusedVariables false
set_option linter.unusedSimpArgs false

def errW:Option Int → Value
 | none=>.nilIface
 | some c=>.iface 0 (.int .i64 c)
theorem errW_none:errW none = .nilIface:=rfl
theorem errW_some (c:Int):errW (some c) = .iface 0 (.int .i64 c):=rfl

theorem info5:(Try.prog.info? 5).map (fun i=>(i.zero,i.size,i.bytes)) = some (some (.int .u8 0),1,1):=by kernel_rfl
theorem info26:(Try.prog.info? 26).map (fun i=>(i.zero,i.size,i.bytes)) = some (some (.slice none 0 0),1,24):=by kernel_rfl
theorem info39:(Try.prog.info? 39).map (fun i=>(i.zero,i.size,i.bytes)) = some (some (.agg #[(.int .i64 0),(.int .i64 0),(.slice none 0 0)]),3,40):=by kernel_rfl
-- the values' own types
def rd_L2 (xs:List (List Int)) (i:Int):(List Int):=xs.getD i.toNat ([]:List Int)
theorem at_L2 {w:World} {A:Option Addr} {n:Nat} {xs:List (List Int)} (h:Kd.C (Kd.slice 5 (Kd.int .u8)) w A n xs) (i:Int) (h0:0 ≤ i) (h1:i < n):∃ ad A0 c0,A = some ad ∧ w.cell? (ad.add i.toNat) = some (.slice A0 (rd_L2 xs i).length c0) ∧ (rd_L2 xs i).length ≤ c0 ∧ (Kd.int .u8).C w A0 (rd_L2 xs i).length (rd_L2 xs i):=by
 obtain ⟨ad,c,e,_,hK,hc0⟩:=Kd.C_get h ([]:List Int) i h0 h1
 have hc:∀ j u,c[j]? = some u → w.cell? (ad.add (i.toNat * 1 + j)) = some u:=hc0
 obtain ⟨A0,c0,rfl,l0,g0⟩:=hK
 exact ⟨ad,A0,c0,e,by have hq:=hc 0 _ rfl;rwa [Nat.mul_one,Nat.add_zero] at hq,l0,g0⟩

/-! #### struct type 39 -/
structure S39 where
 f0:Int
 f1:Int
 f2:(List Int)
def z39:S39:=⟨(0:Int),(0:Int),([]:List Int)⟩
def k39:Kd S39:=Kd.iso (Kd.pair (Kd.int .i64) (Kd.pair (Kd.int .i64) (Kd.slice 5 (Kd.int .u8)))) (fun x:S39=>(x.f0,x.f1,x.f2))
theorem k39_open {w:World} {x:S39} {cs:List Value} (h:k39.K w x cs):∃ A2 c2,cs = [.int .i64 x.f0,.int .i64 x.f1,.slice A2 x.f2.length c2] ∧ x.f2.length ≤ c2 ∧ (Kd.int .u8).C w A2 x.f2.length x.f2:=by
 obtain ⟨_,_,rfl,rfl,⟨_,_,rfl,rfl,⟨A2,c2,rfl,l2,g2⟩⟩⟩:=h
 exact ⟨A2,c2,rfl,l2,g2⟩
theorem k39_openM {w:World} {base:Nat} {ok:Nat → Prop} {x:S39} {cs:List Value} (h:k39.M w base ok x cs):∃ v2,cs = [.int .i64 x.f0,.int .i64 x.f1,v2] ∧ (Kd.int .u8).R 5 w base ok v2 x.f2:=by
 obtain ⟨_,_,rfl,rfl,⟨_,_,rfl,rfl,⟨v2,rfl,g2⟩⟩⟩:=h
 exact ⟨v2,rfl,g2⟩
theorem k39_mk (w:World) (x:S39) {A2:Option Addr} {c2:Nat} (l2:x.f2.length ≤ c2) (g2:(Kd.int .u8).C w A2 x.f2.length x.f2):k39.K w x [.int .i64 x.f0,.int .i64 x.f1,.slice A2 x.f2.length c2]:=⟨[.int .i64 x.f0],[.int .i64 x.f1,.slice A2 x.f2.length c2],rfl,rfl,⟨[.int .i64 x.f1],[.slice A2 x.f2.length c2],rfl,rfl,⟨A2,c2,rfl,l2,g2⟩⟩⟩
theorem k39_mkM (w:World) (base:Nat) (ok:Nat → Prop) (x:S39) {v2:Value} (g2:(Kd.int .u8).R 5 w base ok v2 x.f2):k39.M w base ok x [.int .i64 x.f0,.int .i64 x.f1,v2]:=⟨[.int .i64 x.f0],[.int .i64 x.f1,v2],rfl,rfl,⟨[.int .i64 x.f1],[v2],rfl,rfl,⟨v2,rfl,g2⟩⟩⟩
def rd_T39 (xs:List S39) (i:Int):S39:=xs.getD i.toNat z39
theorem at_T39 {w:World} {A:Option Addr} {n:Nat} {xs:List S39} (h:Kd.C k39 w A n xs) (i:Int) (h0:0 ≤ i) (h1:i < n):∃ ad A2 c2,A = some ad ∧ w.cell? (ad.add (i.toNat * 3)) = some (.int .i64 (rd_T39 xs i).f0) ∧ w.cell? ⟨(ad.add (i.toNat * 3)).block,(ad.add (i.toNat * 3)).off + 1,none⟩ = some (.int .i64 (rd_T39 xs i).f1) ∧ w.cell? ⟨(ad.add (i.toNat * 3)).block,(ad.add (i.toNat * 3)).off + 2,none⟩ = some (.slice A2 (rd_T39 xs i).f2.length c2) ∧ (rd_T39 xs i).f2.length ≤ c2 ∧ (Kd.int .u8).C w A2 (rd_T39 xs i).f2.length (rd_T39 xs i).f2:=by
 obtain ⟨ad,c,e,_,hK,hc0⟩:=Kd.C_get h z39 i h0 h1
 have hc:∀ j u,c[j]? = some u → w.cell? (ad.add (i.toNat * 3 + j)) = some u:=hc0
 obtain ⟨A2,c2,rfl,l2,g2⟩:=k39_open hK
 exact ⟨ad,A2,c2,e,hc 0 _ rfl,by rw [← add_field _ _ 1 (by omega)];exact hc 1 _ rfl,by rw [← add_field _ _ 2 (by omega)];exact hc 2 _ rfl,l2,g2⟩

end Go.Proofs.Ytjckjcekapkkjaa.P
