/-
  No cell of these rows narrows 'for every input' (looked for: loops, veiled, ifaces, maps, wideKeys, modest, calm, conditions, laid).
  DERIVED. THE GIVEN ROWS OF THIS SEAT. 11 by the template 'for every input the law returns true; each argument reads behind the call as it read before'; 0 by the template 'total and deterministic' (their statements: YtnaamckkepdkkaaTotals.lean).
  GIVEN WITH THE SEED: the statements are not yours to turn. If you find one false, say at which input.
  Laid BY PROGRAM, IN A SANDBOX (cutbox-rows.mjs): the forced cells as the released guide's own fill.sh prints them over the translation 6b1c5cba73880e69… (all of the seat's roots in one cut). By AI agents, Wed Nov 11 2026. No macro, syntax, notation, axiom, sorry.
-/
import Derived.Test.YtnaamckkepdkkaaChecked
import GoSem.Claim
import GoSem.ClaimJoined
import GoSem.ClaimMapViews
import Derived.JoinedTies
import Derived.KernelRfl
namespace Go.Proofs.Ytnaamckkepdkkaa
/- THE CELL 'sum', in the pinned program and in every row, IS THE sha256 OF THE DUMP (.gsa) THAT YtnaamckkepdkkaaProg.lean LOADS. Nothing in Lean hashes anything: it is a label: what it is worth is what the hold of that sum in a sandbox is worth. -/
noncomputable def Try.pinned : Pinned := { name := "ytnaamckkepdkkaa", sum := "6b1c5cba73880e69d11b78d23374316fb1165de2345be982405ea123e21c7021", checked := Try.checked }
namespace Rows
def none {H : Type} : Left H := { results := [], args := [] }

/-- 'stockyardlaw01.CodecPutsNumbers': WHATEVER THE INPUT: true; the input reads as it did. -/
def codecPutsNumbersSpec : ChangeSpec := { name := "codecPutsNumbers", fn := fun _ => fun
  | [d1, d2, d3] => { results := [.lit (.bool true)], args := [d1, d2, d3] }
  | _ => none }
def codecPutsNumbersRow : OpenClaim := { program := "ytnaamckkepdkkaa", sum := "6b1c5cba73880e69d11b78d23374316fb1165de2345be982405ea123e21c7021", func := "stockyard/stockyardlaw01.CodecPutsNumbers", spec := "codecPutsNumbers", recurses := true, apart := false }
def CodecPutsNumbersSaid : Prop := codecPutsNumbersRow.holds Try.pinned (OpenSpec.ofChange codecPutsNumbersSpec)

/-- ITS FALSE NEIGHBOUR: 'it returns false'. Refute it at one input. -/
def codecPutsNumbersWrong : ChangeSpec := { name := "codecPutsNumbers", fn := fun _ => fun
  | [d1, d2, d3] => { results := [.lit (.bool false)], args := [d1, d2, d3] }
  | _ => none }
def CodecPutsNumbersWrongFalsely : Prop := codecPutsNumbersRow.holds Try.pinned (OpenSpec.ofChange codecPutsNumbersWrong)

/-- 'stockyardlaw01.CodecUnlike': WHATEVER THE INPUT: true; the input reads as it did. -/
def codecUnlikeSpec : ChangeSpec := { name := "codecUnlike", fn := fun _ => fun
  | [d1, d2] => { results := [.lit (.bool true)], args := [d1, d2] }
  | _ => none }
def codecUnlikeRow : OpenClaim := { program := "ytnaamckkepdkkaa", sum := "6b1c5cba73880e69d11b78d23374316fb1165de2345be982405ea123e21c7021", func := "stockyard/stockyardlaw01.CodecUnlike", spec := "codecUnlike", apart := false }
def CodecUnlikeSaid : Prop := codecUnlikeRow.holds Try.pinned (OpenSpec.ofChange codecUnlikeSpec)

/-- ITS FALSE NEIGHBOUR: 'it returns false'. Refute it at one input. -/
def codecUnlikeWrong : ChangeSpec := { name := "codecUnlike", fn := fun _ => fun
  | [d1, d2] => { results := [.lit (.bool false)], args := [d1, d2] }
  | _ => none }
def CodecUnlikeWrongFalsely : Prop := codecUnlikeRow.holds Try.pinned (OpenSpec.ofChange codecUnlikeWrong)

/-- 'stockyardlaw01.CodecWhole': WHATEVER THE INPUT: true; the input reads as it did. -/
def codecWholeSpec : ChangeSpec := { name := "codecWhole", fn := fun _ => fun
  | [d] => { results := [.lit (.bool true)], args := [d] }
  | _ => none }
def codecWholeRow : OpenClaim := { program := "ytnaamckkepdkkaa", sum := "6b1c5cba73880e69d11b78d23374316fb1165de2345be982405ea123e21c7021", func := "stockyard/stockyardlaw01.CodecWhole", spec := "codecWhole", apart := false }
def CodecWholeSaid : Prop := codecWholeRow.holds Try.pinned (OpenSpec.ofChange codecWholeSpec)

/-- ITS FALSE NEIGHBOUR: 'it returns false'. Refute it at one input. -/
def codecWholeWrong : ChangeSpec := { name := "codecWhole", fn := fun _ => fun
  | [d] => { results := [.lit (.bool false)], args := [d] }
  | _ => none }
def CodecWholeWrongFalsely : Prop := codecWholeRow.holds Try.pinned (OpenSpec.ofChange codecWholeWrong)

/-- 'stockyardlaw01.CodecPutsTexts': WHATEVER THE INPUT: true; the input reads as it did. -/
def codecPutsTextsSpec : ChangeSpec := { name := "codecPutsTexts", fn := fun _ => fun
  | [d1, d2, d3] => { results := [.lit (.bool true)], args := [d1, d2, d3] }
  | _ => none }
def codecPutsTextsRow : OpenClaim := { program := "ytnaamckkepdkkaa", sum := "6b1c5cba73880e69d11b78d23374316fb1165de2345be982405ea123e21c7021", func := "stockyard/stockyardlaw01.CodecPutsTexts", spec := "codecPutsTexts", recurses := true, apart := false }
def CodecPutsTextsSaid : Prop := codecPutsTextsRow.holds Try.pinned (OpenSpec.ofChange codecPutsTextsSpec)

/-- ITS FALSE NEIGHBOUR: 'it returns false'. Refute it at one input. -/
def codecPutsTextsWrong : ChangeSpec := { name := "codecPutsTexts", fn := fun _ => fun
  | [d1, d2, d3] => { results := [.lit (.bool false)], args := [d1, d2, d3] }
  | _ => none }
def CodecPutsTextsWrongFalsely : Prop := codecPutsTextsRow.holds Try.pinned (OpenSpec.ofChange codecPutsTextsWrong)

/-- 'stockyardlaw01.CodecTakesNumbers': WHATEVER THE INPUT: true; the input reads as it did. -/
def codecTakesNumbersSpec : ChangeSpec := { name := "codecTakesNumbers", fn := fun _ => fun
  | [d1, d2] => { results := [.lit (.bool true)], args := [d1, d2] }
  | _ => none }
def codecTakesNumbersRow : OpenClaim := { program := "ytnaamckkepdkkaa", sum := "6b1c5cba73880e69d11b78d23374316fb1165de2345be982405ea123e21c7021", func := "stockyard/stockyardlaw01.CodecTakesNumbers", spec := "codecTakesNumbers", apart := false }
def CodecTakesNumbersSaid : Prop := codecTakesNumbersRow.holds Try.pinned (OpenSpec.ofChange codecTakesNumbersSpec)

/-- ITS FALSE NEIGHBOUR: 'it returns false'. Refute it at one input. -/
def codecTakesNumbersWrong : ChangeSpec := { name := "codecTakesNumbers", fn := fun _ => fun
  | [d1, d2] => { results := [.lit (.bool false)], args := [d1, d2] }
  | _ => none }
def CodecTakesNumbersWrongFalsely : Prop := codecTakesNumbersRow.holds Try.pinned (OpenSpec.ofChange codecTakesNumbersWrong)

/-- 'stockyardlaw01.CodecNumbersBack': WHATEVER THE INPUT: true; the input reads as it did. -/
def codecNumbersBackSpec : ChangeSpec := { name := "codecNumbersBack", fn := fun _ => fun
  | [d1, d2, d3, d4] => { results := [.lit (.bool true)], args := [d1, d2, d3, d4] }
  | _ => none }
def codecNumbersBackRow : OpenClaim := { program := "ytnaamckkepdkkaa", sum := "6b1c5cba73880e69d11b78d23374316fb1165de2345be982405ea123e21c7021", func := "stockyard/stockyardlaw01.CodecNumbersBack", spec := "codecNumbersBack", apart := false }
def CodecNumbersBackSaid : Prop := codecNumbersBackRow.holds Try.pinned (OpenSpec.ofChange codecNumbersBackSpec)

/-- ITS FALSE NEIGHBOUR: 'it returns false'. Refute it at one input. -/
def codecNumbersBackWrong : ChangeSpec := { name := "codecNumbersBack", fn := fun _ => fun
  | [d1, d2, d3, d4] => { results := [.lit (.bool false)], args := [d1, d2, d3, d4] }
  | _ => none }
def CodecNumbersBackWrongFalsely : Prop := codecNumbersBackRow.holds Try.pinned (OpenSpec.ofChange codecNumbersBackWrong)

/-- 'stockyardlaw01.CodecSigns': WHATEVER THE INPUT: true; the input reads as it did. -/
def codecSignsSpec : ChangeSpec := { name := "codecSigns", fn := fun _ => fun
  | [d1, d2] => { results := [.lit (.bool true)], args := [d1, d2] }
  | _ => none }
def codecSignsRow : OpenClaim := { program := "ytnaamckkepdkkaa", sum := "6b1c5cba73880e69d11b78d23374316fb1165de2345be982405ea123e21c7021", func := "stockyard/stockyardlaw01.CodecSigns", spec := "codecSigns", apart := false }
def CodecSignsSaid : Prop := codecSignsRow.holds Try.pinned (OpenSpec.ofChange codecSignsSpec)

/-- ITS FALSE NEIGHBOUR: 'it returns false'. Refute it at one input. -/
def codecSignsWrong : ChangeSpec := { name := "codecSigns", fn := fun _ => fun
  | [d1, d2] => { results := [.lit (.bool false)], args := [d1, d2] }
  | _ => none }
def CodecSignsWrongFalsely : Prop := codecSignsRow.holds Try.pinned (OpenSpec.ofChange codecSignsWrong)

/-- 'stockyardlaw01.CodecTakesBools': WHATEVER THE INPUT: true; the input reads as it did. -/
def codecTakesBoolsSpec : ChangeSpec := { name := "codecTakesBools", fn := fun _ => fun
  | [d1, d2] => { results := [.lit (.bool true)], args := [d1, d2] }
  | _ => none }
def codecTakesBoolsRow : OpenClaim := { program := "ytnaamckkepdkkaa", sum := "6b1c5cba73880e69d11b78d23374316fb1165de2345be982405ea123e21c7021", func := "stockyard/stockyardlaw01.CodecTakesBools", spec := "codecTakesBools", apart := false }
def CodecTakesBoolsSaid : Prop := codecTakesBoolsRow.holds Try.pinned (OpenSpec.ofChange codecTakesBoolsSpec)

/-- ITS FALSE NEIGHBOUR: 'it returns false'. Refute it at one input. -/
def codecTakesBoolsWrong : ChangeSpec := { name := "codecTakesBools", fn := fun _ => fun
  | [d1, d2] => { results := [.lit (.bool false)], args := [d1, d2] }
  | _ => none }
def CodecTakesBoolsWrongFalsely : Prop := codecTakesBoolsRow.holds Try.pinned (OpenSpec.ofChange codecTakesBoolsWrong)

/-- 'stockyardlaw01.CodecTakesTexts': WHATEVER THE INPUT: true; the input reads as it did. -/
def codecTakesTextsSpec : ChangeSpec := { name := "codecTakesTexts", fn := fun _ => fun
  | [d1, d2, d3] => { results := [.lit (.bool true)], args := [d1, d2, d3] }
  | _ => none }
def codecTakesTextsRow : OpenClaim := { program := "ytnaamckkepdkkaa", sum := "6b1c5cba73880e69d11b78d23374316fb1165de2345be982405ea123e21c7021", func := "stockyard/stockyardlaw01.CodecTakesTexts", spec := "codecTakesTexts", apart := false }
def CodecTakesTextsSaid : Prop := codecTakesTextsRow.holds Try.pinned (OpenSpec.ofChange codecTakesTextsSpec)

/-- ITS FALSE NEIGHBOUR: 'it returns false'. Refute it at one input. -/
def codecTakesTextsWrong : ChangeSpec := { name := "codecTakesTexts", fn := fun _ => fun
  | [d1, d2, d3] => { results := [.lit (.bool false)], args := [d1, d2, d3] }
  | _ => none }
def CodecTakesTextsWrongFalsely : Prop := codecTakesTextsRow.holds Try.pinned (OpenSpec.ofChange codecTakesTextsWrong)

/-- 'stockyardlaw01.CodecBeginnings': WHATEVER THE INPUT: true; the input reads as it did. -/
def codecBeginningsSpec : ChangeSpec := { name := "codecBeginnings", fn := fun _ => fun
  | [d1, d2] => { results := [.lit (.bool true)], args := [d1, d2] }
  | _ => none }
def codecBeginningsRow : OpenClaim := { program := "ytnaamckkepdkkaa", sum := "6b1c5cba73880e69d11b78d23374316fb1165de2345be982405ea123e21c7021", func := "stockyard/stockyardlaw01.CodecBeginnings", spec := "codecBeginnings", apart := false }
def CodecBeginningsSaid : Prop := codecBeginningsRow.holds Try.pinned (OpenSpec.ofChange codecBeginningsSpec)

/-- ITS FALSE NEIGHBOUR: 'it returns false'. Refute it at one input. -/
def codecBeginningsWrong : ChangeSpec := { name := "codecBeginnings", fn := fun _ => fun
  | [d1, d2] => { results := [.lit (.bool false)], args := [d1, d2] }
  | _ => none }
def CodecBeginningsWrongFalsely : Prop := codecBeginningsRow.holds Try.pinned (OpenSpec.ofChange codecBeginningsWrong)

/-- 'stockyardlaw01.CodecTextsBack': WHATEVER THE INPUT: true; the input reads as it did. -/
def codecTextsBackSpec : ChangeSpec := { name := "codecTextsBack", fn := fun _ => fun
  | [d1, d2, d3, d4, d5] => { results := [.lit (.bool true)], args := [d1, d2, d3, d4, d5] }
  | _ => none }
def codecTextsBackRow : OpenClaim := { program := "ytnaamckkepdkkaa", sum := "6b1c5cba73880e69d11b78d23374316fb1165de2345be982405ea123e21c7021", func := "stockyard/stockyardlaw01.CodecTextsBack", spec := "codecTextsBack", apart := false }
def CodecTextsBackSaid : Prop := codecTextsBackRow.holds Try.pinned (OpenSpec.ofChange codecTextsBackSpec)

/-- ITS FALSE NEIGHBOUR: 'it returns false'. Refute it at one input. -/
def codecTextsBackWrong : ChangeSpec := { name := "codecTextsBack", fn := fun _ => fun
  | [d1, d2, d3, d4, d5] => { results := [.lit (.bool false)], args := [d1, d2, d3, d4, d5] }
  | _ => none }
def CodecTextsBackWrongFalsely : Prop := codecTextsBackRow.holds Try.pinned (OpenSpec.ofChange codecTextsBackWrong)

/- THE SECOND FORM. 'bulk': how many values and letters a reading holds, each counted each time it is reached (what is shared counts as often as it is met; a slice's spare places count too). A statement '..UptoSaid' is the law's where the arguments, and the package variables that the reading takes, are together of bulk at most 1048576: NARROWER than '..Said'. Prove '..Said' where nothing that the law and all that it calls make is longer than what came in: it says more and counts as full. Else prove '..UptoSaid'. A law counts once. -/
mutual
def uptoBulk {H : Type} : DataW H → Nat
  | .lit (.string bytes) => bytes.length + 1
  | .lit _ => 1
  | .nil => 1
  | .ptr d => uptoBulk d + 1
  | .slice elems spare => uptoBulkAll elems + uptoBulkAll spare + 1
  | .agg parts => uptoBulkAll parts + 1
  | .iface _ d => uptoBulk d + 1
  | .map entries => uptoBulkEntries entries + 1
  | .held _ => 1
def uptoBulkAll {H : Type} : List (DataW H) → Nat
  | [] => 0
  | d :: r => uptoBulk d + uptoBulkAll r
def uptoBulkEntries {H : Type} : List (Lit × DataW H) → Nat
  | [] => 0
  | x :: r => uptoBulkEntry x + uptoBulkEntries r
def uptoBulkEntry {H : Type} : Lit × DataW H → Nat
  | (.string bytes, d) => bytes.length + uptoBulk d + 1
  | (_, d) => uptoBulk d + 1
 end
def uptoSmall : (H : Type) → List (DataW H) → Bool := fun _ ds => decide (uptoBulkAll ds ≤ 1048576)
def OpenSpec.upto (s : _root_.Go.ChangeSpec) : _root_.Go.OpenSpec := { _root_.Go.OpenSpec.ofChange s with cond := some uptoSmall }

/-- 'stockyardlaw01.CodecPutsNumbers', WHERE WHAT IT READS IS OF BULK AT MOST 1048576: true; the input reads as it did. -/
def codecPutsNumbersUptoRow : OpenClaim := { program := "ytnaamckkepdkkaa", sum := "6b1c5cba73880e69d11b78d23374316fb1165de2345be982405ea123e21c7021", func := "stockyard/stockyardlaw01.CodecPutsNumbers", spec := "codecPutsNumbers", recurses := true, apart := false, narrowed := true }
def CodecPutsNumbersUptoSaid : Prop := codecPutsNumbersUptoRow.holds Try.pinned (OpenSpec.upto codecPutsNumbersSpec)

/-- 'stockyardlaw01.CodecUnlike', WHERE WHAT IT READS IS OF BULK AT MOST 1048576: true; the input reads as it did. -/
def codecUnlikeUptoRow : OpenClaim := { program := "ytnaamckkepdkkaa", sum := "6b1c5cba73880e69d11b78d23374316fb1165de2345be982405ea123e21c7021", func := "stockyard/stockyardlaw01.CodecUnlike", spec := "codecUnlike", apart := false, narrowed := true }
def CodecUnlikeUptoSaid : Prop := codecUnlikeUptoRow.holds Try.pinned (OpenSpec.upto codecUnlikeSpec)

/-- 'stockyardlaw01.CodecWhole', WHERE WHAT IT READS IS OF BULK AT MOST 1048576: true; the input reads as it did. -/
def codecWholeUptoRow : OpenClaim := { program := "ytnaamckkepdkkaa", sum := "6b1c5cba73880e69d11b78d23374316fb1165de2345be982405ea123e21c7021", func := "stockyard/stockyardlaw01.CodecWhole", spec := "codecWhole", apart := false, narrowed := true }
def CodecWholeUptoSaid : Prop := codecWholeUptoRow.holds Try.pinned (OpenSpec.upto codecWholeSpec)

/-- 'stockyardlaw01.CodecPutsTexts', WHERE WHAT IT READS IS OF BULK AT MOST 1048576: true; the input reads as it did. -/
def codecPutsTextsUptoRow : OpenClaim := { program := "ytnaamckkepdkkaa", sum := "6b1c5cba73880e69d11b78d23374316fb1165de2345be982405ea123e21c7021", func := "stockyard/stockyardlaw01.CodecPutsTexts", spec := "codecPutsTexts", recurses := true, apart := false, narrowed := true }
def CodecPutsTextsUptoSaid : Prop := codecPutsTextsUptoRow.holds Try.pinned (OpenSpec.upto codecPutsTextsSpec)

/-- 'stockyardlaw01.CodecTakesNumbers', WHERE WHAT IT READS IS OF BULK AT MOST 1048576: true; the input reads as it did. -/
def codecTakesNumbersUptoRow : OpenClaim := { program := "ytnaamckkepdkkaa", sum := "6b1c5cba73880e69d11b78d23374316fb1165de2345be982405ea123e21c7021", func := "stockyard/stockyardlaw01.CodecTakesNumbers", spec := "codecTakesNumbers", apart := false, narrowed := true }
def CodecTakesNumbersUptoSaid : Prop := codecTakesNumbersUptoRow.holds Try.pinned (OpenSpec.upto codecTakesNumbersSpec)

/-- 'stockyardlaw01.CodecNumbersBack', WHERE WHAT IT READS IS OF BULK AT MOST 1048576: true; the input reads as it did. -/
def codecNumbersBackUptoRow : OpenClaim := { program := "ytnaamckkepdkkaa", sum := "6b1c5cba73880e69d11b78d23374316fb1165de2345be982405ea123e21c7021", func := "stockyard/stockyardlaw01.CodecNumbersBack", spec := "codecNumbersBack", apart := false, narrowed := true }
def CodecNumbersBackUptoSaid : Prop := codecNumbersBackUptoRow.holds Try.pinned (OpenSpec.upto codecNumbersBackSpec)

/-- 'stockyardlaw01.CodecSigns', WHERE WHAT IT READS IS OF BULK AT MOST 1048576: true; the input reads as it did. -/
def codecSignsUptoRow : OpenClaim := { program := "ytnaamckkepdkkaa", sum := "6b1c5cba73880e69d11b78d23374316fb1165de2345be982405ea123e21c7021", func := "stockyard/stockyardlaw01.CodecSigns", spec := "codecSigns", apart := false, narrowed := true }
def CodecSignsUptoSaid : Prop := codecSignsUptoRow.holds Try.pinned (OpenSpec.upto codecSignsSpec)

/-- 'stockyardlaw01.CodecTakesBools', WHERE WHAT IT READS IS OF BULK AT MOST 1048576: true; the input reads as it did. -/
def codecTakesBoolsUptoRow : OpenClaim := { program := "ytnaamckkepdkkaa", sum := "6b1c5cba73880e69d11b78d23374316fb1165de2345be982405ea123e21c7021", func := "stockyard/stockyardlaw01.CodecTakesBools", spec := "codecTakesBools", apart := false, narrowed := true }
def CodecTakesBoolsUptoSaid : Prop := codecTakesBoolsUptoRow.holds Try.pinned (OpenSpec.upto codecTakesBoolsSpec)

/-- 'stockyardlaw01.CodecTakesTexts', WHERE WHAT IT READS IS OF BULK AT MOST 1048576: true; the input reads as it did. -/
def codecTakesTextsUptoRow : OpenClaim := { program := "ytnaamckkepdkkaa", sum := "6b1c5cba73880e69d11b78d23374316fb1165de2345be982405ea123e21c7021", func := "stockyard/stockyardlaw01.CodecTakesTexts", spec := "codecTakesTexts", apart := false, narrowed := true }
def CodecTakesTextsUptoSaid : Prop := codecTakesTextsUptoRow.holds Try.pinned (OpenSpec.upto codecTakesTextsSpec)

/-- 'stockyardlaw01.CodecBeginnings', WHERE WHAT IT READS IS OF BULK AT MOST 1048576: true; the input reads as it did. -/
def codecBeginningsUptoRow : OpenClaim := { program := "ytnaamckkepdkkaa", sum := "6b1c5cba73880e69d11b78d23374316fb1165de2345be982405ea123e21c7021", func := "stockyard/stockyardlaw01.CodecBeginnings", spec := "codecBeginnings", apart := false, narrowed := true }
def CodecBeginningsUptoSaid : Prop := codecBeginningsUptoRow.holds Try.pinned (OpenSpec.upto codecBeginningsSpec)

/-- 'stockyardlaw01.CodecTextsBack', WHERE WHAT IT READS IS OF BULK AT MOST 1048576: true; the input reads as it did. -/
def codecTextsBackUptoRow : OpenClaim := { program := "ytnaamckkepdkkaa", sum := "6b1c5cba73880e69d11b78d23374316fb1165de2345be982405ea123e21c7021", func := "stockyard/stockyardlaw01.CodecTextsBack", spec := "codecTextsBack", apart := false, narrowed := true }
def CodecTextsBackUptoSaid : Prop := codecTextsBackUptoRow.holds Try.pinned (OpenSpec.upto codecTextsBackSpec)

end Rows
end Go.Proofs.Ytnaamckkepdkkaa
