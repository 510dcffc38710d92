/-
  No cell of these rows narrows 'for every input' (looked for: loops, veiled, ifaces, maps, wideKeys, modest, calm, conditions, laid).
  DERIVED. THE GIVEN ROWS OF THIS SEAT. 8 by the template 'for every input the law returns true; each argument reads behind the call as it read before'; 0 by the template 'total and deterministic' (their statements: YtbmgglgacgkffaaTotals.lean).
  GIVEN WITH THE SEED: the statements are not yours to turn. If you find one false, say at which input.
  Laid BY PROGRAM, IN A SANDBOX (cutbox-rows.mjs): the forced cells as the released guide's own fill.sh prints them over the translation 4bd0edc0e88ab69a… (all of the seat's roots in one cut). By AI agents, Wed Nov 11 2026. No macro, syntax, notation, axiom, sorry.
-/
import Derived.Test.YtbmgglgacgkffaaChecked
import GoSem.Claim
import GoSem.ClaimJoined
import GoSem.ClaimMapViews
import Derived.JoinedTies
import Derived.KernelRfl
namespace Go.Proofs.Ytbmgglgacgkffaa
/- THE CELL 'sum', in the pinned program and in every row, IS THE sha256 OF THE DUMP (.gsa) THAT YtbmgglgacgkffaaProg.lean LOADS. Nothing in Lean hashes anything: it is a label: what it is worth is what the hold of that sum in a sandbox is worth. -/
noncomputable def Try.pinned : Pinned := { name := "ytbmgglgacgkffaa", sum := "4bd0edc0e88ab69ae5e90857e03c7e872d129952a1f10ac66a1188a0b37c9e3b", checked := Try.checked }
namespace Rows
def none {H : Type} : Left H := { results := [], args := [] }

/-- 'hogsheadlaw01.VlqTakes': WHATEVER THE INPUT: true; the input reads as it did. -/
def vlqTakesSpec : ChangeSpec := { name := "vlqTakes", fn := fun _ => fun
  | [d] => { results := [.lit (.bool true)], args := [d] }
  | _ => none }
def vlqTakesRow : OpenClaim := { program := "ytbmgglgacgkffaa", sum := "4bd0edc0e88ab69ae5e90857e03c7e872d129952a1f10ac66a1188a0b37c9e3b", func := "hogshead/hogsheadlaw01.VlqTakes", spec := "vlqTakes", apart := false }
def VlqTakesSaid : Prop := vlqTakesRow.holds Try.pinned (OpenSpec.ofChange vlqTakesSpec)

/-- ITS FALSE NEIGHBOUR: 'it returns false'. Refute it at one input. -/
def vlqTakesWrong : ChangeSpec := { name := "vlqTakes", fn := fun _ => fun
  | [d] => { results := [.lit (.bool false)], args := [d] }
  | _ => none }
def VlqTakesWrongFalsely : Prop := vlqTakesRow.holds Try.pinned (OpenSpec.ofChange vlqTakesWrong)

/-- 'hogsheadlaw01.VlqBack': WHATEVER THE INPUT: true; the input reads as it did. -/
def vlqBackSpec : ChangeSpec := { name := "vlqBack", fn := fun _ => fun
  | [d1, d2, d3] => { results := [.lit (.bool true)], args := [d1, d2, d3] }
  | _ => none }
def vlqBackRow : OpenClaim := { program := "ytbmgglgacgkffaa", sum := "4bd0edc0e88ab69ae5e90857e03c7e872d129952a1f10ac66a1188a0b37c9e3b", func := "hogshead/hogsheadlaw01.VlqBack", spec := "vlqBack", apart := false }
def VlqBackSaid : Prop := vlqBackRow.holds Try.pinned (OpenSpec.ofChange vlqBackSpec)

/-- ITS FALSE NEIGHBOUR: 'it returns false'. Refute it at one input. -/
def vlqBackWrong : ChangeSpec := { name := "vlqBack", fn := fun _ => fun
  | [d1, d2, d3] => { results := [.lit (.bool false)], args := [d1, d2, d3] }
  | _ => none }
def VlqBackWrongFalsely : Prop := vlqBackRow.holds Try.pinned (OpenSpec.ofChange vlqBackWrong)

/-- 'hogsheadlaw01.VlqSizes': WHATEVER THE INPUT: true; the input reads as it did. -/
def vlqSizesSpec : ChangeSpec := { name := "vlqSizes", fn := fun _ => fun
  | [d] => { results := [.lit (.bool true)], args := [d] }
  | _ => none }
def vlqSizesRow : OpenClaim := { program := "ytbmgglgacgkffaa", sum := "4bd0edc0e88ab69ae5e90857e03c7e872d129952a1f10ac66a1188a0b37c9e3b", func := "hogshead/hogsheadlaw01.VlqSizes", spec := "vlqSizes", apart := false }
def VlqSizesSaid : Prop := vlqSizesRow.holds Try.pinned (OpenSpec.ofChange vlqSizesSpec)

/-- ITS FALSE NEIGHBOUR: 'it returns false'. Refute it at one input. -/
def vlqSizesWrong : ChangeSpec := { name := "vlqSizes", fn := fun _ => fun
  | [d] => { results := [.lit (.bool false)], args := [d] }
  | _ => none }
def VlqSizesWrongFalsely : Prop := vlqSizesRow.holds Try.pinned (OpenSpec.ofChange vlqSizesWrong)

/-- 'hogsheadlaw01.VlqNums': WHATEVER THE INPUT: true; the input reads as it did. -/
def vlqNumsSpec : ChangeSpec := { name := "vlqNums", fn := fun _ => fun
  | [d1, d2] => { results := [.lit (.bool true)], args := [d1, d2] }
  | _ => none }
def vlqNumsRow : OpenClaim := { program := "ytbmgglgacgkffaa", sum := "4bd0edc0e88ab69ae5e90857e03c7e872d129952a1f10ac66a1188a0b37c9e3b", func := "hogshead/hogsheadlaw01.VlqNums", spec := "vlqNums", apart := false }
def VlqNumsSaid : Prop := vlqNumsRow.holds Try.pinned (OpenSpec.ofChange vlqNumsSpec)

/-- ITS FALSE NEIGHBOUR: 'it returns false'. Refute it at one input. -/
def vlqNumsWrong : ChangeSpec := { name := "vlqNums", fn := fun _ => fun
  | [d1, d2] => { results := [.lit (.bool false)], args := [d1, d2] }
  | _ => none }
def VlqNumsWrongFalsely : Prop := vlqNumsRow.holds Try.pinned (OpenSpec.ofChange vlqNumsWrong)

/-- 'hogsheadlaw01.VlqTexts': WHATEVER THE INPUT: true; the input reads as it did. -/
def vlqTextsSpec : ChangeSpec := { name := "vlqTexts", fn := fun _ => fun
  | [d1, d2] => { results := [.lit (.bool true)], args := [d1, d2] }
  | _ => none }
def vlqTextsRow : OpenClaim := { program := "ytbmgglgacgkffaa", sum := "4bd0edc0e88ab69ae5e90857e03c7e872d129952a1f10ac66a1188a0b37c9e3b", func := "hogshead/hogsheadlaw01.VlqTexts", spec := "vlqTexts", apart := false }
def VlqTextsSaid : Prop := vlqTextsRow.holds Try.pinned (OpenSpec.ofChange vlqTextsSpec)

/-- ITS FALSE NEIGHBOUR: 'it returns false'. Refute it at one input. -/
def vlqTextsWrong : ChangeSpec := { name := "vlqTexts", fn := fun _ => fun
  | [d1, d2] => { results := [.lit (.bool false)], args := [d1, d2] }
  | _ => none }
def VlqTextsWrongFalsely : Prop := vlqTextsRow.holds Try.pinned (OpenSpec.ofChange vlqTextsWrong)

/-- 'hogsheadlaw01.VlqRows': WHATEVER THE INPUT: true; the input reads as it did. -/
def vlqRowsSpec : ChangeSpec := { name := "vlqRows", fn := fun _ => fun
  | [d] => { results := [.lit (.bool true)], args := [d] }
  | _ => none }
def vlqRowsRow : OpenClaim := { program := "ytbmgglgacgkffaa", sum := "4bd0edc0e88ab69ae5e90857e03c7e872d129952a1f10ac66a1188a0b37c9e3b", func := "hogshead/hogsheadlaw01.VlqRows", spec := "vlqRows", inPlace := ["internal/abi.NoEscape"], unfollowed := true, recurses := true, apart := false }
def VlqRowsSaid : Prop := vlqRowsRow.holds Try.pinned (OpenSpec.ofChange vlqRowsSpec)

/-- ITS FALSE NEIGHBOUR: 'it returns false'. Refute it at one input. -/
def vlqRowsWrong : ChangeSpec := { name := "vlqRows", fn := fun _ => fun
  | [d] => { results := [.lit (.bool false)], args := [d] }
  | _ => none }
def VlqRowsWrongFalsely : Prop := vlqRowsRow.holds Try.pinned (OpenSpec.ofChange vlqRowsWrong)

/-- 'hogsheadlaw01.VlqRowBack': WHATEVER THE INPUT: true; the input reads as it did. -/
def vlqRowBackSpec : ChangeSpec := { name := "vlqRowBack", fn := fun _ => fun
  | [d1, d2] => { results := [.lit (.bool true)], args := [d1, d2] }
  | _ => none }
def vlqRowBackRow : OpenClaim := { program := "ytbmgglgacgkffaa", sum := "4bd0edc0e88ab69ae5e90857e03c7e872d129952a1f10ac66a1188a0b37c9e3b", func := "hogshead/hogsheadlaw01.VlqRowBack", spec := "vlqRowBack", inPlace := ["internal/abi.NoEscape"], unfollowed := true, recurses := true, apart := false }
def VlqRowBackSaid : Prop := vlqRowBackRow.holds Try.pinned (OpenSpec.ofChange vlqRowBackSpec)

/-- ITS FALSE NEIGHBOUR: 'it returns false'. Refute it at one input. -/
def vlqRowBackWrong : ChangeSpec := { name := "vlqRowBack", fn := fun _ => fun
  | [d1, d2] => { results := [.lit (.bool false)], args := [d1, d2] }
  | _ => none }
def VlqRowBackWrongFalsely : Prop := vlqRowBackRow.holds Try.pinned (OpenSpec.ofChange vlqRowBackWrong)

/-- 'hogsheadlaw01.VlqCut': WHATEVER THE INPUT: true; the input reads as it did. -/
def vlqCutSpec : ChangeSpec := { name := "vlqCut", fn := fun _ => fun
  | [d1, d2, d3] => { results := [.lit (.bool true)], args := [d1, d2, d3] }
  | _ => none }
def vlqCutRow : OpenClaim := { program := "ytbmgglgacgkffaa", sum := "4bd0edc0e88ab69ae5e90857e03c7e872d129952a1f10ac66a1188a0b37c9e3b", func := "hogshead/hogsheadlaw01.VlqCut", spec := "vlqCut", inPlace := ["internal/abi.NoEscape"], unfollowed := true, recurses := true, apart := false }
def VlqCutSaid : Prop := vlqCutRow.holds Try.pinned (OpenSpec.ofChange vlqCutSpec)

/-- ITS FALSE NEIGHBOUR: 'it returns false'. Refute it at one input. -/
def vlqCutWrong : ChangeSpec := { name := "vlqCut", fn := fun _ => fun
  | [d1, d2, d3] => { results := [.lit (.bool false)], args := [d1, d2, d3] }
  | _ => none }
def VlqCutWrongFalsely : Prop := vlqCutRow.holds Try.pinned (OpenSpec.ofChange vlqCutWrong)

/- THE SECOND FORM. 'bulk': how many values and letters a reading holds, each counted each time it is reached (what is shared counts as often as it is met; a slice's spare places count too). A statement '..UptoSaid' is the law's where the arguments, and the package variables that the reading takes, are together of bulk at most 1048576: NARROWER than '..Said'. Prove '..Said' where nothing that the law and all that it calls make is longer than what came in: it says more and counts as full. Else prove '..UptoSaid'. A law counts once. -/
mutual
def uptoBulk {H : Type} : DataW H → Nat
  | .lit (.string bytes) => bytes.length + 1
  | .lit _ => 1
  | .nil => 1
  | .ptr d => uptoBulk d + 1
  | .slice elems spare => uptoBulkAll elems + uptoBulkAll spare + 1
  | .agg parts => uptoBulkAll parts + 1
  | .iface _ d => uptoBulk d + 1
  | .map entries => uptoBulkEntries entries + 1
  | .held _ => 1
def uptoBulkAll {H : Type} : List (DataW H) → Nat
  | [] => 0
  | d :: r => uptoBulk d + uptoBulkAll r
def uptoBulkEntries {H : Type} : List (Lit × DataW H) → Nat
  | [] => 0
  | x :: r => uptoBulkEntry x + uptoBulkEntries r
def uptoBulkEntry {H : Type} : Lit × DataW H → Nat
  | (.string bytes, d) => bytes.length + uptoBulk d + 1
  | (_, d) => uptoBulk d + 1
 end
def uptoSmall : (H : Type) → List (DataW H) → Bool := fun _ ds => decide (uptoBulkAll ds ≤ 1048576)
def OpenSpec.upto (s : _root_.Go.ChangeSpec) : _root_.Go.OpenSpec := { _root_.Go.OpenSpec.ofChange s with cond := some uptoSmall }

/-- 'hogsheadlaw01.VlqTakes', WHERE WHAT IT READS IS OF BULK AT MOST 1048576: true; the input reads as it did. -/
def vlqTakesUptoRow : OpenClaim := { program := "ytbmgglgacgkffaa", sum := "4bd0edc0e88ab69ae5e90857e03c7e872d129952a1f10ac66a1188a0b37c9e3b", func := "hogshead/hogsheadlaw01.VlqTakes", spec := "vlqTakes", apart := false, narrowed := true }
def VlqTakesUptoSaid : Prop := vlqTakesUptoRow.holds Try.pinned (OpenSpec.upto vlqTakesSpec)

/-- 'hogsheadlaw01.VlqBack', WHERE WHAT IT READS IS OF BULK AT MOST 1048576: true; the input reads as it did. -/
def vlqBackUptoRow : OpenClaim := { program := "ytbmgglgacgkffaa", sum := "4bd0edc0e88ab69ae5e90857e03c7e872d129952a1f10ac66a1188a0b37c9e3b", func := "hogshead/hogsheadlaw01.VlqBack", spec := "vlqBack", apart := false, narrowed := true }
def VlqBackUptoSaid : Prop := vlqBackUptoRow.holds Try.pinned (OpenSpec.upto vlqBackSpec)

/-- 'hogsheadlaw01.VlqSizes', WHERE WHAT IT READS IS OF BULK AT MOST 1048576: true; the input reads as it did. -/
def vlqSizesUptoRow : OpenClaim := { program := "ytbmgglgacgkffaa", sum := "4bd0edc0e88ab69ae5e90857e03c7e872d129952a1f10ac66a1188a0b37c9e3b", func := "hogshead/hogsheadlaw01.VlqSizes", spec := "vlqSizes", apart := false, narrowed := true }
def VlqSizesUptoSaid : Prop := vlqSizesUptoRow.holds Try.pinned (OpenSpec.upto vlqSizesSpec)

/-- 'hogsheadlaw01.VlqNums', WHERE WHAT IT READS IS OF BULK AT MOST 1048576: true; the input reads as it did. -/
def vlqNumsUptoRow : OpenClaim := { program := "ytbmgglgacgkffaa", sum := "4bd0edc0e88ab69ae5e90857e03c7e872d129952a1f10ac66a1188a0b37c9e3b", func := "hogshead/hogsheadlaw01.VlqNums", spec := "vlqNums", apart := false, narrowed := true }
def VlqNumsUptoSaid : Prop := vlqNumsUptoRow.holds Try.pinned (OpenSpec.upto vlqNumsSpec)

/-- 'hogsheadlaw01.VlqTexts', WHERE WHAT IT READS IS OF BULK AT MOST 1048576: true; the input reads as it did. -/
def vlqTextsUptoRow : OpenClaim := { program := "ytbmgglgacgkffaa", sum := "4bd0edc0e88ab69ae5e90857e03c7e872d129952a1f10ac66a1188a0b37c9e3b", func := "hogshead/hogsheadlaw01.VlqTexts", spec := "vlqTexts", apart := false, narrowed := true }
def VlqTextsUptoSaid : Prop := vlqTextsUptoRow.holds Try.pinned (OpenSpec.upto vlqTextsSpec)

/-- 'hogsheadlaw01.VlqRows', WHERE WHAT IT READS IS OF BULK AT MOST 1048576: true; the input reads as it did. -/
def vlqRowsUptoRow : OpenClaim := { program := "ytbmgglgacgkffaa", sum := "4bd0edc0e88ab69ae5e90857e03c7e872d129952a1f10ac66a1188a0b37c9e3b", func := "hogshead/hogsheadlaw01.VlqRows", spec := "vlqRows", inPlace := ["internal/abi.NoEscape"], unfollowed := true, recurses := true, apart := false, narrowed := true }
def VlqRowsUptoSaid : Prop := vlqRowsUptoRow.holds Try.pinned (OpenSpec.upto vlqRowsSpec)

/-- 'hogsheadlaw01.VlqRowBack', WHERE WHAT IT READS IS OF BULK AT MOST 1048576: true; the input reads as it did. -/
def vlqRowBackUptoRow : OpenClaim := { program := "ytbmgglgacgkffaa", sum := "4bd0edc0e88ab69ae5e90857e03c7e872d129952a1f10ac66a1188a0b37c9e3b", func := "hogshead/hogsheadlaw01.VlqRowBack", spec := "vlqRowBack", inPlace := ["internal/abi.NoEscape"], unfollowed := true, recurses := true, apart := false, narrowed := true }
def VlqRowBackUptoSaid : Prop := vlqRowBackUptoRow.holds Try.pinned (OpenSpec.upto vlqRowBackSpec)

/-- 'hogsheadlaw01.VlqCut', WHERE WHAT IT READS IS OF BULK AT MOST 1048576: true; the input reads as it did. -/
def vlqCutUptoRow : OpenClaim := { program := "ytbmgglgacgkffaa", sum := "4bd0edc0e88ab69ae5e90857e03c7e872d129952a1f10ac66a1188a0b37c9e3b", func := "hogshead/hogsheadlaw01.VlqCut", spec := "vlqCut", inPlace := ["internal/abi.NoEscape"], unfollowed := true, recurses := true, apart := false, narrowed := true }
def VlqCutUptoSaid : Prop := vlqCutUptoRow.holds Try.pinned (OpenSpec.upto vlqCutSpec)

end Rows
end Go.Proofs.Ytbmgglgacgkffaa
