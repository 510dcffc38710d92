/-
  No cell of these rows narrows 'for every input' (looked for: loops, veiled, ifaces, maps, wideKeys, modest, calm, conditions, laid).
  DERIVED. THE GIVEN ROWS OF THIS SEAT. 5 by the template 'for every input the law returns true; each argument reads behind the call as it read before'; 0 by the template 'total and deterministic' (their statements: YtlfonfceaiiinaaTotals.lean).
  GIVEN WITH THE SEED: the statements are not yours to turn. If you find one false, say at which input.
  Laid BY PROGRAM, IN A SANDBOX (cutbox-rows.mjs): the forced cells as the released guide's own fill.sh prints them over the translation f2975837496c819a… (all of the seat's roots in one cut). By AI agents, Wed Nov 11 2026. No macro, syntax, notation, axiom, sorry.
-/
import Derived.Test.YtlfonfceaiiinaaChecked
import GoSem.Claim
import GoSem.ClaimJoined
import GoSem.ClaimMapViews
import Derived.JoinedTies
import Derived.KernelRfl
namespace Go.Proofs.Ytlfonfceaiiinaa
/- THE CELL 'sum', in the pinned program and in every row, IS THE sha256 OF THE DUMP (.gsa) THAT YtlfonfceaiiinaaProg.lean LOADS. Nothing in Lean hashes anything: it is a label: what it is worth is what the hold of that sum in a sandbox is worth. -/
noncomputable def Try.pinned : Pinned := { name := "ytlfonfceaiiinaa", sum := "f2975837496c819ab3f70243ec6f002d9022a5ecbcbbced108c00ed1f4b321ff", checked := Try.checked }
namespace Rows
def none {H : Type} : Left H := { results := [], args := [] }

/-- 'hogsheadlaw19.CountDues': WHATEVER THE INPUT: true; the input reads as it did. -/
def countDuesSpec : ChangeSpec := { name := "countDues", fn := fun _ => fun
  | [d] => { results := [.lit (.bool true)], args := [d] }
  | _ => none }
def countDuesRow : OpenClaim := { program := "ytlfonfceaiiinaa", sum := "f2975837496c819ab3f70243ec6f002d9022a5ecbcbbced108c00ed1f4b321ff", func := "hogshead/hogsheadlaw19.CountDues", spec := "countDues", plainKeys := false, apart := false }
def CountDuesSaid : Prop := countDuesRow.holds Try.pinned (OpenSpec.ofChange countDuesSpec)

/-- ITS FALSE NEIGHBOUR: 'it returns false'. Refute it at one input. -/
def countDuesWrong : ChangeSpec := { name := "countDues", fn := fun _ => fun
  | [d] => { results := [.lit (.bool false)], args := [d] }
  | _ => none }
def CountDuesWrongFalsely : Prop := countDuesRow.holds Try.pinned (OpenSpec.ofChange countDuesWrong)

/-- 'hogsheadlaw19.CountRatio': WHATEVER THE INPUT: true; the input reads as it did. -/
def countRatioSpec : ChangeSpec := { name := "countRatio", fn := fun _ => fun
  | [d] => { results := [.lit (.bool true)], args := [d] }
  | _ => none }
def countRatioRow : OpenClaim := { program := "ytlfonfceaiiinaa", sum := "f2975837496c819ab3f70243ec6f002d9022a5ecbcbbced108c00ed1f4b321ff", func := "hogshead/hogsheadlaw19.CountRatio", spec := "countRatio", plainKeys := false, apart := false }
def CountRatioSaid : Prop := countRatioRow.holds Try.pinned (OpenSpec.ofChange countRatioSpec)

/-- ITS FALSE NEIGHBOUR: 'it returns false'. Refute it at one input. -/
def countRatioWrong : ChangeSpec := { name := "countRatio", fn := fun _ => fun
  | [d] => { results := [.lit (.bool false)], args := [d] }
  | _ => none }
def CountRatioWrongFalsely : Prop := countRatioRow.holds Try.pinned (OpenSpec.ofChange countRatioWrong)

/-- 'hogsheadlaw19.CountSums': WHATEVER THE INPUT: true; the input reads as it did. -/
def countSumsSpec : ChangeSpec := { name := "countSums", fn := fun _ => fun
  | [d1, d2] => { results := [.lit (.bool true)], args := [d1, d2] }
  | _ => none }
def countSumsRow : OpenClaim := { program := "ytlfonfceaiiinaa", sum := "f2975837496c819ab3f70243ec6f002d9022a5ecbcbbced108c00ed1f4b321ff", func := "hogshead/hogsheadlaw19.CountSums", spec := "countSums", plainKeys := false, apart := false }
def CountSumsSaid : Prop := countSumsRow.holds Try.pinned (OpenSpec.ofChange countSumsSpec)

/-- ITS FALSE NEIGHBOUR: 'it returns false'. Refute it at one input. -/
def countSumsWrong : ChangeSpec := { name := "countSums", fn := fun _ => fun
  | [d1, d2] => { results := [.lit (.bool false)], args := [d1, d2] }
  | _ => none }
def CountSumsWrongFalsely : Prop := countSumsRow.holds Try.pinned (OpenSpec.ofChange countSumsWrong)

/-- 'hogsheadlaw19.CountWeighs': WHATEVER THE INPUT: true; the input reads as it did. -/
def countWeighsSpec : ChangeSpec := { name := "countWeighs", fn := fun _ => fun
  | [d1, d2] => { results := [.lit (.bool true)], args := [d1, d2] }
  | _ => none }
def countWeighsRow : OpenClaim := { program := "ytlfonfceaiiinaa", sum := "f2975837496c819ab3f70243ec6f002d9022a5ecbcbbced108c00ed1f4b321ff", func := "hogshead/hogsheadlaw19.CountWeighs", spec := "countWeighs", unfollowed := true, recurses := true, plainKeys := false, apart := false }
def CountWeighsSaid : Prop := countWeighsRow.holds Try.pinned (OpenSpec.ofChange countWeighsSpec)

/-- ITS FALSE NEIGHBOUR: 'it returns false'. Refute it at one input. -/
def countWeighsWrong : ChangeSpec := { name := "countWeighs", fn := fun _ => fun
  | [d1, d2] => { results := [.lit (.bool false)], args := [d1, d2] }
  | _ => none }
def CountWeighsWrongFalsely : Prop := countWeighsRow.holds Try.pinned (OpenSpec.ofChange countWeighsWrong)

/-- 'hogsheadlaw19.CountHalves': WHATEVER THE INPUT: true; the input reads as it did. -/
def countHalvesSpec : ChangeSpec := { name := "countHalves", fn := fun _ => fun
  | [d1, d2] => { results := [.lit (.bool true)], args := [d1, d2] }
  | _ => none }
def countHalvesRow : OpenClaim := { program := "ytlfonfceaiiinaa", sum := "f2975837496c819ab3f70243ec6f002d9022a5ecbcbbced108c00ed1f4b321ff", func := "hogshead/hogsheadlaw19.CountHalves", spec := "countHalves", unfollowed := true, recurses := true, plainKeys := false, apart := false }
def CountHalvesSaid : Prop := countHalvesRow.holds Try.pinned (OpenSpec.ofChange countHalvesSpec)

/-- ITS FALSE NEIGHBOUR: 'it returns false'. Refute it at one input. -/
def countHalvesWrong : ChangeSpec := { name := "countHalves", fn := fun _ => fun
  | [d1, d2] => { results := [.lit (.bool false)], args := [d1, d2] }
  | _ => none }
def CountHalvesWrongFalsely : Prop := countHalvesRow.holds Try.pinned (OpenSpec.ofChange countHalvesWrong)

/- THE SECOND FORM. 'bulk': how many values and letters a reading holds, each counted each time it is reached (what is shared counts as often as it is met; a slice's spare places count too). A statement '..UptoSaid' is the law's where the arguments, and the package variables that the reading takes, are together of bulk at most 1048576: NARROWER than '..Said'. Prove '..Said' where nothing that the law and all that it calls make is longer than what came in: it says more and counts as full. Else prove '..UptoSaid'. A law counts once. -/
mutual
def uptoBulk {H : Type} : DataW H → Nat
  | .lit (.string bytes) => bytes.length + 1
  | .lit _ => 1
  | .nil => 1
  | .ptr d => uptoBulk d + 1
  | .slice elems spare => uptoBulkAll elems + uptoBulkAll spare + 1
  | .agg parts => uptoBulkAll parts + 1
  | .iface _ d => uptoBulk d + 1
  | .map entries => uptoBulkEntries entries + 1
  | .held _ => 1
def uptoBulkAll {H : Type} : List (DataW H) → Nat
  | [] => 0
  | d :: r => uptoBulk d + uptoBulkAll r
def uptoBulkEntries {H : Type} : List (Lit × DataW H) → Nat
  | [] => 0
  | x :: r => uptoBulkEntry x + uptoBulkEntries r
def uptoBulkEntry {H : Type} : Lit × DataW H → Nat
  | (.string bytes, d) => bytes.length + uptoBulk d + 1
  | (_, d) => uptoBulk d + 1
 end
def uptoSmall : (H : Type) → List (DataW H) → Bool := fun _ ds => decide (uptoBulkAll ds ≤ 1048576)
def OpenSpec.upto (s : _root_.Go.ChangeSpec) : _root_.Go.OpenSpec := { _root_.Go.OpenSpec.ofChange s with cond := some uptoSmall }

/-- 'hogsheadlaw19.CountDues', WHERE WHAT IT READS IS OF BULK AT MOST 1048576: true; the input reads as it did. -/
def countDuesUptoRow : OpenClaim := { program := "ytlfonfceaiiinaa", sum := "f2975837496c819ab3f70243ec6f002d9022a5ecbcbbced108c00ed1f4b321ff", func := "hogshead/hogsheadlaw19.CountDues", spec := "countDues", plainKeys := false, apart := false, narrowed := true }
def CountDuesUptoSaid : Prop := countDuesUptoRow.holds Try.pinned (OpenSpec.upto countDuesSpec)

/-- 'hogsheadlaw19.CountRatio', WHERE WHAT IT READS IS OF BULK AT MOST 1048576: true; the input reads as it did. -/
def countRatioUptoRow : OpenClaim := { program := "ytlfonfceaiiinaa", sum := "f2975837496c819ab3f70243ec6f002d9022a5ecbcbbced108c00ed1f4b321ff", func := "hogshead/hogsheadlaw19.CountRatio", spec := "countRatio", plainKeys := false, apart := false, narrowed := true }
def CountRatioUptoSaid : Prop := countRatioUptoRow.holds Try.pinned (OpenSpec.upto countRatioSpec)

/-- 'hogsheadlaw19.CountSums', WHERE WHAT IT READS IS OF BULK AT MOST 1048576: true; the input reads as it did. -/
def countSumsUptoRow : OpenClaim := { program := "ytlfonfceaiiinaa", sum := "f2975837496c819ab3f70243ec6f002d9022a5ecbcbbced108c00ed1f4b321ff", func := "hogshead/hogsheadlaw19.CountSums", spec := "countSums", plainKeys := false, apart := false, narrowed := true }
def CountSumsUptoSaid : Prop := countSumsUptoRow.holds Try.pinned (OpenSpec.upto countSumsSpec)

/-- 'hogsheadlaw19.CountWeighs', WHERE WHAT IT READS IS OF BULK AT MOST 1048576: true; the input reads as it did. -/
def countWeighsUptoRow : OpenClaim := { program := "ytlfonfceaiiinaa", sum := "f2975837496c819ab3f70243ec6f002d9022a5ecbcbbced108c00ed1f4b321ff", func := "hogshead/hogsheadlaw19.CountWeighs", spec := "countWeighs", unfollowed := true, recurses := true, plainKeys := false, apart := false, narrowed := true }
def CountWeighsUptoSaid : Prop := countWeighsUptoRow.holds Try.pinned (OpenSpec.upto countWeighsSpec)

/-- 'hogsheadlaw19.CountHalves', WHERE WHAT IT READS IS OF BULK AT MOST 1048576: true; the input reads as it did. -/
def countHalvesUptoRow : OpenClaim := { program := "ytlfonfceaiiinaa", sum := "f2975837496c819ab3f70243ec6f002d9022a5ecbcbbced108c00ed1f4b321ff", func := "hogshead/hogsheadlaw19.CountHalves", spec := "countHalves", unfollowed := true, recurses := true, plainKeys := false, apart := false, narrowed := true }
def CountHalvesUptoSaid : Prop := countHalvesUptoRow.holds Try.pinned (OpenSpec.upto countHalvesSpec)

end Rows
end Go.Proofs.Ytlfonfceaiiinaa
