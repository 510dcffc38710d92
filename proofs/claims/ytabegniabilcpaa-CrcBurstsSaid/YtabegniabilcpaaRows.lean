/-
  No cell of these rows narrows 'for every input' (looked for: loops, veiled, ifaces, maps, wideKeys, modest, calm, conditions, laid).
  DERIVED. THE GIVEN ROWS OF THIS SEAT. 9 by the template 'for every input the law returns true; each argument reads behind the call as it read before'; 0 by the template 'total and deterministic' (their statements: YtabegniabilcpaaTotals.lean).
  GIVEN WITH THE SEED: the statements are not yours to turn. If you find one false, say at which input.
  Laid BY PROGRAM, IN A SANDBOX (cutbox-rows.mjs): the forced cells as the released guide's own fill.sh prints them over the translation 7e8cd88a095d16d3… (all of the seat's roots in one cut). By AI agents, Wed Nov 11 2026. No macro, syntax, notation, axiom, sorry.
-/
import Derived.Test.YtabegniabilcpaaChecked
import GoSem.Claim
import GoSem.ClaimJoined
import GoSem.ClaimMapViews
import Derived.JoinedTies
import Derived.KernelRfl
namespace Go.Proofs.Ytabegniabilcpaa
/- THE CELL 'sum', in the pinned program and in every row, IS THE sha256 OF THE DUMP (.gsa) THAT YtabegniabilcpaaProg.lean LOADS. Nothing in Lean hashes anything: it is a label: what it is worth is what the hold of that sum in a sandbox is worth. -/
noncomputable def Try.pinned : Pinned := { name := "ytabegniabilcpaa", sum := "7e8cd88a095d16d32bcfaf15713186aba939e8e6e792799dd447c419cacc0007", checked := Try.checked }
namespace Rows
def none {H : Type} : Left H := { results := [], args := [] }

/-- 'hogsheadlaw02.CrcSteps': WHATEVER THE INPUT: true; the input reads as it did. -/
def crcStepsSpec : ChangeSpec := { name := "crcSteps", fn := fun _ => fun
  | [d1, d2] => { results := [.lit (.bool true)], args := [d1, d2] }
  | _ => none }
def crcStepsRow : OpenClaim := { program := "ytabegniabilcpaa", sum := "7e8cd88a095d16d32bcfaf15713186aba939e8e6e792799dd447c419cacc0007", func := "hogshead/hogsheadlaw02.CrcSteps", spec := "crcSteps", unfollowed := true, recurses := true, apart := false }
def CrcStepsSaid : Prop := crcStepsRow.holds Try.pinned (OpenSpec.ofChange crcStepsSpec)

/-- ITS FALSE NEIGHBOUR: 'it returns false'. Refute it at one input. -/
def crcStepsWrong : ChangeSpec := { name := "crcSteps", fn := fun _ => fun
  | [d1, d2] => { results := [.lit (.bool false)], args := [d1, d2] }
  | _ => none }
def CrcStepsWrongFalsely : Prop := crcStepsRow.holds Try.pinned (OpenSpec.ofChange crcStepsWrong)

/-- 'hogsheadlaw02.CrcSums': WHATEVER THE INPUT: true; the input reads as it did. -/
def crcSumsSpec : ChangeSpec := { name := "crcSums", fn := fun _ => fun
  | [d] => { results := [.lit (.bool true)], args := [d] }
  | _ => none }
def crcSumsRow : OpenClaim := { program := "ytabegniabilcpaa", sum := "7e8cd88a095d16d32bcfaf15713186aba939e8e6e792799dd447c419cacc0007", func := "hogshead/hogsheadlaw02.CrcSums", spec := "crcSums", unfollowed := true, recurses := true, apart := false }
def CrcSumsSaid : Prop := crcSumsRow.holds Try.pinned (OpenSpec.ofChange crcSumsSpec)

/-- ITS FALSE NEIGHBOUR: 'it returns false'. Refute it at one input. -/
def crcSumsWrong : ChangeSpec := { name := "crcSums", fn := fun _ => fun
  | [d] => { results := [.lit (.bool false)], args := [d] }
  | _ => none }
def CrcSumsWrongFalsely : Prop := crcSumsRow.holds Try.pinned (OpenSpec.ofChange crcSumsWrong)

/-- 'hogsheadlaw02.CrcLines': WHATEVER THE INPUT: true; the input reads as it did. -/
def crcLinesSpec : ChangeSpec := { name := "crcLines", fn := fun _ => fun
  | [d] => { results := [.lit (.bool true)], args := [d] }
  | _ => none }
def crcLinesRow : OpenClaim := { program := "ytabegniabilcpaa", sum := "7e8cd88a095d16d32bcfaf15713186aba939e8e6e792799dd447c419cacc0007", func := "hogshead/hogsheadlaw02.CrcLines", spec := "crcLines", unfollowed := true, recurses := true, apart := false }
def CrcLinesSaid : Prop := crcLinesRow.holds Try.pinned (OpenSpec.ofChange crcLinesSpec)

/-- ITS FALSE NEIGHBOUR: 'it returns false'. Refute it at one input. -/
def crcLinesWrong : ChangeSpec := { name := "crcLines", fn := fun _ => fun
  | [d] => { results := [.lit (.bool false)], args := [d] }
  | _ => none }
def CrcLinesWrongFalsely : Prop := crcLinesRow.holds Try.pinned (OpenSpec.ofChange crcLinesWrong)

/-- 'hogsheadlaw02.CrcTurns': WHATEVER THE INPUT: true; the input reads as it did. -/
def crcTurnsSpec : ChangeSpec := { name := "crcTurns", fn := fun _ => fun
  | [d] => { results := [.lit (.bool true)], args := [d] }
  | _ => none }
def crcTurnsRow : OpenClaim := { program := "ytabegniabilcpaa", sum := "7e8cd88a095d16d32bcfaf15713186aba939e8e6e792799dd447c419cacc0007", func := "hogshead/hogsheadlaw02.CrcTurns", spec := "crcTurns", unfollowed := true, recurses := true, apart := false }
def CrcTurnsSaid : Prop := crcTurnsRow.holds Try.pinned (OpenSpec.ofChange crcTurnsSpec)

/-- ITS FALSE NEIGHBOUR: 'it returns false'. Refute it at one input. -/
def crcTurnsWrong : ChangeSpec := { name := "crcTurns", fn := fun _ => fun
  | [d] => { results := [.lit (.bool false)], args := [d] }
  | _ => none }
def CrcTurnsWrongFalsely : Prop := crcTurnsRow.holds Try.pinned (OpenSpec.ofChange crcTurnsWrong)

/-- 'hogsheadlaw02.CrcRests': WHATEVER THE INPUT: true; the input reads as it did. -/
def crcRestsSpec : ChangeSpec := { name := "crcRests", fn := fun _ => fun
  | [d] => { results := [.lit (.bool true)], args := [d] }
  | _ => none }
def crcRestsRow : OpenClaim := { program := "ytabegniabilcpaa", sum := "7e8cd88a095d16d32bcfaf15713186aba939e8e6e792799dd447c419cacc0007", func := "hogshead/hogsheadlaw02.CrcRests", spec := "crcRests", unfollowed := true, recurses := true, apart := false }
def CrcRestsSaid : Prop := crcRestsRow.holds Try.pinned (OpenSpec.ofChange crcRestsSpec)

/-- ITS FALSE NEIGHBOUR: 'it returns false'. Refute it at one input. -/
def crcRestsWrong : ChangeSpec := { name := "crcRests", fn := fun _ => fun
  | [d] => { results := [.lit (.bool false)], args := [d] }
  | _ => none }
def CrcRestsWrongFalsely : Prop := crcRestsRow.holds Try.pinned (OpenSpec.ofChange crcRestsWrong)

/-- 'hogsheadlaw02.CrcOpens': WHATEVER THE INPUT: true; the input reads as it did. -/
def crcOpensSpec : ChangeSpec := { name := "crcOpens", fn := fun _ => fun
  | [d] => { results := [.lit (.bool true)], args := [d] }
  | _ => none }
def crcOpensRow : OpenClaim := { program := "ytabegniabilcpaa", sum := "7e8cd88a095d16d32bcfaf15713186aba939e8e6e792799dd447c419cacc0007", func := "hogshead/hogsheadlaw02.CrcOpens", spec := "crcOpens", unfollowed := true, recurses := true, apart := false }
def CrcOpensSaid : Prop := crcOpensRow.holds Try.pinned (OpenSpec.ofChange crcOpensSpec)

/-- ITS FALSE NEIGHBOUR: 'it returns false'. Refute it at one input. -/
def crcOpensWrong : ChangeSpec := { name := "crcOpens", fn := fun _ => fun
  | [d] => { results := [.lit (.bool false)], args := [d] }
  | _ => none }
def CrcOpensWrongFalsely : Prop := crcOpensRow.holds Try.pinned (OpenSpec.ofChange crcOpensWrong)

/-- 'hogsheadlaw02.CrcBack': WHATEVER THE INPUT: true; the input reads as it did. -/
def crcBackSpec : ChangeSpec := { name := "crcBack", fn := fun _ => fun
  | [d] => { results := [.lit (.bool true)], args := [d] }
  | _ => none }
def crcBackRow : OpenClaim := { program := "ytabegniabilcpaa", sum := "7e8cd88a095d16d32bcfaf15713186aba939e8e6e792799dd447c419cacc0007", func := "hogshead/hogsheadlaw02.CrcBack", spec := "crcBack", unfollowed := true, recurses := true, apart := false }
def CrcBackSaid : Prop := crcBackRow.holds Try.pinned (OpenSpec.ofChange crcBackSpec)

/-- ITS FALSE NEIGHBOUR: 'it returns false'. Refute it at one input. -/
def crcBackWrong : ChangeSpec := { name := "crcBack", fn := fun _ => fun
  | [d] => { results := [.lit (.bool false)], args := [d] }
  | _ => none }
def CrcBackWrongFalsely : Prop := crcBackRow.holds Try.pinned (OpenSpec.ofChange crcBackWrong)

/-- 'hogsheadlaw02.CrcBursts': WHATEVER THE INPUT: true; the input reads as it did. -/
def crcBurstsSpec : ChangeSpec := { name := "crcBursts", fn := fun _ => fun
  | [d1, d2, d3] => { results := [.lit (.bool true)], args := [d1, d2, d3] }
  | _ => none }
def crcBurstsRow : OpenClaim := { program := "ytabegniabilcpaa", sum := "7e8cd88a095d16d32bcfaf15713186aba939e8e6e792799dd447c419cacc0007", func := "hogshead/hogsheadlaw02.CrcBursts", spec := "crcBursts", unfollowed := true, recurses := true, apart := false }
def CrcBurstsSaid : Prop := crcBurstsRow.holds Try.pinned (OpenSpec.ofChange crcBurstsSpec)

/-- ITS FALSE NEIGHBOUR: 'it returns false'. Refute it at one input. -/
def crcBurstsWrong : ChangeSpec := { name := "crcBursts", fn := fun _ => fun
  | [d1, d2, d3] => { results := [.lit (.bool false)], args := [d1, d2, d3] }
  | _ => none }
def CrcBurstsWrongFalsely : Prop := crcBurstsRow.holds Try.pinned (OpenSpec.ofChange crcBurstsWrong)

/-- 'hogsheadlaw02.CrcShort': WHATEVER THE INPUT: true; the input reads as it did. -/
def crcShortSpec : ChangeSpec := { name := "crcShort", fn := fun _ => fun
  | [d] => { results := [.lit (.bool true)], args := [d] }
  | _ => none }
def crcShortRow : OpenClaim := { program := "ytabegniabilcpaa", sum := "7e8cd88a095d16d32bcfaf15713186aba939e8e6e792799dd447c419cacc0007", func := "hogshead/hogsheadlaw02.CrcShort", spec := "crcShort", unfollowed := true, recurses := true, apart := false }
def CrcShortSaid : Prop := crcShortRow.holds Try.pinned (OpenSpec.ofChange crcShortSpec)

/-- ITS FALSE NEIGHBOUR: 'it returns false'. Refute it at one input. -/
def crcShortWrong : ChangeSpec := { name := "crcShort", fn := fun _ => fun
  | [d] => { results := [.lit (.bool false)], args := [d] }
  | _ => none }
def CrcShortWrongFalsely : Prop := crcShortRow.holds Try.pinned (OpenSpec.ofChange crcShortWrong)

/- THE SECOND FORM. 'bulk': how many values and letters a reading holds, each counted each time it is reached (what is shared counts as often as it is met; a slice's spare places count too). A statement '..UptoSaid' is the law's where the arguments, and the package variables that the reading takes, are together of bulk at most 1048576: NARROWER than '..Said'. Prove '..Said' where nothing that the law and all that it calls make is longer than what came in: it says more and counts as full. Else prove '..UptoSaid'. A law counts once. -/
mutual
def uptoBulk {H : Type} : DataW H → Nat
  | .lit (.string bytes) => bytes.length + 1
  | .lit _ => 1
  | .nil => 1
  | .ptr d => uptoBulk d + 1
  | .slice elems spare => uptoBulkAll elems + uptoBulkAll spare + 1
  | .agg parts => uptoBulkAll parts + 1
  | .iface _ d => uptoBulk d + 1
  | .map entries => uptoBulkEntries entries + 1
  | .held _ => 1
def uptoBulkAll {H : Type} : List (DataW H) → Nat
  | [] => 0
  | d :: r => uptoBulk d + uptoBulkAll r
def uptoBulkEntries {H : Type} : List (Lit × DataW H) → Nat
  | [] => 0
  | x :: r => uptoBulkEntry x + uptoBulkEntries r
def uptoBulkEntry {H : Type} : Lit × DataW H → Nat
  | (.string bytes, d) => bytes.length + uptoBulk d + 1
  | (_, d) => uptoBulk d + 1
 end
def uptoSmall : (H : Type) → List (DataW H) → Bool := fun _ ds => decide (uptoBulkAll ds ≤ 1048576)
def OpenSpec.upto (s : _root_.Go.ChangeSpec) : _root_.Go.OpenSpec := { _root_.Go.OpenSpec.ofChange s with cond := some uptoSmall }

/-- 'hogsheadlaw02.CrcSteps', WHERE WHAT IT READS IS OF BULK AT MOST 1048576: true; the input reads as it did. -/
def crcStepsUptoRow : OpenClaim := { program := "ytabegniabilcpaa", sum := "7e8cd88a095d16d32bcfaf15713186aba939e8e6e792799dd447c419cacc0007", func := "hogshead/hogsheadlaw02.CrcSteps", spec := "crcSteps", unfollowed := true, recurses := true, apart := false, narrowed := true }
def CrcStepsUptoSaid : Prop := crcStepsUptoRow.holds Try.pinned (OpenSpec.upto crcStepsSpec)

/-- 'hogsheadlaw02.CrcSums', WHERE WHAT IT READS IS OF BULK AT MOST 1048576: true; the input reads as it did. -/
def crcSumsUptoRow : OpenClaim := { program := "ytabegniabilcpaa", sum := "7e8cd88a095d16d32bcfaf15713186aba939e8e6e792799dd447c419cacc0007", func := "hogshead/hogsheadlaw02.CrcSums", spec := "crcSums", unfollowed := true, recurses := true, apart := false, narrowed := true }
def CrcSumsUptoSaid : Prop := crcSumsUptoRow.holds Try.pinned (OpenSpec.upto crcSumsSpec)

/-- 'hogsheadlaw02.CrcLines', WHERE WHAT IT READS IS OF BULK AT MOST 1048576: true; the input reads as it did. -/
def crcLinesUptoRow : OpenClaim := { program := "ytabegniabilcpaa", sum := "7e8cd88a095d16d32bcfaf15713186aba939e8e6e792799dd447c419cacc0007", func := "hogshead/hogsheadlaw02.CrcLines", spec := "crcLines", unfollowed := true, recurses := true, apart := false, narrowed := true }
def CrcLinesUptoSaid : Prop := crcLinesUptoRow.holds Try.pinned (OpenSpec.upto crcLinesSpec)

/-- 'hogsheadlaw02.CrcTurns', WHERE WHAT IT READS IS OF BULK AT MOST 1048576: true; the input reads as it did. -/
def crcTurnsUptoRow : OpenClaim := { program := "ytabegniabilcpaa", sum := "7e8cd88a095d16d32bcfaf15713186aba939e8e6e792799dd447c419cacc0007", func := "hogshead/hogsheadlaw02.CrcTurns", spec := "crcTurns", unfollowed := true, recurses := true, apart := false, narrowed := true }
def CrcTurnsUptoSaid : Prop := crcTurnsUptoRow.holds Try.pinned (OpenSpec.upto crcTurnsSpec)

/-- 'hogsheadlaw02.CrcRests', WHERE WHAT IT READS IS OF BULK AT MOST 1048576: true; the input reads as it did. -/
def crcRestsUptoRow : OpenClaim := { program := "ytabegniabilcpaa", sum := "7e8cd88a095d16d32bcfaf15713186aba939e8e6e792799dd447c419cacc0007", func := "hogshead/hogsheadlaw02.CrcRests", spec := "crcRests", unfollowed := true, recurses := true, apart := false, narrowed := true }
def CrcRestsUptoSaid : Prop := crcRestsUptoRow.holds Try.pinned (OpenSpec.upto crcRestsSpec)

/-- 'hogsheadlaw02.CrcOpens', WHERE WHAT IT READS IS OF BULK AT MOST 1048576: true; the input reads as it did. -/
def crcOpensUptoRow : OpenClaim := { program := "ytabegniabilcpaa", sum := "7e8cd88a095d16d32bcfaf15713186aba939e8e6e792799dd447c419cacc0007", func := "hogshead/hogsheadlaw02.CrcOpens", spec := "crcOpens", unfollowed := true, recurses := true, apart := false, narrowed := true }
def CrcOpensUptoSaid : Prop := crcOpensUptoRow.holds Try.pinned (OpenSpec.upto crcOpensSpec)

/-- 'hogsheadlaw02.CrcBack', WHERE WHAT IT READS IS OF BULK AT MOST 1048576: true; the input reads as it did. -/
def crcBackUptoRow : OpenClaim := { program := "ytabegniabilcpaa", sum := "7e8cd88a095d16d32bcfaf15713186aba939e8e6e792799dd447c419cacc0007", func := "hogshead/hogsheadlaw02.CrcBack", spec := "crcBack", unfollowed := true, recurses := true, apart := false, narrowed := true }
def CrcBackUptoSaid : Prop := crcBackUptoRow.holds Try.pinned (OpenSpec.upto crcBackSpec)

/-- 'hogsheadlaw02.CrcBursts', WHERE WHAT IT READS IS OF BULK AT MOST 1048576: true; the input reads as it did. -/
def crcBurstsUptoRow : OpenClaim := { program := "ytabegniabilcpaa", sum := "7e8cd88a095d16d32bcfaf15713186aba939e8e6e792799dd447c419cacc0007", func := "hogshead/hogsheadlaw02.CrcBursts", spec := "crcBursts", unfollowed := true, recurses := true, apart := false, narrowed := true }
def CrcBurstsUptoSaid : Prop := crcBurstsUptoRow.holds Try.pinned (OpenSpec.upto crcBurstsSpec)

/-- 'hogsheadlaw02.CrcShort', WHERE WHAT IT READS IS OF BULK AT MOST 1048576: true; the input reads as it did. -/
def crcShortUptoRow : OpenClaim := { program := "ytabegniabilcpaa", sum := "7e8cd88a095d16d32bcfaf15713186aba939e8e6e792799dd447c419cacc0007", func := "hogshead/hogsheadlaw02.CrcShort", spec := "crcShort", unfollowed := true, recurses := true, apart := false, narrowed := true }
def CrcShortUptoSaid : Prop := crcShortUptoRow.holds Try.pinned (OpenSpec.upto crcShortSpec)

end Rows
end Go.Proofs.Ytabegniabilcpaa
