/-
  No cell of these rows narrows 'for every input' (looked for: loops, veiled, ifaces, maps, wideKeys, modest, calm, conditions, laid).
  DERIVED. THE GIVEN ROWS OF THIS SEAT. 6 by the template 'for every input the law returns true; each argument reads behind the call as it read before'; 0 by the template 'total and deterministic' (their statements: YtmjmmgefkebggaaTotals.lean).
  GIVEN WITH THE SEED: the statements are not yours to turn. If you find one false, say at which input.
  Laid BY PROGRAM, IN A SANDBOX (cutbox-rows.mjs): the forced cells as the released guide's own fill.sh prints them over the translation 54148395d8b20ee7… (all of the seat's roots in one cut). By AI agents, Wed Nov 11 2026. No macro, syntax, notation, axiom, sorry.
-/
import Derived.Test.YtmjmmgefkebggaaChecked
import GoSem.Claim
import GoSem.ClaimJoined
import GoSem.ClaimMapViews
import Derived.JoinedTies
import Derived.KernelRfl
namespace Go.Proofs.Ytmjmmgefkebggaa
/- THE CELL 'sum', in the pinned program and in every row, IS THE sha256 OF THE DUMP (.gsa) THAT YtmjmmgefkebggaaProg.lean LOADS. Nothing in Lean hashes anything: it is a label: what it is worth is what the hold of that sum in a sandbox is worth. -/
noncomputable def Try.pinned : Pinned := { name := "ytmjmmgefkebggaa", sum := "54148395d8b20ee7c7463c412117f3a5cfabcaf1b9c19e8cbd4389dc607f643c", checked := Try.checked }
namespace Rows
def none {H : Type} : Left H := { results := [], args := [] }

/-- 'hogsheadlaw17.DeedBegins': WHATEVER THE INPUT: true; the input reads as it did. -/
def deedBeginsSpec : ChangeSpec := { name := "deedBegins", fn := fun _ => fun
  | [d] => { results := [.lit (.bool true)], args := [d] }
  | _ => none }
def deedBeginsRow : OpenClaim := { program := "ytmjmmgefkebggaa", sum := "54148395d8b20ee7c7463c412117f3a5cfabcaf1b9c19e8cbd4389dc607f643c", func := "hogshead/hogsheadlaw17.DeedBegins", spec := "deedBegins", unfollowed := true, recurses := true, apart := false }
def DeedBeginsSaid : Prop := deedBeginsRow.holds Try.pinned (OpenSpec.ofChange deedBeginsSpec)

/-- ITS FALSE NEIGHBOUR: 'it returns false'. Refute it at one input. -/
def deedBeginsWrong : ChangeSpec := { name := "deedBegins", fn := fun _ => fun
  | [d] => { results := [.lit (.bool false)], args := [d] }
  | _ => none }
def DeedBeginsWrongFalsely : Prop := deedBeginsRow.holds Try.pinned (OpenSpec.ofChange deedBeginsWrong)

/-- 'hogsheadlaw17.DeedWants': WHATEVER THE INPUT: true; the input reads as it did. -/
def deedWantsSpec : ChangeSpec := { name := "deedWants", fn := fun _ => fun
  | [d] => { results := [.lit (.bool true)], args := [d] }
  | _ => none }
def deedWantsRow : OpenClaim := { program := "ytmjmmgefkebggaa", sum := "54148395d8b20ee7c7463c412117f3a5cfabcaf1b9c19e8cbd4389dc607f643c", func := "hogshead/hogsheadlaw17.DeedWants", spec := "deedWants", unfollowed := true, recurses := true, apart := false }
def DeedWantsSaid : Prop := deedWantsRow.holds Try.pinned (OpenSpec.ofChange deedWantsSpec)

/-- ITS FALSE NEIGHBOUR: 'it returns false'. Refute it at one input. -/
def deedWantsWrong : ChangeSpec := { name := "deedWants", fn := fun _ => fun
  | [d] => { results := [.lit (.bool false)], args := [d] }
  | _ => none }
def DeedWantsWrongFalsely : Prop := deedWantsRow.holds Try.pinned (OpenSpec.ofChange deedWantsWrong)

/-- 'hogsheadlaw17.DeedGoes': WHATEVER THE INPUT: true; the input reads as it did. -/
def deedGoesSpec : ChangeSpec := { name := "deedGoes", fn := fun _ => fun
  | [d] => { results := [.lit (.bool true)], args := [d] }
  | _ => none }
def deedGoesRow : OpenClaim := { program := "ytmjmmgefkebggaa", sum := "54148395d8b20ee7c7463c412117f3a5cfabcaf1b9c19e8cbd4389dc607f643c", func := "hogshead/hogsheadlaw17.DeedGoes", spec := "deedGoes", unfollowed := true, recurses := true, apart := false }
def DeedGoesSaid : Prop := deedGoesRow.holds Try.pinned (OpenSpec.ofChange deedGoesSpec)

/-- ITS FALSE NEIGHBOUR: 'it returns false'. Refute it at one input. -/
def deedGoesWrong : ChangeSpec := { name := "deedGoes", fn := fun _ => fun
  | [d] => { results := [.lit (.bool false)], args := [d] }
  | _ => none }
def DeedGoesWrongFalsely : Prop := deedGoesRow.holds Try.pinned (OpenSpec.ofChange deedGoesWrong)

/-- 'hogsheadlaw17.DeedEnds': WHATEVER THE INPUT: true; the input reads as it did. -/
def deedEndsSpec : ChangeSpec := { name := "deedEnds", fn := fun _ => fun
  | [d1, d2] => { results := [.lit (.bool true)], args := [d1, d2] }
  | _ => none }
def deedEndsRow : OpenClaim := { program := "ytmjmmgefkebggaa", sum := "54148395d8b20ee7c7463c412117f3a5cfabcaf1b9c19e8cbd4389dc607f643c", func := "hogshead/hogsheadlaw17.DeedEnds", spec := "deedEnds", unfollowed := true, recurses := true, apart := false }
def DeedEndsSaid : Prop := deedEndsRow.holds Try.pinned (OpenSpec.ofChange deedEndsSpec)

/-- ITS FALSE NEIGHBOUR: 'it returns false'. Refute it at one input. -/
def deedEndsWrong : ChangeSpec := { name := "deedEnds", fn := fun _ => fun
  | [d1, d2] => { results := [.lit (.bool false)], args := [d1, d2] }
  | _ => none }
def DeedEndsWrongFalsely : Prop := deedEndsRow.holds Try.pinned (OpenSpec.ofChange deedEndsWrong)

/-- 'hogsheadlaw17.DeedWrites': WHATEVER THE INPUT: true; the input reads as it did. -/
def deedWritesSpec : ChangeSpec := { name := "deedWrites", fn := fun _ => fun
  | [d1, d2, d3] => { results := [.lit (.bool true)], args := [d1, d2, d3] }
  | _ => none }
def deedWritesRow : OpenClaim := { program := "ytmjmmgefkebggaa", sum := "54148395d8b20ee7c7463c412117f3a5cfabcaf1b9c19e8cbd4389dc607f643c", func := "hogshead/hogsheadlaw17.DeedWrites", spec := "deedWrites", unfollowed := true, recurses := true, apart := false }
def DeedWritesSaid : Prop := deedWritesRow.holds Try.pinned (OpenSpec.ofChange deedWritesSpec)

/-- ITS FALSE NEIGHBOUR: 'it returns false'. Refute it at one input. -/
def deedWritesWrong : ChangeSpec := { name := "deedWrites", fn := fun _ => fun
  | [d1, d2, d3] => { results := [.lit (.bool false)], args := [d1, d2, d3] }
  | _ => none }
def DeedWritesWrongFalsely : Prop := deedWritesRow.holds Try.pinned (OpenSpec.ofChange deedWritesWrong)

/-- 'hogsheadlaw17.DeedReads': WHATEVER THE INPUT: true; the input reads as it did. -/
def deedReadsSpec : ChangeSpec := { name := "deedReads", fn := fun _ => fun
  | [d1, d2] => { results := [.lit (.bool true)], args := [d1, d2] }
  | _ => none }
def deedReadsRow : OpenClaim := { program := "ytmjmmgefkebggaa", sum := "54148395d8b20ee7c7463c412117f3a5cfabcaf1b9c19e8cbd4389dc607f643c", func := "hogshead/hogsheadlaw17.DeedReads", spec := "deedReads", unfollowed := true, recurses := true, apart := false }
def DeedReadsSaid : Prop := deedReadsRow.holds Try.pinned (OpenSpec.ofChange deedReadsSpec)

/-- ITS FALSE NEIGHBOUR: 'it returns false'. Refute it at one input. -/
def deedReadsWrong : ChangeSpec := { name := "deedReads", fn := fun _ => fun
  | [d1, d2] => { results := [.lit (.bool false)], args := [d1, d2] }
  | _ => none }
def DeedReadsWrongFalsely : Prop := deedReadsRow.holds Try.pinned (OpenSpec.ofChange deedReadsWrong)

/- THE SECOND FORM. 'bulk': how many values and letters a reading holds, each counted each time it is reached (what is shared counts as often as it is met; a slice's spare places count too). A statement '..UptoSaid' is the law's where the arguments, and the package variables that the reading takes, are together of bulk at most 1048576: NARROWER than '..Said'. Prove '..Said' where nothing that the law and all that it calls make is longer than what came in: it says more and counts as full. Else prove '..UptoSaid'. A law counts once. -/
mutual
def uptoBulk {H : Type} : DataW H → Nat
  | .lit (.string bytes) => bytes.length + 1
  | .lit _ => 1
  | .nil => 1
  | .ptr d => uptoBulk d + 1
  | .slice elems spare => uptoBulkAll elems + uptoBulkAll spare + 1
  | .agg parts => uptoBulkAll parts + 1
  | .iface _ d => uptoBulk d + 1
  | .map entries => uptoBulkEntries entries + 1
  | .held _ => 1
def uptoBulkAll {H : Type} : List (DataW H) → Nat
  | [] => 0
  | d :: r => uptoBulk d + uptoBulkAll r
def uptoBulkEntries {H : Type} : List (Lit × DataW H) → Nat
  | [] => 0
  | x :: r => uptoBulkEntry x + uptoBulkEntries r
def uptoBulkEntry {H : Type} : Lit × DataW H → Nat
  | (.string bytes, d) => bytes.length + uptoBulk d + 1
  | (_, d) => uptoBulk d + 1
 end
def uptoSmall : (H : Type) → List (DataW H) → Bool := fun _ ds => decide (uptoBulkAll ds ≤ 1048576)
def OpenSpec.upto (s : _root_.Go.ChangeSpec) : _root_.Go.OpenSpec := { _root_.Go.OpenSpec.ofChange s with cond := some uptoSmall }

/-- 'hogsheadlaw17.DeedBegins', WHERE WHAT IT READS IS OF BULK AT MOST 1048576: true; the input reads as it did. -/
def deedBeginsUptoRow : OpenClaim := { program := "ytmjmmgefkebggaa", sum := "54148395d8b20ee7c7463c412117f3a5cfabcaf1b9c19e8cbd4389dc607f643c", func := "hogshead/hogsheadlaw17.DeedBegins", spec := "deedBegins", unfollowed := true, recurses := true, apart := false, narrowed := true }
def DeedBeginsUptoSaid : Prop := deedBeginsUptoRow.holds Try.pinned (OpenSpec.upto deedBeginsSpec)

/-- 'hogsheadlaw17.DeedWants', WHERE WHAT IT READS IS OF BULK AT MOST 1048576: true; the input reads as it did. -/
def deedWantsUptoRow : OpenClaim := { program := "ytmjmmgefkebggaa", sum := "54148395d8b20ee7c7463c412117f3a5cfabcaf1b9c19e8cbd4389dc607f643c", func := "hogshead/hogsheadlaw17.DeedWants", spec := "deedWants", unfollowed := true, recurses := true, apart := false, narrowed := true }
def DeedWantsUptoSaid : Prop := deedWantsUptoRow.holds Try.pinned (OpenSpec.upto deedWantsSpec)

/-- 'hogsheadlaw17.DeedGoes', WHERE WHAT IT READS IS OF BULK AT MOST 1048576: true; the input reads as it did. -/
def deedGoesUptoRow : OpenClaim := { program := "ytmjmmgefkebggaa", sum := "54148395d8b20ee7c7463c412117f3a5cfabcaf1b9c19e8cbd4389dc607f643c", func := "hogshead/hogsheadlaw17.DeedGoes", spec := "deedGoes", unfollowed := true, recurses := true, apart := false, narrowed := true }
def DeedGoesUptoSaid : Prop := deedGoesUptoRow.holds Try.pinned (OpenSpec.upto deedGoesSpec)

/-- 'hogsheadlaw17.DeedEnds', WHERE WHAT IT READS IS OF BULK AT MOST 1048576: true; the input reads as it did. -/
def deedEndsUptoRow : OpenClaim := { program := "ytmjmmgefkebggaa", sum := "54148395d8b20ee7c7463c412117f3a5cfabcaf1b9c19e8cbd4389dc607f643c", func := "hogshead/hogsheadlaw17.DeedEnds", spec := "deedEnds", unfollowed := true, recurses := true, apart := false, narrowed := true }
def DeedEndsUptoSaid : Prop := deedEndsUptoRow.holds Try.pinned (OpenSpec.upto deedEndsSpec)

/-- 'hogsheadlaw17.DeedWrites', WHERE WHAT IT READS IS OF BULK AT MOST 1048576: true; the input reads as it did. -/
def deedWritesUptoRow : OpenClaim := { program := "ytmjmmgefkebggaa", sum := "54148395d8b20ee7c7463c412117f3a5cfabcaf1b9c19e8cbd4389dc607f643c", func := "hogshead/hogsheadlaw17.DeedWrites", spec := "deedWrites", unfollowed := true, recurses := true, apart := false, narrowed := true }
def DeedWritesUptoSaid : Prop := deedWritesUptoRow.holds Try.pinned (OpenSpec.upto deedWritesSpec)

/-- 'hogsheadlaw17.DeedReads', WHERE WHAT IT READS IS OF BULK AT MOST 1048576: true; the input reads as it did. -/
def deedReadsUptoRow : OpenClaim := { program := "ytmjmmgefkebggaa", sum := "54148395d8b20ee7c7463c412117f3a5cfabcaf1b9c19e8cbd4389dc607f643c", func := "hogshead/hogsheadlaw17.DeedReads", spec := "deedReads", unfollowed := true, recurses := true, apart := false, narrowed := true }
def DeedReadsUptoSaid : Prop := deedReadsUptoRow.holds Try.pinned (OpenSpec.upto deedReadsSpec)

end Rows
end Go.Proofs.Ytmjmmgefkebggaa
