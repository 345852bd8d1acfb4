/-
  No cell of these rows narrows 'for every input' (looked for: loops, veiled, ifaces, maps, wideKeys, modest, calm, conditions, laid).
  DERIVED. THE GIVEN ROWS OF THIS SEAT. 9 by the template 'for every input the law returns true; each argument reads behind the call as it read before'; 0 by the template 'total and deterministic' (their statements: YtggiobdjepgkfaaTotals.lean).
  GIVEN WITH THE SEED: the statements are not yours to turn. If you find one false, say at which input.
  Laid BY PROGRAM, IN A SANDBOX (cutbox-rows.mjs): the forced cells as the released guide's own fill.sh prints them over the translation 910af18efb17a72d… (all of the seat's roots in one cut). By AI agents, Wed Nov 11 2026. No macro, syntax, notation, axiom, sorry.
-/
import Derived.Test.YtggiobdjepgkfaaChecked
import GoSem.Claim
import GoSem.ClaimJoined
import GoSem.ClaimMapViews
import Derived.JoinedTies
import Derived.KernelRfl
namespace Go.Proofs.Ytggiobdjepgkfaa
/- THE CELL 'sum', in the pinned program and in every row, IS THE sha256 OF THE DUMP (.gsa) THAT YtggiobdjepgkfaaProg.lean LOADS. Nothing in Lean hashes anything: it is a label: what it is worth is what the hold of that sum in a sandbox is worth. -/
noncomputable def Try.pinned : Pinned := { name := "ytggiobdjepgkfaa", sum := "910af18efb17a72db535bca7ac20aff6fed4e08ace1e9c1273c0fbf736d14ada", checked := Try.checked }
namespace Rows
def none {H : Type} : Left H := { results := [], args := [] }

/-- 'busbarlaw08.CoilsParses': WHATEVER THE INPUT: true; the input reads as it did. -/
def coilsParsesSpec : ChangeSpec := { name := "coilsParses", fn := fun _ => fun
  | [d1, d2, d3] => { results := [.lit (.bool true)], args := [d1, d2, d3] }
  | _ => none }
def coilsParsesRow : OpenClaim := { program := "ytggiobdjepgkfaa", sum := "910af18efb17a72db535bca7ac20aff6fed4e08ace1e9c1273c0fbf736d14ada", func := "busbar/busbarlaw08.CoilsParses", spec := "coilsParses", unfollowed := true, recurses := true, apart := false }
def CoilsParsesSaid : Prop := coilsParsesRow.holds Try.pinned (OpenSpec.ofChange coilsParsesSpec)

/-- ITS FALSE NEIGHBOUR: 'it returns false'. Refute it at one input. -/
def coilsParsesWrong : ChangeSpec := { name := "coilsParses", fn := fun _ => fun
  | [d1, d2, d3] => { results := [.lit (.bool false)], args := [d1, d2, d3] }
  | _ => none }
def CoilsParsesWrongFalsely : Prop := coilsParsesRow.holds Try.pinned (OpenSpec.ofChange coilsParsesWrong)

/-- 'busbarlaw08.CoilsWrites': WHATEVER THE INPUT: true; the input reads as it did. -/
def coilsWritesSpec : ChangeSpec := { name := "coilsWrites", fn := fun _ => fun
  | [d1, d2] => { results := [.lit (.bool true)], args := [d1, d2] }
  | _ => none }
def coilsWritesRow : OpenClaim := { program := "ytggiobdjepgkfaa", sum := "910af18efb17a72db535bca7ac20aff6fed4e08ace1e9c1273c0fbf736d14ada", func := "busbar/busbarlaw08.CoilsWrites", spec := "coilsWrites", unfollowed := true, recurses := true, apart := false }
def CoilsWritesSaid : Prop := coilsWritesRow.holds Try.pinned (OpenSpec.ofChange coilsWritesSpec)

/-- ITS FALSE NEIGHBOUR: 'it returns false'. Refute it at one input. -/
def coilsWritesWrong : ChangeSpec := { name := "coilsWrites", fn := fun _ => fun
  | [d1, d2] => { results := [.lit (.bool false)], args := [d1, d2] }
  | _ => none }
def CoilsWritesWrongFalsely : Prop := coilsWritesRow.holds Try.pinned (OpenSpec.ofChange coilsWritesWrong)

/-- 'busbarlaw08.CoilsBack': WHATEVER THE INPUT: true; the input reads as it did. -/
def coilsBackSpec : ChangeSpec := { name := "coilsBack", fn := fun _ => fun
  | [d1, d2, d3, d4] => { results := [.lit (.bool true)], args := [d1, d2, d3, d4] }
  | _ => none }
def coilsBackRow : OpenClaim := { program := "ytggiobdjepgkfaa", sum := "910af18efb17a72db535bca7ac20aff6fed4e08ace1e9c1273c0fbf736d14ada", func := "busbar/busbarlaw08.CoilsBack", spec := "coilsBack", unfollowed := true, recurses := true, apart := false }
def CoilsBackSaid : Prop := coilsBackRow.holds Try.pinned (OpenSpec.ofChange coilsBackSpec)

/-- ITS FALSE NEIGHBOUR: 'it returns false'. Refute it at one input. -/
def coilsBackWrong : ChangeSpec := { name := "coilsBack", fn := fun _ => fun
  | [d1, d2, d3, d4] => { results := [.lit (.bool false)], args := [d1, d2, d3, d4] }
  | _ => none }
def CoilsBackWrongFalsely : Prop := coilsBackRow.holds Try.pinned (OpenSpec.ofChange coilsBackWrong)

/-- 'busbarlaw08.CoilsCounts': WHATEVER THE INPUT: true; the input reads as it did. -/
def coilsCountsSpec : ChangeSpec := { name := "coilsCounts", fn := fun _ => fun
  | [d1, d2] => { results := [.lit (.bool true)], args := [d1, d2] }
  | _ => none }
def coilsCountsRow : OpenClaim := { program := "ytggiobdjepgkfaa", sum := "910af18efb17a72db535bca7ac20aff6fed4e08ace1e9c1273c0fbf736d14ada", func := "busbar/busbarlaw08.CoilsCounts", spec := "coilsCounts", unfollowed := true, recurses := true, apart := false }
def CoilsCountsSaid : Prop := coilsCountsRow.holds Try.pinned (OpenSpec.ofChange coilsCountsSpec)

/-- ITS FALSE NEIGHBOUR: 'it returns false'. Refute it at one input. -/
def coilsCountsWrong : ChangeSpec := { name := "coilsCounts", fn := fun _ => fun
  | [d1, d2] => { results := [.lit (.bool false)], args := [d1, d2] }
  | _ => none }
def CoilsCountsWrongFalsely : Prop := coilsCountsRow.holds Try.pinned (OpenSpec.ofChange coilsCountsWrong)

/-- 'busbarlaw08.CoilsSets': WHATEVER THE INPUT: true; the input reads as it did. -/
def coilsSetsSpec : ChangeSpec := { name := "coilsSets", fn := fun _ => fun
  | [d1, d2] => { results := [.lit (.bool true)], args := [d1, d2] }
  | _ => none }
def coilsSetsRow : OpenClaim := { program := "ytggiobdjepgkfaa", sum := "910af18efb17a72db535bca7ac20aff6fed4e08ace1e9c1273c0fbf736d14ada", func := "busbar/busbarlaw08.CoilsSets", spec := "coilsSets", unfollowed := true, recurses := true, apart := false }
def CoilsSetsSaid : Prop := coilsSetsRow.holds Try.pinned (OpenSpec.ofChange coilsSetsSpec)

/-- ITS FALSE NEIGHBOUR: 'it returns false'. Refute it at one input. -/
def coilsSetsWrong : ChangeSpec := { name := "coilsSets", fn := fun _ => fun
  | [d1, d2] => { results := [.lit (.bool false)], args := [d1, d2] }
  | _ => none }
def CoilsSetsWrongFalsely : Prop := coilsSetsRow.holds Try.pinned (OpenSpec.ofChange coilsSetsWrong)

/-- 'busbarlaw08.CoilsReads': WHATEVER THE INPUT: true; the input reads as it did. -/
def coilsReadsSpec : ChangeSpec := { name := "coilsReads", fn := fun _ => fun
  | [d1, d2] => { results := [.lit (.bool true)], args := [d1, d2] }
  | _ => none }
def coilsReadsRow : OpenClaim := { program := "ytggiobdjepgkfaa", sum := "910af18efb17a72db535bca7ac20aff6fed4e08ace1e9c1273c0fbf736d14ada", func := "busbar/busbarlaw08.CoilsReads", spec := "coilsReads", unfollowed := true, recurses := true, apart := false }
def CoilsReadsSaid : Prop := coilsReadsRow.holds Try.pinned (OpenSpec.ofChange coilsReadsSpec)

/-- ITS FALSE NEIGHBOUR: 'it returns false'. Refute it at one input. -/
def coilsReadsWrong : ChangeSpec := { name := "coilsReads", fn := fun _ => fun
  | [d1, d2] => { results := [.lit (.bool false)], args := [d1, d2] }
  | _ => none }
def CoilsReadsWrongFalsely : Prop := coilsReadsRow.holds Try.pinned (OpenSpec.ofChange coilsReadsWrong)

/-- 'busbarlaw08.CoilsTold': WHATEVER THE INPUT: true; the input reads as it did. -/
def coilsToldSpec : ChangeSpec := { name := "coilsTold", fn := fun _ => fun
  | [d] => { results := [.lit (.bool true)], args := [d] }
  | _ => none }
def coilsToldRow : OpenClaim := { program := "ytggiobdjepgkfaa", sum := "910af18efb17a72db535bca7ac20aff6fed4e08ace1e9c1273c0fbf736d14ada", func := "busbar/busbarlaw08.CoilsTold", spec := "coilsTold", unfollowed := true, recurses := true, apart := false }
def CoilsToldSaid : Prop := coilsToldRow.holds Try.pinned (OpenSpec.ofChange coilsToldSpec)

/-- ITS FALSE NEIGHBOUR: 'it returns false'. Refute it at one input. -/
def coilsToldWrong : ChangeSpec := { name := "coilsTold", fn := fun _ => fun
  | [d] => { results := [.lit (.bool false)], args := [d] }
  | _ => none }
def CoilsToldWrongFalsely : Prop := coilsToldRow.holds Try.pinned (OpenSpec.ofChange coilsToldWrong)

/-- 'busbarlaw08.CoilsOne': WHATEVER THE INPUT: true; the input reads as it did. -/
def coilsOneSpec : ChangeSpec := { name := "coilsOne", fn := fun _ => fun
  | [d1, d2] => { results := [.lit (.bool true)], args := [d1, d2] }
  | _ => none }
def coilsOneRow : OpenClaim := { program := "ytggiobdjepgkfaa", sum := "910af18efb17a72db535bca7ac20aff6fed4e08ace1e9c1273c0fbf736d14ada", func := "busbar/busbarlaw08.CoilsOne", spec := "coilsOne", unfollowed := true, recurses := true, apart := false }
def CoilsOneSaid : Prop := coilsOneRow.holds Try.pinned (OpenSpec.ofChange coilsOneSpec)

/-- ITS FALSE NEIGHBOUR: 'it returns false'. Refute it at one input. -/
def coilsOneWrong : ChangeSpec := { name := "coilsOne", fn := fun _ => fun
  | [d1, d2] => { results := [.lit (.bool false)], args := [d1, d2] }
  | _ => none }
def CoilsOneWrongFalsely : Prop := coilsOneRow.holds Try.pinned (OpenSpec.ofChange coilsOneWrong)

/-- 'busbarlaw08.CoilsCuts': WHATEVER THE INPUT: true; the input reads as it did. -/
def coilsCutsSpec : ChangeSpec := { name := "coilsCuts", fn := fun _ => fun
  | [d1, d2, d3, d4] => { results := [.lit (.bool true)], args := [d1, d2, d3, d4] }
  | _ => none }
def coilsCutsRow : OpenClaim := { program := "ytggiobdjepgkfaa", sum := "910af18efb17a72db535bca7ac20aff6fed4e08ace1e9c1273c0fbf736d14ada", func := "busbar/busbarlaw08.CoilsCuts", spec := "coilsCuts", unfollowed := true, recurses := true, apart := false }
def CoilsCutsSaid : Prop := coilsCutsRow.holds Try.pinned (OpenSpec.ofChange coilsCutsSpec)

/-- ITS FALSE NEIGHBOUR: 'it returns false'. Refute it at one input. -/
def coilsCutsWrong : ChangeSpec := { name := "coilsCuts", fn := fun _ => fun
  | [d1, d2, d3, d4] => { results := [.lit (.bool false)], args := [d1, d2, d3, d4] }
  | _ => none }
def CoilsCutsWrongFalsely : Prop := coilsCutsRow.holds Try.pinned (OpenSpec.ofChange coilsCutsWrong)

/- THE SECOND FORM. 'bulk': how many values and letters a reading holds, each counted each time it is reached (what is shared counts as often as it is met; a slice's spare places count too). A statement '..UptoSaid' is the law's where the arguments, and the package variables that the reading takes, are together of bulk at most 1048576: NARROWER than '..Said'. Prove '..Said' where nothing that the law and all that it calls make is longer than what came in: it says more and counts as full. Else prove '..UptoSaid'. A law counts once. -/
mutual
def uptoBulk {H : Type} : DataW H → Nat
  | .lit (.string bytes) => bytes.length + 1
  | .lit _ => 1
  | .nil => 1
  | .ptr d => uptoBulk d + 1
  | .slice elems spare => uptoBulkAll elems + uptoBulkAll spare + 1
  | .agg parts => uptoBulkAll parts + 1
  | .iface _ d => uptoBulk d + 1
  | .map entries => uptoBulkEntries entries + 1
  | .held _ => 1
def uptoBulkAll {H : Type} : List (DataW H) → Nat
  | [] => 0
  | d :: r => uptoBulk d + uptoBulkAll r
def uptoBulkEntries {H : Type} : List (Lit × DataW H) → Nat
  | [] => 0
  | x :: r => uptoBulkEntry x + uptoBulkEntries r
def uptoBulkEntry {H : Type} : Lit × DataW H → Nat
  | (.string bytes, d) => bytes.length + uptoBulk d + 1
  | (_, d) => uptoBulk d + 1
 end
def uptoSmall : (H : Type) → List (DataW H) → Bool := fun _ ds => decide (uptoBulkAll ds ≤ 1048576)
def OpenSpec.upto (s : _root_.Go.ChangeSpec) : _root_.Go.OpenSpec := { _root_.Go.OpenSpec.ofChange s with cond := some uptoSmall }

/-- 'busbarlaw08.CoilsParses', WHERE WHAT IT READS IS OF BULK AT MOST 1048576: true; the input reads as it did. -/
def coilsParsesUptoRow : OpenClaim := { program := "ytggiobdjepgkfaa", sum := "910af18efb17a72db535bca7ac20aff6fed4e08ace1e9c1273c0fbf736d14ada", func := "busbar/busbarlaw08.CoilsParses", spec := "coilsParses", unfollowed := true, recurses := true, apart := false, narrowed := true }
def CoilsParsesUptoSaid : Prop := coilsParsesUptoRow.holds Try.pinned (OpenSpec.upto coilsParsesSpec)

/-- 'busbarlaw08.CoilsWrites', WHERE WHAT IT READS IS OF BULK AT MOST 1048576: true; the input reads as it did. -/
def coilsWritesUptoRow : OpenClaim := { program := "ytggiobdjepgkfaa", sum := "910af18efb17a72db535bca7ac20aff6fed4e08ace1e9c1273c0fbf736d14ada", func := "busbar/busbarlaw08.CoilsWrites", spec := "coilsWrites", unfollowed := true, recurses := true, apart := false, narrowed := true }
def CoilsWritesUptoSaid : Prop := coilsWritesUptoRow.holds Try.pinned (OpenSpec.upto coilsWritesSpec)

/-- 'busbarlaw08.CoilsBack', WHERE WHAT IT READS IS OF BULK AT MOST 1048576: true; the input reads as it did. -/
def coilsBackUptoRow : OpenClaim := { program := "ytggiobdjepgkfaa", sum := "910af18efb17a72db535bca7ac20aff6fed4e08ace1e9c1273c0fbf736d14ada", func := "busbar/busbarlaw08.CoilsBack", spec := "coilsBack", unfollowed := true, recurses := true, apart := false, narrowed := true }
def CoilsBackUptoSaid : Prop := coilsBackUptoRow.holds Try.pinned (OpenSpec.upto coilsBackSpec)

/-- 'busbarlaw08.CoilsCounts', WHERE WHAT IT READS IS OF BULK AT MOST 1048576: true; the input reads as it did. -/
def coilsCountsUptoRow : OpenClaim := { program := "ytggiobdjepgkfaa", sum := "910af18efb17a72db535bca7ac20aff6fed4e08ace1e9c1273c0fbf736d14ada", func := "busbar/busbarlaw08.CoilsCounts", spec := "coilsCounts", unfollowed := true, recurses := true, apart := false, narrowed := true }
def CoilsCountsUptoSaid : Prop := coilsCountsUptoRow.holds Try.pinned (OpenSpec.upto coilsCountsSpec)

/-- 'busbarlaw08.CoilsSets', WHERE WHAT IT READS IS OF BULK AT MOST 1048576: true; the input reads as it did. -/
def coilsSetsUptoRow : OpenClaim := { program := "ytggiobdjepgkfaa", sum := "910af18efb17a72db535bca7ac20aff6fed4e08ace1e9c1273c0fbf736d14ada", func := "busbar/busbarlaw08.CoilsSets", spec := "coilsSets", unfollowed := true, recurses := true, apart := false, narrowed := true }
def CoilsSetsUptoSaid : Prop := coilsSetsUptoRow.holds Try.pinned (OpenSpec.upto coilsSetsSpec)

/-- 'busbarlaw08.CoilsReads', WHERE WHAT IT READS IS OF BULK AT MOST 1048576: true; the input reads as it did. -/
def coilsReadsUptoRow : OpenClaim := { program := "ytggiobdjepgkfaa", sum := "910af18efb17a72db535bca7ac20aff6fed4e08ace1e9c1273c0fbf736d14ada", func := "busbar/busbarlaw08.CoilsReads", spec := "coilsReads", unfollowed := true, recurses := true, apart := false, narrowed := true }
def CoilsReadsUptoSaid : Prop := coilsReadsUptoRow.holds Try.pinned (OpenSpec.upto coilsReadsSpec)

/-- 'busbarlaw08.CoilsTold', WHERE WHAT IT READS IS OF BULK AT MOST 1048576: true; the input reads as it did. -/
def coilsToldUptoRow : OpenClaim := { program := "ytggiobdjepgkfaa", sum := "910af18efb17a72db535bca7ac20aff6fed4e08ace1e9c1273c0fbf736d14ada", func := "busbar/busbarlaw08.CoilsTold", spec := "coilsTold", unfollowed := true, recurses := true, apart := false, narrowed := true }
def CoilsToldUptoSaid : Prop := coilsToldUptoRow.holds Try.pinned (OpenSpec.upto coilsToldSpec)

/-- 'busbarlaw08.CoilsOne', WHERE WHAT IT READS IS OF BULK AT MOST 1048576: true; the input reads as it did. -/
def coilsOneUptoRow : OpenClaim := { program := "ytggiobdjepgkfaa", sum := "910af18efb17a72db535bca7ac20aff6fed4e08ace1e9c1273c0fbf736d14ada", func := "busbar/busbarlaw08.CoilsOne", spec := "coilsOne", unfollowed := true, recurses := true, apart := false, narrowed := true }
def CoilsOneUptoSaid : Prop := coilsOneUptoRow.holds Try.pinned (OpenSpec.upto coilsOneSpec)

/-- 'busbarlaw08.CoilsCuts', WHERE WHAT IT READS IS OF BULK AT MOST 1048576: true; the input reads as it did. -/
def coilsCutsUptoRow : OpenClaim := { program := "ytggiobdjepgkfaa", sum := "910af18efb17a72db535bca7ac20aff6fed4e08ace1e9c1273c0fbf736d14ada", func := "busbar/busbarlaw08.CoilsCuts", spec := "coilsCuts", unfollowed := true, recurses := true, apart := false, narrowed := true }
def CoilsCutsUptoSaid : Prop := coilsCutsUptoRow.holds Try.pinned (OpenSpec.upto coilsCutsSpec)

end Rows
end Go.Proofs.Ytggiobdjepgkfaa
