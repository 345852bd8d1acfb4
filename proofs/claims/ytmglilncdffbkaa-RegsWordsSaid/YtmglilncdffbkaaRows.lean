/-
  No cell of these rows narrows 'for every input' (looked for: loops, veiled, ifaces, maps, wideKeys, modest, calm, conditions, laid).
  DERIVED. THE GIVEN ROWS OF THIS SEAT. 8 by the template 'for every input the law returns true; each argument reads behind the call as it read before'; 0 by the template 'total and deterministic' (their statements: YtmglilncdffbkaaTotals.lean).
  GIVEN WITH THE SEED: the statements are not yours to turn. If you find one false, say at which input.
  Laid BY PROGRAM, IN A SANDBOX (cutbox-rows.mjs): the forced cells as the released guide's own fill.sh prints them over the translation 6c2f43fb408dc851… (all of the seat's roots in one cut). By AI agents, Wed Nov 11 2026. No macro, syntax, notation, axiom, sorry.
-/
import Derived.Test.YtmglilncdffbkaaChecked
import GoSem.Claim
import GoSem.ClaimJoined
import GoSem.ClaimMapViews
import Derived.JoinedTies
import Derived.KernelRfl
namespace Go.Proofs.Ytmglilncdffbkaa
/- THE CELL 'sum', in the pinned program and in every row, IS THE sha256 OF THE DUMP (.gsa) THAT YtmglilncdffbkaaProg.lean LOADS. Nothing in Lean hashes anything: it is a label: what it is worth is what the hold of that sum in a sandbox is worth. -/
noncomputable def Try.pinned : Pinned := { name := "ytmglilncdffbkaa", sum := "6c2f43fb408dc851e4c634e71b522c7d5d6a1a740c26c03b02bf0719942861be", checked := Try.checked }
namespace Rows
def none {H : Type} : Left H := { results := [], args := [] }

/-- 'busbarlaw09.RegsParses': WHATEVER THE INPUT: true; the input reads as it did. -/
def regsParsesSpec : ChangeSpec := { name := "regsParses", fn := fun _ => fun
  | [d1, d2, d3] => { results := [.lit (.bool true)], args := [d1, d2, d3] }
  | _ => none }
def regsParsesRow : OpenClaim := { program := "ytmglilncdffbkaa", sum := "6c2f43fb408dc851e4c634e71b522c7d5d6a1a740c26c03b02bf0719942861be", func := "busbar/busbarlaw09.RegsParses", spec := "regsParses", unfollowed := true, recurses := true, apart := false }
def RegsParsesSaid : Prop := regsParsesRow.holds Try.pinned (OpenSpec.ofChange regsParsesSpec)

/-- ITS FALSE NEIGHBOUR: 'it returns false'. Refute it at one input. -/
def regsParsesWrong : ChangeSpec := { name := "regsParses", fn := fun _ => fun
  | [d1, d2, d3] => { results := [.lit (.bool false)], args := [d1, d2, d3] }
  | _ => none }
def RegsParsesWrongFalsely : Prop := regsParsesRow.holds Try.pinned (OpenSpec.ofChange regsParsesWrong)

/-- 'busbarlaw09.RegsWrites': WHATEVER THE INPUT: true; the input reads as it did. -/
def regsWritesSpec : ChangeSpec := { name := "regsWrites", fn := fun _ => fun
  | [d1, d2] => { results := [.lit (.bool true)], args := [d1, d2] }
  | _ => none }
def regsWritesRow : OpenClaim := { program := "ytmglilncdffbkaa", sum := "6c2f43fb408dc851e4c634e71b522c7d5d6a1a740c26c03b02bf0719942861be", func := "busbar/busbarlaw09.RegsWrites", spec := "regsWrites", unfollowed := true, recurses := true, apart := false }
def RegsWritesSaid : Prop := regsWritesRow.holds Try.pinned (OpenSpec.ofChange regsWritesSpec)

/-- ITS FALSE NEIGHBOUR: 'it returns false'. Refute it at one input. -/
def regsWritesWrong : ChangeSpec := { name := "regsWrites", fn := fun _ => fun
  | [d1, d2] => { results := [.lit (.bool false)], args := [d1, d2] }
  | _ => none }
def RegsWritesWrongFalsely : Prop := regsWritesRow.holds Try.pinned (OpenSpec.ofChange regsWritesWrong)

/-- 'busbarlaw09.RegsBack': WHATEVER THE INPUT: true; the input reads as it did. -/
def regsBackSpec : ChangeSpec := { name := "regsBack", fn := fun _ => fun
  | [d1, d2, d3, d4] => { results := [.lit (.bool true)], args := [d1, d2, d3, d4] }
  | _ => none }
def regsBackRow : OpenClaim := { program := "ytmglilncdffbkaa", sum := "6c2f43fb408dc851e4c634e71b522c7d5d6a1a740c26c03b02bf0719942861be", func := "busbar/busbarlaw09.RegsBack", spec := "regsBack", unfollowed := true, recurses := true, apart := false }
def RegsBackSaid : Prop := regsBackRow.holds Try.pinned (OpenSpec.ofChange regsBackSpec)

/-- ITS FALSE NEIGHBOUR: 'it returns false'. Refute it at one input. -/
def regsBackWrong : ChangeSpec := { name := "regsBack", fn := fun _ => fun
  | [d1, d2, d3, d4] => { results := [.lit (.bool false)], args := [d1, d2, d3, d4] }
  | _ => none }
def RegsBackWrongFalsely : Prop := regsBackRow.holds Try.pinned (OpenSpec.ofChange regsBackWrong)

/-- 'busbarlaw09.RegsCounts': WHATEVER THE INPUT: true; the input reads as it did. -/
def regsCountsSpec : ChangeSpec := { name := "regsCounts", fn := fun _ => fun
  | [d1, d2] => { results := [.lit (.bool true)], args := [d1, d2] }
  | _ => none }
def regsCountsRow : OpenClaim := { program := "ytmglilncdffbkaa", sum := "6c2f43fb408dc851e4c634e71b522c7d5d6a1a740c26c03b02bf0719942861be", func := "busbar/busbarlaw09.RegsCounts", spec := "regsCounts", unfollowed := true, recurses := true, apart := false }
def RegsCountsSaid : Prop := regsCountsRow.holds Try.pinned (OpenSpec.ofChange regsCountsSpec)

/-- ITS FALSE NEIGHBOUR: 'it returns false'. Refute it at one input. -/
def regsCountsWrong : ChangeSpec := { name := "regsCounts", fn := fun _ => fun
  | [d1, d2] => { results := [.lit (.bool false)], args := [d1, d2] }
  | _ => none }
def RegsCountsWrongFalsely : Prop := regsCountsRow.holds Try.pinned (OpenSpec.ofChange regsCountsWrong)

/-- 'busbarlaw09.RegsWords': WHATEVER THE INPUT: true; the input reads as it did. -/
def regsWordsSpec : ChangeSpec := { name := "regsWords", fn := fun _ => fun
  | [d] => { results := [.lit (.bool true)], args := [d] }
  | _ => none }
def regsWordsRow : OpenClaim := { program := "ytmglilncdffbkaa", sum := "6c2f43fb408dc851e4c634e71b522c7d5d6a1a740c26c03b02bf0719942861be", func := "busbar/busbarlaw09.RegsWords", spec := "regsWords", unfollowed := true, recurses := true, apart := false }
def RegsWordsSaid : Prop := regsWordsRow.holds Try.pinned (OpenSpec.ofChange regsWordsSpec)

/-- ITS FALSE NEIGHBOUR: 'it returns false'. Refute it at one input. -/
def regsWordsWrong : ChangeSpec := { name := "regsWords", fn := fun _ => fun
  | [d] => { results := [.lit (.bool false)], args := [d] }
  | _ => none }
def RegsWordsWrongFalsely : Prop := regsWordsRow.holds Try.pinned (OpenSpec.ofChange regsWordsWrong)

/-- 'busbarlaw09.RegsCuts': WHATEVER THE INPUT: true; the input reads as it did. -/
def regsCutsSpec : ChangeSpec := { name := "regsCuts", fn := fun _ => fun
  | [d1, d2, d3, d4] => { results := [.lit (.bool true)], args := [d1, d2, d3, d4] }
  | _ => none }
def regsCutsRow : OpenClaim := { program := "ytmglilncdffbkaa", sum := "6c2f43fb408dc851e4c634e71b522c7d5d6a1a740c26c03b02bf0719942861be", func := "busbar/busbarlaw09.RegsCuts", spec := "regsCuts", unfollowed := true, recurses := true, apart := false }
def RegsCutsSaid : Prop := regsCutsRow.holds Try.pinned (OpenSpec.ofChange regsCutsSpec)

/-- ITS FALSE NEIGHBOUR: 'it returns false'. Refute it at one input. -/
def regsCutsWrong : ChangeSpec := { name := "regsCuts", fn := fun _ => fun
  | [d1, d2, d3, d4] => { results := [.lit (.bool false)], args := [d1, d2, d3, d4] }
  | _ => none }
def RegsCutsWrongFalsely : Prop := regsCutsRow.holds Try.pinned (OpenSpec.ofChange regsCutsWrong)

/-- 'busbarlaw09.RegsOne': WHATEVER THE INPUT: true; the input reads as it did. -/
def regsOneSpec : ChangeSpec := { name := "regsOne", fn := fun _ => fun
  | [d1, d2, d3] => { results := [.lit (.bool true)], args := [d1, d2, d3] }
  | _ => none }
def regsOneRow : OpenClaim := { program := "ytmglilncdffbkaa", sum := "6c2f43fb408dc851e4c634e71b522c7d5d6a1a740c26c03b02bf0719942861be", func := "busbar/busbarlaw09.RegsOne", spec := "regsOne", unfollowed := true, recurses := true, apart := false }
def RegsOneSaid : Prop := regsOneRow.holds Try.pinned (OpenSpec.ofChange regsOneSpec)

/-- ITS FALSE NEIGHBOUR: 'it returns false'. Refute it at one input. -/
def regsOneWrong : ChangeSpec := { name := "regsOne", fn := fun _ => fun
  | [d1, d2, d3] => { results := [.lit (.bool false)], args := [d1, d2, d3] }
  | _ => none }
def RegsOneWrongFalsely : Prop := regsOneRow.holds Try.pinned (OpenSpec.ofChange regsOneWrong)

/-- 'busbarlaw09.RegsBoth': WHATEVER THE INPUT: true; the input reads as it did. -/
def regsBothSpec : ChangeSpec := { name := "regsBoth", fn := fun _ => fun
  | [d1, d2, d3, d4] => { results := [.lit (.bool true)], args := [d1, d2, d3, d4] }
  | _ => none }
def regsBothRow : OpenClaim := { program := "ytmglilncdffbkaa", sum := "6c2f43fb408dc851e4c634e71b522c7d5d6a1a740c26c03b02bf0719942861be", func := "busbar/busbarlaw09.RegsBoth", spec := "regsBoth", unfollowed := true, recurses := true, apart := false }
def RegsBothSaid : Prop := regsBothRow.holds Try.pinned (OpenSpec.ofChange regsBothSpec)

/-- ITS FALSE NEIGHBOUR: 'it returns false'. Refute it at one input. -/
def regsBothWrong : ChangeSpec := { name := "regsBoth", fn := fun _ => fun
  | [d1, d2, d3, d4] => { results := [.lit (.bool false)], args := [d1, d2, d3, d4] }
  | _ => none }
def RegsBothWrongFalsely : Prop := regsBothRow.holds Try.pinned (OpenSpec.ofChange regsBothWrong)

/- THE SECOND FORM. 'bulk': how many values and letters a reading holds, each counted each time it is reached (what is shared counts as often as it is met; a slice's spare places count too). A statement '..UptoSaid' is the law's where the arguments, and the package variables that the reading takes, are together of bulk at most 1048576: NARROWER than '..Said'. Prove '..Said' where nothing that the law and all that it calls make is longer than what came in: it says more and counts as full. Else prove '..UptoSaid'. A law counts once. -/
mutual
def uptoBulk {H : Type} : DataW H → Nat
  | .lit (.string bytes) => bytes.length + 1
  | .lit _ => 1
  | .nil => 1
  | .ptr d => uptoBulk d + 1
  | .slice elems spare => uptoBulkAll elems + uptoBulkAll spare + 1
  | .agg parts => uptoBulkAll parts + 1
  | .iface _ d => uptoBulk d + 1
  | .map entries => uptoBulkEntries entries + 1
  | .held _ => 1
def uptoBulkAll {H : Type} : List (DataW H) → Nat
  | [] => 0
  | d :: r => uptoBulk d + uptoBulkAll r
def uptoBulkEntries {H : Type} : List (Lit × DataW H) → Nat
  | [] => 0
  | x :: r => uptoBulkEntry x + uptoBulkEntries r
def uptoBulkEntry {H : Type} : Lit × DataW H → Nat
  | (.string bytes, d) => bytes.length + uptoBulk d + 1
  | (_, d) => uptoBulk d + 1
 end
def uptoSmall : (H : Type) → List (DataW H) → Bool := fun _ ds => decide (uptoBulkAll ds ≤ 1048576)
def OpenSpec.upto (s : _root_.Go.ChangeSpec) : _root_.Go.OpenSpec := { _root_.Go.OpenSpec.ofChange s with cond := some uptoSmall }

/-- 'busbarlaw09.RegsParses', WHERE WHAT IT READS IS OF BULK AT MOST 1048576: true; the input reads as it did. -/
def regsParsesUptoRow : OpenClaim := { program := "ytmglilncdffbkaa", sum := "6c2f43fb408dc851e4c634e71b522c7d5d6a1a740c26c03b02bf0719942861be", func := "busbar/busbarlaw09.RegsParses", spec := "regsParses", unfollowed := true, recurses := true, apart := false, narrowed := true }
def RegsParsesUptoSaid : Prop := regsParsesUptoRow.holds Try.pinned (OpenSpec.upto regsParsesSpec)

/-- 'busbarlaw09.RegsWrites', WHERE WHAT IT READS IS OF BULK AT MOST 1048576: true; the input reads as it did. -/
def regsWritesUptoRow : OpenClaim := { program := "ytmglilncdffbkaa", sum := "6c2f43fb408dc851e4c634e71b522c7d5d6a1a740c26c03b02bf0719942861be", func := "busbar/busbarlaw09.RegsWrites", spec := "regsWrites", unfollowed := true, recurses := true, apart := false, narrowed := true }
def RegsWritesUptoSaid : Prop := regsWritesUptoRow.holds Try.pinned (OpenSpec.upto regsWritesSpec)

/-- 'busbarlaw09.RegsBack', WHERE WHAT IT READS IS OF BULK AT MOST 1048576: true; the input reads as it did. -/
def regsBackUptoRow : OpenClaim := { program := "ytmglilncdffbkaa", sum := "6c2f43fb408dc851e4c634e71b522c7d5d6a1a740c26c03b02bf0719942861be", func := "busbar/busbarlaw09.RegsBack", spec := "regsBack", unfollowed := true, recurses := true, apart := false, narrowed := true }
def RegsBackUptoSaid : Prop := regsBackUptoRow.holds Try.pinned (OpenSpec.upto regsBackSpec)

/-- 'busbarlaw09.RegsCounts', WHERE WHAT IT READS IS OF BULK AT MOST 1048576: true; the input reads as it did. -/
def regsCountsUptoRow : OpenClaim := { program := "ytmglilncdffbkaa", sum := "6c2f43fb408dc851e4c634e71b522c7d5d6a1a740c26c03b02bf0719942861be", func := "busbar/busbarlaw09.RegsCounts", spec := "regsCounts", unfollowed := true, recurses := true, apart := false, narrowed := true }
def RegsCountsUptoSaid : Prop := regsCountsUptoRow.holds Try.pinned (OpenSpec.upto regsCountsSpec)

/-- 'busbarlaw09.RegsWords', WHERE WHAT IT READS IS OF BULK AT MOST 1048576: true; the input reads as it did. -/
def regsWordsUptoRow : OpenClaim := { program := "ytmglilncdffbkaa", sum := "6c2f43fb408dc851e4c634e71b522c7d5d6a1a740c26c03b02bf0719942861be", func := "busbar/busbarlaw09.RegsWords", spec := "regsWords", unfollowed := true, recurses := true, apart := false, narrowed := true }
def RegsWordsUptoSaid : Prop := regsWordsUptoRow.holds Try.pinned (OpenSpec.upto regsWordsSpec)

/-- 'busbarlaw09.RegsCuts', WHERE WHAT IT READS IS OF BULK AT MOST 1048576: true; the input reads as it did. -/
def regsCutsUptoRow : OpenClaim := { program := "ytmglilncdffbkaa", sum := "6c2f43fb408dc851e4c634e71b522c7d5d6a1a740c26c03b02bf0719942861be", func := "busbar/busbarlaw09.RegsCuts", spec := "regsCuts", unfollowed := true, recurses := true, apart := false, narrowed := true }
def RegsCutsUptoSaid : Prop := regsCutsUptoRow.holds Try.pinned (OpenSpec.upto regsCutsSpec)

/-- 'busbarlaw09.RegsOne', WHERE WHAT IT READS IS OF BULK AT MOST 1048576: true; the input reads as it did. -/
def regsOneUptoRow : OpenClaim := { program := "ytmglilncdffbkaa", sum := "6c2f43fb408dc851e4c634e71b522c7d5d6a1a740c26c03b02bf0719942861be", func := "busbar/busbarlaw09.RegsOne", spec := "regsOne", unfollowed := true, recurses := true, apart := false, narrowed := true }
def RegsOneUptoSaid : Prop := regsOneUptoRow.holds Try.pinned (OpenSpec.upto regsOneSpec)

/-- 'busbarlaw09.RegsBoth', WHERE WHAT IT READS IS OF BULK AT MOST 1048576: true; the input reads as it did. -/
def regsBothUptoRow : OpenClaim := { program := "ytmglilncdffbkaa", sum := "6c2f43fb408dc851e4c634e71b522c7d5d6a1a740c26c03b02bf0719942861be", func := "busbar/busbarlaw09.RegsBoth", spec := "regsBoth", unfollowed := true, recurses := true, apart := false, narrowed := true }
def RegsBothUptoSaid : Prop := regsBothUptoRow.holds Try.pinned (OpenSpec.upto regsBothSpec)

end Rows
end Go.Proofs.Ytmglilncdffbkaa
