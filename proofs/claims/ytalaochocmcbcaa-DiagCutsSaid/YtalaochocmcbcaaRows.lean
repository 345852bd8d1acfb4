/-
  No cell of these rows narrows 'for every input' (looked for: loops, veiled, ifaces, maps, wideKeys, modest, calm, conditions, laid).
  DERIVED. THE GIVEN ROWS OF THIS SEAT. 8 by the template 'for every input the law returns true; each argument reads behind the call as it read before'; 0 by the template 'total and deterministic' (their statements: YtalaochocmcbcaaTotals.lean).
  GIVEN WITH THE SEED: the statements are not yours to turn. If you find one false, say at which input.
  Laid BY PROGRAM, IN A SANDBOX (cutbox-rows.mjs): the forced cells as the released guide's own fill.sh prints them over the translation 5eb46561f831372b… (all of the seat's roots in one cut). By AI agents, Wed Nov 11 2026. No macro, syntax, notation, axiom, sorry.
-/
import Derived.Test.YtalaochocmcbcaaChecked
import GoSem.Claim
import GoSem.ClaimJoined
import GoSem.ClaimMapViews
import Derived.JoinedTies
import Derived.KernelRfl
namespace Go.Proofs.Ytalaochocmcbcaa
/- THE CELL 'sum', in the pinned program and in every row, IS THE sha256 OF THE DUMP (.gsa) THAT YtalaochocmcbcaaProg.lean LOADS. Nothing in Lean hashes anything: it is a label: what it is worth is what the hold of that sum in a sandbox is worth. -/
noncomputable def Try.pinned : Pinned := { name := "ytalaochocmcbcaa", sum := "5eb46561f831372bbf3f4007dfce5e1e4e10bc5ccde964d4f54c2ce11f3bb313", checked := Try.checked }
namespace Rows
def none {H : Type} : Left H := { results := [], args := [] }

/-- 'busbarlaw10.DiagParses': WHATEVER THE INPUT: true; the input reads as it did. -/
def diagParsesSpec : ChangeSpec := { name := "diagParses", fn := fun _ => fun
  | [d1, d2, d3] => { results := [.lit (.bool true)], args := [d1, d2, d3] }
  | _ => none }
def diagParsesRow : OpenClaim := { program := "ytalaochocmcbcaa", sum := "5eb46561f831372bbf3f4007dfce5e1e4e10bc5ccde964d4f54c2ce11f3bb313", func := "busbar/busbarlaw10.DiagParses", spec := "diagParses", unfollowed := true, recurses := true, apart := false }
def DiagParsesSaid : Prop := diagParsesRow.holds Try.pinned (OpenSpec.ofChange diagParsesSpec)

/-- ITS FALSE NEIGHBOUR: 'it returns false'. Refute it at one input. -/
def diagParsesWrong : ChangeSpec := { name := "diagParses", fn := fun _ => fun
  | [d1, d2, d3] => { results := [.lit (.bool false)], args := [d1, d2, d3] }
  | _ => none }
def DiagParsesWrongFalsely : Prop := diagParsesRow.holds Try.pinned (OpenSpec.ofChange diagParsesWrong)

/-- 'busbarlaw10.DiagWrites': WHATEVER THE INPUT: true; the input reads as it did. -/
def diagWritesSpec : ChangeSpec := { name := "diagWrites", fn := fun _ => fun
  | [d1, d2] => { results := [.lit (.bool true)], args := [d1, d2] }
  | _ => none }
def diagWritesRow : OpenClaim := { program := "ytalaochocmcbcaa", sum := "5eb46561f831372bbf3f4007dfce5e1e4e10bc5ccde964d4f54c2ce11f3bb313", func := "busbar/busbarlaw10.DiagWrites", spec := "diagWrites", unfollowed := true, recurses := true, apart := false }
def DiagWritesSaid : Prop := diagWritesRow.holds Try.pinned (OpenSpec.ofChange diagWritesSpec)

/-- ITS FALSE NEIGHBOUR: 'it returns false'. Refute it at one input. -/
def diagWritesWrong : ChangeSpec := { name := "diagWrites", fn := fun _ => fun
  | [d1, d2] => { results := [.lit (.bool false)], args := [d1, d2] }
  | _ => none }
def DiagWritesWrongFalsely : Prop := diagWritesRow.holds Try.pinned (OpenSpec.ofChange diagWritesWrong)

/-- 'busbarlaw10.DiagBack': WHATEVER THE INPUT: true; the input reads as it did. -/
def diagBackSpec : ChangeSpec := { name := "diagBack", fn := fun _ => fun
  | [d1, d2, d3, d4] => { results := [.lit (.bool true)], args := [d1, d2, d3, d4] }
  | _ => none }
def diagBackRow : OpenClaim := { program := "ytalaochocmcbcaa", sum := "5eb46561f831372bbf3f4007dfce5e1e4e10bc5ccde964d4f54c2ce11f3bb313", func := "busbar/busbarlaw10.DiagBack", spec := "diagBack", unfollowed := true, recurses := true, apart := false }
def DiagBackSaid : Prop := diagBackRow.holds Try.pinned (OpenSpec.ofChange diagBackSpec)

/-- ITS FALSE NEIGHBOUR: 'it returns false'. Refute it at one input. -/
def diagBackWrong : ChangeSpec := { name := "diagBack", fn := fun _ => fun
  | [d1, d2, d3, d4] => { results := [.lit (.bool false)], args := [d1, d2, d3, d4] }
  | _ => none }
def DiagBackWrongFalsely : Prop := diagBackRow.holds Try.pinned (OpenSpec.ofChange diagBackWrong)

/-- 'busbarlaw10.DiagEchoes': WHATEVER THE INPUT: true; the input reads as it did. -/
def diagEchoesSpec : ChangeSpec := { name := "diagEchoes", fn := fun _ => fun
  | [d1, d2] => { results := [.lit (.bool true)], args := [d1, d2] }
  | _ => none }
def diagEchoesRow : OpenClaim := { program := "ytalaochocmcbcaa", sum := "5eb46561f831372bbf3f4007dfce5e1e4e10bc5ccde964d4f54c2ce11f3bb313", func := "busbar/busbarlaw10.DiagEchoes", spec := "diagEchoes", unfollowed := true, recurses := true, apart := false }
def DiagEchoesSaid : Prop := diagEchoesRow.holds Try.pinned (OpenSpec.ofChange diagEchoesSpec)

/-- ITS FALSE NEIGHBOUR: 'it returns false'. Refute it at one input. -/
def diagEchoesWrong : ChangeSpec := { name := "diagEchoes", fn := fun _ => fun
  | [d1, d2] => { results := [.lit (.bool false)], args := [d1, d2] }
  | _ => none }
def DiagEchoesWrongFalsely : Prop := diagEchoesRow.holds Try.pinned (OpenSpec.ofChange diagEchoesWrong)

/-- 'busbarlaw10.DiagAsks': WHATEVER THE INPUT: true; the input reads as it did. -/
def diagAsksSpec : ChangeSpec := { name := "diagAsks", fn := fun _ => fun
  | [d1, d2] => { results := [.lit (.bool true)], args := [d1, d2] }
  | _ => none }
def diagAsksRow : OpenClaim := { program := "ytalaochocmcbcaa", sum := "5eb46561f831372bbf3f4007dfce5e1e4e10bc5ccde964d4f54c2ce11f3bb313", func := "busbar/busbarlaw10.DiagAsks", spec := "diagAsks", unfollowed := true, recurses := true, apart := false }
def DiagAsksSaid : Prop := diagAsksRow.holds Try.pinned (OpenSpec.ofChange diagAsksSpec)

/-- ITS FALSE NEIGHBOUR: 'it returns false'. Refute it at one input. -/
def diagAsksWrong : ChangeSpec := { name := "diagAsks", fn := fun _ => fun
  | [d1, d2] => { results := [.lit (.bool false)], args := [d1, d2] }
  | _ => none }
def DiagAsksWrongFalsely : Prop := diagAsksRow.holds Try.pinned (OpenSpec.ofChange diagAsksWrong)

/-- 'busbarlaw10.DiagTells': WHATEVER THE INPUT: true; the input reads as it did. -/
def diagTellsSpec : ChangeSpec := { name := "diagTells", fn := fun _ => fun
  | [d1, d2, d3, d4] => { results := [.lit (.bool true)], args := [d1, d2, d3, d4] }
  | _ => none }
def diagTellsRow : OpenClaim := { program := "ytalaochocmcbcaa", sum := "5eb46561f831372bbf3f4007dfce5e1e4e10bc5ccde964d4f54c2ce11f3bb313", func := "busbar/busbarlaw10.DiagTells", spec := "diagTells", unfollowed := true, recurses := true, apart := false }
def DiagTellsSaid : Prop := diagTellsRow.holds Try.pinned (OpenSpec.ofChange diagTellsSpec)

/-- ITS FALSE NEIGHBOUR: 'it returns false'. Refute it at one input. -/
def diagTellsWrong : ChangeSpec := { name := "diagTells", fn := fun _ => fun
  | [d1, d2, d3, d4] => { results := [.lit (.bool false)], args := [d1, d2, d3, d4] }
  | _ => none }
def DiagTellsWrongFalsely : Prop := diagTellsRow.holds Try.pinned (OpenSpec.ofChange diagTellsWrong)

/-- 'busbarlaw10.DiagSubs': WHATEVER THE INPUT: true; the input reads as it did. -/
def diagSubsSpec : ChangeSpec := { name := "diagSubs", fn := fun _ => fun
  | [d1, d2] => { results := [.lit (.bool true)], args := [d1, d2] }
  | _ => none }
def diagSubsRow : OpenClaim := { program := "ytalaochocmcbcaa", sum := "5eb46561f831372bbf3f4007dfce5e1e4e10bc5ccde964d4f54c2ce11f3bb313", func := "busbar/busbarlaw10.DiagSubs", spec := "diagSubs", unfollowed := true, recurses := true, apart := false }
def DiagSubsSaid : Prop := diagSubsRow.holds Try.pinned (OpenSpec.ofChange diagSubsSpec)

/-- ITS FALSE NEIGHBOUR: 'it returns false'. Refute it at one input. -/
def diagSubsWrong : ChangeSpec := { name := "diagSubs", fn := fun _ => fun
  | [d1, d2] => { results := [.lit (.bool false)], args := [d1, d2] }
  | _ => none }
def DiagSubsWrongFalsely : Prop := diagSubsRow.holds Try.pinned (OpenSpec.ofChange diagSubsWrong)

/-- 'busbarlaw10.DiagCuts': WHATEVER THE INPUT: true; the input reads as it did. -/
def diagCutsSpec : ChangeSpec := { name := "diagCuts", fn := fun _ => fun
  | [d1, d2, d3, d4] => { results := [.lit (.bool true)], args := [d1, d2, d3, d4] }
  | _ => none }
def diagCutsRow : OpenClaim := { program := "ytalaochocmcbcaa", sum := "5eb46561f831372bbf3f4007dfce5e1e4e10bc5ccde964d4f54c2ce11f3bb313", func := "busbar/busbarlaw10.DiagCuts", spec := "diagCuts", unfollowed := true, recurses := true, apart := false }
def DiagCutsSaid : Prop := diagCutsRow.holds Try.pinned (OpenSpec.ofChange diagCutsSpec)

/-- ITS FALSE NEIGHBOUR: 'it returns false'. Refute it at one input. -/
def diagCutsWrong : ChangeSpec := { name := "diagCuts", fn := fun _ => fun
  | [d1, d2, d3, d4] => { results := [.lit (.bool false)], args := [d1, d2, d3, d4] }
  | _ => none }
def DiagCutsWrongFalsely : Prop := diagCutsRow.holds Try.pinned (OpenSpec.ofChange diagCutsWrong)

/- THE SECOND FORM. 'bulk': how many values and letters a reading holds, each counted each time it is reached (what is shared counts as often as it is met; a slice's spare places count too). A statement '..UptoSaid' is the law's where the arguments, and the package variables that the reading takes, are together of bulk at most 1048576: NARROWER than '..Said'. Prove '..Said' where nothing that the law and all that it calls make is longer than what came in: it says more and counts as full. Else prove '..UptoSaid'. A law counts once. -/
mutual
def uptoBulk {H : Type} : DataW H → Nat
  | .lit (.string bytes) => bytes.length + 1
  | .lit _ => 1
  | .nil => 1
  | .ptr d => uptoBulk d + 1
  | .slice elems spare => uptoBulkAll elems + uptoBulkAll spare + 1
  | .agg parts => uptoBulkAll parts + 1
  | .iface _ d => uptoBulk d + 1
  | .map entries => uptoBulkEntries entries + 1
  | .held _ => 1
def uptoBulkAll {H : Type} : List (DataW H) → Nat
  | [] => 0
  | d :: r => uptoBulk d + uptoBulkAll r
def uptoBulkEntries {H : Type} : List (Lit × DataW H) → Nat
  | [] => 0
  | x :: r => uptoBulkEntry x + uptoBulkEntries r
def uptoBulkEntry {H : Type} : Lit × DataW H → Nat
  | (.string bytes, d) => bytes.length + uptoBulk d + 1
  | (_, d) => uptoBulk d + 1
 end
def uptoSmall : (H : Type) → List (DataW H) → Bool := fun _ ds => decide (uptoBulkAll ds ≤ 1048576)
def OpenSpec.upto (s : _root_.Go.ChangeSpec) : _root_.Go.OpenSpec := { _root_.Go.OpenSpec.ofChange s with cond := some uptoSmall }

/-- 'busbarlaw10.DiagParses', WHERE WHAT IT READS IS OF BULK AT MOST 1048576: true; the input reads as it did. -/
def diagParsesUptoRow : OpenClaim := { program := "ytalaochocmcbcaa", sum := "5eb46561f831372bbf3f4007dfce5e1e4e10bc5ccde964d4f54c2ce11f3bb313", func := "busbar/busbarlaw10.DiagParses", spec := "diagParses", unfollowed := true, recurses := true, apart := false, narrowed := true }
def DiagParsesUptoSaid : Prop := diagParsesUptoRow.holds Try.pinned (OpenSpec.upto diagParsesSpec)

/-- 'busbarlaw10.DiagWrites', WHERE WHAT IT READS IS OF BULK AT MOST 1048576: true; the input reads as it did. -/
def diagWritesUptoRow : OpenClaim := { program := "ytalaochocmcbcaa", sum := "5eb46561f831372bbf3f4007dfce5e1e4e10bc5ccde964d4f54c2ce11f3bb313", func := "busbar/busbarlaw10.DiagWrites", spec := "diagWrites", unfollowed := true, recurses := true, apart := false, narrowed := true }
def DiagWritesUptoSaid : Prop := diagWritesUptoRow.holds Try.pinned (OpenSpec.upto diagWritesSpec)

/-- 'busbarlaw10.DiagBack', WHERE WHAT IT READS IS OF BULK AT MOST 1048576: true; the input reads as it did. -/
def diagBackUptoRow : OpenClaim := { program := "ytalaochocmcbcaa", sum := "5eb46561f831372bbf3f4007dfce5e1e4e10bc5ccde964d4f54c2ce11f3bb313", func := "busbar/busbarlaw10.DiagBack", spec := "diagBack", unfollowed := true, recurses := true, apart := false, narrowed := true }
def DiagBackUptoSaid : Prop := diagBackUptoRow.holds Try.pinned (OpenSpec.upto diagBackSpec)

/-- 'busbarlaw10.DiagEchoes', WHERE WHAT IT READS IS OF BULK AT MOST 1048576: true; the input reads as it did. -/
def diagEchoesUptoRow : OpenClaim := { program := "ytalaochocmcbcaa", sum := "5eb46561f831372bbf3f4007dfce5e1e4e10bc5ccde964d4f54c2ce11f3bb313", func := "busbar/busbarlaw10.DiagEchoes", spec := "diagEchoes", unfollowed := true, recurses := true, apart := false, narrowed := true }
def DiagEchoesUptoSaid : Prop := diagEchoesUptoRow.holds Try.pinned (OpenSpec.upto diagEchoesSpec)

/-- 'busbarlaw10.DiagAsks', WHERE WHAT IT READS IS OF BULK AT MOST 1048576: true; the input reads as it did. -/
def diagAsksUptoRow : OpenClaim := { program := "ytalaochocmcbcaa", sum := "5eb46561f831372bbf3f4007dfce5e1e4e10bc5ccde964d4f54c2ce11f3bb313", func := "busbar/busbarlaw10.DiagAsks", spec := "diagAsks", unfollowed := true, recurses := true, apart := false, narrowed := true }
def DiagAsksUptoSaid : Prop := diagAsksUptoRow.holds Try.pinned (OpenSpec.upto diagAsksSpec)

/-- 'busbarlaw10.DiagTells', WHERE WHAT IT READS IS OF BULK AT MOST 1048576: true; the input reads as it did. -/
def diagTellsUptoRow : OpenClaim := { program := "ytalaochocmcbcaa", sum := "5eb46561f831372bbf3f4007dfce5e1e4e10bc5ccde964d4f54c2ce11f3bb313", func := "busbar/busbarlaw10.DiagTells", spec := "diagTells", unfollowed := true, recurses := true, apart := false, narrowed := true }
def DiagTellsUptoSaid : Prop := diagTellsUptoRow.holds Try.pinned (OpenSpec.upto diagTellsSpec)

/-- 'busbarlaw10.DiagSubs', WHERE WHAT IT READS IS OF BULK AT MOST 1048576: true; the input reads as it did. -/
def diagSubsUptoRow : OpenClaim := { program := "ytalaochocmcbcaa", sum := "5eb46561f831372bbf3f4007dfce5e1e4e10bc5ccde964d4f54c2ce11f3bb313", func := "busbar/busbarlaw10.DiagSubs", spec := "diagSubs", unfollowed := true, recurses := true, apart := false, narrowed := true }
def DiagSubsUptoSaid : Prop := diagSubsUptoRow.holds Try.pinned (OpenSpec.upto diagSubsSpec)

/-- 'busbarlaw10.DiagCuts', WHERE WHAT IT READS IS OF BULK AT MOST 1048576: true; the input reads as it did. -/
def diagCutsUptoRow : OpenClaim := { program := "ytalaochocmcbcaa", sum := "5eb46561f831372bbf3f4007dfce5e1e4e10bc5ccde964d4f54c2ce11f3bb313", func := "busbar/busbarlaw10.DiagCuts", spec := "diagCuts", unfollowed := true, recurses := true, apart := false, narrowed := true }
def DiagCutsUptoSaid : Prop := diagCutsUptoRow.holds Try.pinned (OpenSpec.upto diagCutsSpec)

end Rows
end Go.Proofs.Ytalaochocmcbcaa
