/-
  No cell of these rows narrows 'for every input' (looked for: loops, veiled, ifaces, maps, wideKeys, modest, calm, conditions, laid).
  DERIVED. THE GIVEN ROWS OF THIS SEAT. 5 by the template 'for every input the law returns true; each argument reads behind the call as it read before'; 0 by the template 'total and deterministic' (their statements: YthhkjmoppaopjaaTotals.lean).
  GIVEN WITH THE SEED: the statements are not yours to turn. If you find one false, say at which input.
  Laid BY PROGRAM, IN A SANDBOX (cutbox-rows.mjs): the forced cells as the released guide's own fill.sh prints them over the translation 40638e1b8b77dd5b… (all of the seat's roots in one cut). By AI agents, Wed Nov 11 2026. No macro, syntax, notation, axiom, sorry.
-/
import Derived.Test.YthhkjmoppaopjaaChecked
import GoSem.Claim
import GoSem.ClaimJoined
import GoSem.ClaimMapViews
import Derived.JoinedTies
import Derived.KernelRfl
namespace Go.Proofs.Ythhkjmoppaopjaa
/- THE CELL 'sum', in the pinned program and in every row, IS THE sha256 OF THE DUMP (.gsa) THAT YthhkjmoppaopjaaProg.lean LOADS. Nothing in Lean hashes anything: it is a label: what it is worth is what the hold of that sum in a sandbox is worth. -/
noncomputable def Try.pinned : Pinned := { name := "ythhkjmoppaopjaa", sum := "40638e1b8b77dd5b74a610808a1e6c243dcb55dcf1ed1911a7508b928673f176", checked := Try.checked }
namespace Rows
def none {H : Type} : Left H := { results := [], args := [] }

/-- 'busbarlaw06.CursorParts': WHATEVER THE INPUT: true; the input reads as it did. -/
def cursorPartsSpec : ChangeSpec := { name := "cursorParts", fn := fun _ => fun
  | [d1, d2] => { results := [.lit (.bool true)], args := [d1, d2] }
  | _ => none }
def cursorPartsRow : OpenClaim := { program := "ythhkjmoppaopjaa", sum := "40638e1b8b77dd5b74a610808a1e6c243dcb55dcf1ed1911a7508b928673f176", func := "busbar/busbarlaw06.CursorParts", spec := "cursorParts", unfollowed := true, recurses := true, apart := false }
def CursorPartsSaid : Prop := cursorPartsRow.holds Try.pinned (OpenSpec.ofChange cursorPartsSpec)

/-- ITS FALSE NEIGHBOUR: 'it returns false'. Refute it at one input. -/
def cursorPartsWrong : ChangeSpec := { name := "cursorParts", fn := fun _ => fun
  | [d1, d2] => { results := [.lit (.bool false)], args := [d1, d2] }
  | _ => none }
def CursorPartsWrongFalsely : Prop := cursorPartsRow.holds Try.pinned (OpenSpec.ofChange cursorPartsWrong)

/-- 'busbarlaw06.CursorWords': WHATEVER THE INPUT: true; the input reads as it did. -/
def cursorWordsSpec : ChangeSpec := { name := "cursorWords", fn := fun _ => fun
  | [d1, d2] => { results := [.lit (.bool true)], args := [d1, d2] }
  | _ => none }
def cursorWordsRow : OpenClaim := { program := "ythhkjmoppaopjaa", sum := "40638e1b8b77dd5b74a610808a1e6c243dcb55dcf1ed1911a7508b928673f176", func := "busbar/busbarlaw06.CursorWords", spec := "cursorWords", unfollowed := true, recurses := true, apart := false }
def CursorWordsSaid : Prop := cursorWordsRow.holds Try.pinned (OpenSpec.ofChange cursorWordsSpec)

/-- ITS FALSE NEIGHBOUR: 'it returns false'. Refute it at one input. -/
def cursorWordsWrong : ChangeSpec := { name := "cursorWords", fn := fun _ => fun
  | [d1, d2] => { results := [.lit (.bool false)], args := [d1, d2] }
  | _ => none }
def CursorWordsWrongFalsely : Prop := cursorWordsRow.holds Try.pinned (OpenSpec.ofChange cursorWordsWrong)

/-- 'busbarlaw06.CursorFirst': WHATEVER THE INPUT: true; the input reads as it did. -/
def cursorFirstSpec : ChangeSpec := { name := "cursorFirst", fn := fun _ => fun
  | [d1, d2, d3, d4] => { results := [.lit (.bool true)], args := [d1, d2, d3, d4] }
  | _ => none }
def cursorFirstRow : OpenClaim := { program := "ythhkjmoppaopjaa", sum := "40638e1b8b77dd5b74a610808a1e6c243dcb55dcf1ed1911a7508b928673f176", func := "busbar/busbarlaw06.CursorFirst", spec := "cursorFirst", unfollowed := true, recurses := true, apart := false }
def CursorFirstSaid : Prop := cursorFirstRow.holds Try.pinned (OpenSpec.ofChange cursorFirstSpec)

/-- ITS FALSE NEIGHBOUR: 'it returns false'. Refute it at one input. -/
def cursorFirstWrong : ChangeSpec := { name := "cursorFirst", fn := fun _ => fun
  | [d1, d2, d3, d4] => { results := [.lit (.bool false)], args := [d1, d2, d3, d4] }
  | _ => none }
def CursorFirstWrongFalsely : Prop := cursorFirstRow.holds Try.pinned (OpenSpec.ofChange cursorFirstWrong)

/-- 'busbarlaw06.CursorShort': WHATEVER THE INPUT: true; the input reads as it did. -/
def cursorShortSpec : ChangeSpec := { name := "cursorShort", fn := fun _ => fun
  | [d1, d2, d3] => { results := [.lit (.bool true)], args := [d1, d2, d3] }
  | _ => none }
def cursorShortRow : OpenClaim := { program := "ythhkjmoppaopjaa", sum := "40638e1b8b77dd5b74a610808a1e6c243dcb55dcf1ed1911a7508b928673f176", func := "busbar/busbarlaw06.CursorShort", spec := "cursorShort", unfollowed := true, recurses := true, apart := false }
def CursorShortSaid : Prop := cursorShortRow.holds Try.pinned (OpenSpec.ofChange cursorShortSpec)

/-- ITS FALSE NEIGHBOUR: 'it returns false'. Refute it at one input. -/
def cursorShortWrong : ChangeSpec := { name := "cursorShort", fn := fun _ => fun
  | [d1, d2, d3] => { results := [.lit (.bool false)], args := [d1, d2, d3] }
  | _ => none }
def CursorShortWrongFalsely : Prop := cursorShortRow.holds Try.pinned (OpenSpec.ofChange cursorShortWrong)

/-- 'busbarlaw06.CursorReads': WHATEVER THE INPUT: true; the input reads as it did. -/
def cursorReadsSpec : ChangeSpec := { name := "cursorReads", fn := fun _ => fun
  | [d1, d2] => { results := [.lit (.bool true)], args := [d1, d2] }
  | _ => none }
def cursorReadsRow : OpenClaim := { program := "ythhkjmoppaopjaa", sum := "40638e1b8b77dd5b74a610808a1e6c243dcb55dcf1ed1911a7508b928673f176", func := "busbar/busbarlaw06.CursorReads", spec := "cursorReads", unfollowed := true, recurses := true, apart := false }
def CursorReadsSaid : Prop := cursorReadsRow.holds Try.pinned (OpenSpec.ofChange cursorReadsSpec)

/-- ITS FALSE NEIGHBOUR: 'it returns false'. Refute it at one input. -/
def cursorReadsWrong : ChangeSpec := { name := "cursorReads", fn := fun _ => fun
  | [d1, d2] => { results := [.lit (.bool false)], args := [d1, d2] }
  | _ => none }
def CursorReadsWrongFalsely : Prop := cursorReadsRow.holds Try.pinned (OpenSpec.ofChange cursorReadsWrong)

/- THE SECOND FORM. 'bulk': how many values and letters a reading holds, each counted each time it is reached (what is shared counts as often as it is met; a slice's spare places count too). A statement '..UptoSaid' is the law's where the arguments, and the package variables that the reading takes, are together of bulk at most 1048576: NARROWER than '..Said'. Prove '..Said' where nothing that the law and all that it calls make is longer than what came in: it says more and counts as full. Else prove '..UptoSaid'. A law counts once. -/
mutual
def uptoBulk {H : Type} : DataW H → Nat
  | .lit (.string bytes) => bytes.length + 1
  | .lit _ => 1
  | .nil => 1
  | .ptr d => uptoBulk d + 1
  | .slice elems spare => uptoBulkAll elems + uptoBulkAll spare + 1
  | .agg parts => uptoBulkAll parts + 1
  | .iface _ d => uptoBulk d + 1
  | .map entries => uptoBulkEntries entries + 1
  | .held _ => 1
def uptoBulkAll {H : Type} : List (DataW H) → Nat
  | [] => 0
  | d :: r => uptoBulk d + uptoBulkAll r
def uptoBulkEntries {H : Type} : List (Lit × DataW H) → Nat
  | [] => 0
  | x :: r => uptoBulkEntry x + uptoBulkEntries r
def uptoBulkEntry {H : Type} : Lit × DataW H → Nat
  | (.string bytes, d) => bytes.length + uptoBulk d + 1
  | (_, d) => uptoBulk d + 1
 end
def uptoSmall : (H : Type) → List (DataW H) → Bool := fun _ ds => decide (uptoBulkAll ds ≤ 1048576)
def OpenSpec.upto (s : _root_.Go.ChangeSpec) : _root_.Go.OpenSpec := { _root_.Go.OpenSpec.ofChange s with cond := some uptoSmall }

/-- 'busbarlaw06.CursorParts', WHERE WHAT IT READS IS OF BULK AT MOST 1048576: true; the input reads as it did. -/
def cursorPartsUptoRow : OpenClaim := { program := "ythhkjmoppaopjaa", sum := "40638e1b8b77dd5b74a610808a1e6c243dcb55dcf1ed1911a7508b928673f176", func := "busbar/busbarlaw06.CursorParts", spec := "cursorParts", unfollowed := true, recurses := true, apart := false, narrowed := true }
def CursorPartsUptoSaid : Prop := cursorPartsUptoRow.holds Try.pinned (OpenSpec.upto cursorPartsSpec)

/-- 'busbarlaw06.CursorWords', WHERE WHAT IT READS IS OF BULK AT MOST 1048576: true; the input reads as it did. -/
def cursorWordsUptoRow : OpenClaim := { program := "ythhkjmoppaopjaa", sum := "40638e1b8b77dd5b74a610808a1e6c243dcb55dcf1ed1911a7508b928673f176", func := "busbar/busbarlaw06.CursorWords", spec := "cursorWords", unfollowed := true, recurses := true, apart := false, narrowed := true }
def CursorWordsUptoSaid : Prop := cursorWordsUptoRow.holds Try.pinned (OpenSpec.upto cursorWordsSpec)

/-- 'busbarlaw06.CursorFirst', WHERE WHAT IT READS IS OF BULK AT MOST 1048576: true; the input reads as it did. -/
def cursorFirstUptoRow : OpenClaim := { program := "ythhkjmoppaopjaa", sum := "40638e1b8b77dd5b74a610808a1e6c243dcb55dcf1ed1911a7508b928673f176", func := "busbar/busbarlaw06.CursorFirst", spec := "cursorFirst", unfollowed := true, recurses := true, apart := false, narrowed := true }
def CursorFirstUptoSaid : Prop := cursorFirstUptoRow.holds Try.pinned (OpenSpec.upto cursorFirstSpec)

/-- 'busbarlaw06.CursorShort', WHERE WHAT IT READS IS OF BULK AT MOST 1048576: true; the input reads as it did. -/
def cursorShortUptoRow : OpenClaim := { program := "ythhkjmoppaopjaa", sum := "40638e1b8b77dd5b74a610808a1e6c243dcb55dcf1ed1911a7508b928673f176", func := "busbar/busbarlaw06.CursorShort", spec := "cursorShort", unfollowed := true, recurses := true, apart := false, narrowed := true }
def CursorShortUptoSaid : Prop := cursorShortUptoRow.holds Try.pinned (OpenSpec.upto cursorShortSpec)

/-- 'busbarlaw06.CursorReads', WHERE WHAT IT READS IS OF BULK AT MOST 1048576: true; the input reads as it did. -/
def cursorReadsUptoRow : OpenClaim := { program := "ythhkjmoppaopjaa", sum := "40638e1b8b77dd5b74a610808a1e6c243dcb55dcf1ed1911a7508b928673f176", func := "busbar/busbarlaw06.CursorReads", spec := "cursorReads", unfollowed := true, recurses := true, apart := false, narrowed := true }
def CursorReadsUptoSaid : Prop := cursorReadsUptoRow.holds Try.pinned (OpenSpec.upto cursorReadsSpec)

end Rows
end Go.Proofs.Ythhkjmoppaopjaa
