/-
  No cell of these rows narrows 'for every input' (looked for: loops, veiled, ifaces, maps, wideKeys, modest, calm, conditions, laid).
  DERIVED. THE GIVEN ROWS OF THIS SEAT. 8 by the template 'for every input the law returns true; each argument reads behind the call as it read before'; 0 by the template 'total and deterministic' (their statements: YtdjeekpgcjcffaaTotals.lean).
  GIVEN WITH THE SEED: the statements are not yours to turn. If you find one false, say at which input.
  Laid BY PROGRAM, IN A SANDBOX (cutbox-rows.mjs): the forced cells as the released guide's own fill.sh prints them over the translation 67b3247f189eb668… (all of the seat's roots in one cut). By AI agents, Wed Nov 11 2026. No macro, syntax, notation, axiom, sorry.
-/
import Derived.Test.YtdjeekpgcjcffaaChecked
import GoSem.Claim
import GoSem.ClaimJoined
import GoSem.ClaimMapViews
import Derived.JoinedTies
import Derived.KernelRfl
namespace Go.Proofs.Ytdjeekpgcjcffaa
/- THE CELL 'sum', in the pinned program and in every row, IS THE sha256 OF THE DUMP (.gsa) THAT YtdjeekpgcjcffaaProg.lean LOADS. Nothing in Lean hashes anything: it is a label: what it is worth is what the hold of that sum in a sandbox is worth. -/
noncomputable def Try.pinned : Pinned := { name := "ytdjeekpgcjcffaa", sum := "67b3247f189eb668aff371a7298bd4be0f8c3679c1b57696cbab0c18f558e315", checked := Try.checked }
namespace Rows
def none {H : Type} : Left H := { results := [], args := [] }

/-- 'busbarlaw11.FilesParses': WHATEVER THE INPUT: true; the input reads as it did. -/
def filesParsesSpec : ChangeSpec := { name := "filesParses", fn := fun _ => fun
  | [d1, d2, d3] => { results := [.lit (.bool true)], args := [d1, d2, d3] }
  | _ => none }
def filesParsesRow : OpenClaim := { program := "ytdjeekpgcjcffaa", sum := "67b3247f189eb668aff371a7298bd4be0f8c3679c1b57696cbab0c18f558e315", func := "busbar/busbarlaw11.FilesParses", spec := "filesParses", unfollowed := true, recurses := true, apart := false }
def FilesParsesSaid : Prop := filesParsesRow.holds Try.pinned (OpenSpec.ofChange filesParsesSpec)

/-- ITS FALSE NEIGHBOUR: 'it returns false'. Refute it at one input. -/
def filesParsesWrong : ChangeSpec := { name := "filesParses", fn := fun _ => fun
  | [d1, d2, d3] => { results := [.lit (.bool false)], args := [d1, d2, d3] }
  | _ => none }
def FilesParsesWrongFalsely : Prop := filesParsesRow.holds Try.pinned (OpenSpec.ofChange filesParsesWrong)

/-- 'busbarlaw11.FilesWrites': WHATEVER THE INPUT: true; the input reads as it did. -/
def filesWritesSpec : ChangeSpec := { name := "filesWrites", fn := fun _ => fun
  | [d1, d2] => { results := [.lit (.bool true)], args := [d1, d2] }
  | _ => none }
def filesWritesRow : OpenClaim := { program := "ytdjeekpgcjcffaa", sum := "67b3247f189eb668aff371a7298bd4be0f8c3679c1b57696cbab0c18f558e315", func := "busbar/busbarlaw11.FilesWrites", spec := "filesWrites", unfollowed := true, recurses := true, apart := false }
def FilesWritesSaid : Prop := filesWritesRow.holds Try.pinned (OpenSpec.ofChange filesWritesSpec)

/-- ITS FALSE NEIGHBOUR: 'it returns false'. Refute it at one input. -/
def filesWritesWrong : ChangeSpec := { name := "filesWrites", fn := fun _ => fun
  | [d1, d2] => { results := [.lit (.bool false)], args := [d1, d2] }
  | _ => none }
def FilesWritesWrongFalsely : Prop := filesWritesRow.holds Try.pinned (OpenSpec.ofChange filesWritesWrong)

/-- 'busbarlaw11.FilesBack': WHATEVER THE INPUT: true; the input reads as it did. -/
def filesBackSpec : ChangeSpec := { name := "filesBack", fn := fun _ => fun
  | [d1, d2, d3, d4] => { results := [.lit (.bool true)], args := [d1, d2, d3, d4] }
  | _ => none }
def filesBackRow : OpenClaim := { program := "ytdjeekpgcjcffaa", sum := "67b3247f189eb668aff371a7298bd4be0f8c3679c1b57696cbab0c18f558e315", func := "busbar/busbarlaw11.FilesBack", spec := "filesBack", unfollowed := true, recurses := true, apart := false }
def FilesBackSaid : Prop := filesBackRow.holds Try.pinned (OpenSpec.ofChange filesBackSpec)

/-- ITS FALSE NEIGHBOUR: 'it returns false'. Refute it at one input. -/
def filesBackWrong : ChangeSpec := { name := "filesBack", fn := fun _ => fun
  | [d1, d2, d3, d4] => { results := [.lit (.bool false)], args := [d1, d2, d3, d4] }
  | _ => none }
def FilesBackWrongFalsely : Prop := filesBackRow.holds Try.pinned (OpenSpec.ofChange filesBackWrong)

/-- 'busbarlaw11.FilesFits': WHATEVER THE INPUT: true; the input reads as it did. -/
def filesFitsSpec : ChangeSpec := { name := "filesFits", fn := fun _ => fun
  | [d] => { results := [.lit (.bool true)], args := [d] }
  | _ => none }
def filesFitsRow : OpenClaim := { program := "ytdjeekpgcjcffaa", sum := "67b3247f189eb668aff371a7298bd4be0f8c3679c1b57696cbab0c18f558e315", func := "busbar/busbarlaw11.FilesFits", spec := "filesFits", unfollowed := true, recurses := true, apart := false }
def FilesFitsSaid : Prop := filesFitsRow.holds Try.pinned (OpenSpec.ofChange filesFitsSpec)

/-- ITS FALSE NEIGHBOUR: 'it returns false'. Refute it at one input. -/
def filesFitsWrong : ChangeSpec := { name := "filesFits", fn := fun _ => fun
  | [d] => { results := [.lit (.bool false)], args := [d] }
  | _ => none }
def FilesFitsWrongFalsely : Prop := filesFitsRow.holds Try.pinned (OpenSpec.ofChange filesFitsWrong)

/-- 'busbarlaw11.FilesEchoes': WHATEVER THE INPUT: true; the input reads as it did. -/
def filesEchoesSpec : ChangeSpec := { name := "filesEchoes", fn := fun _ => fun
  | [d] => { results := [.lit (.bool true)], args := [d] }
  | _ => none }
def filesEchoesRow : OpenClaim := { program := "ytdjeekpgcjcffaa", sum := "67b3247f189eb668aff371a7298bd4be0f8c3679c1b57696cbab0c18f558e315", func := "busbar/busbarlaw11.FilesEchoes", spec := "filesEchoes", unfollowed := true, recurses := true, apart := false }
def FilesEchoesSaid : Prop := filesEchoesRow.holds Try.pinned (OpenSpec.ofChange filesEchoesSpec)

/-- ITS FALSE NEIGHBOUR: 'it returns false'. Refute it at one input. -/
def filesEchoesWrong : ChangeSpec := { name := "filesEchoes", fn := fun _ => fun
  | [d] => { results := [.lit (.bool false)], args := [d] }
  | _ => none }
def FilesEchoesWrongFalsely : Prop := filesEchoesRow.holds Try.pinned (OpenSpec.ofChange filesEchoesWrong)

/-- 'busbarlaw11.FilesHeads': WHATEVER THE INPUT: true; the input reads as it did. -/
def filesHeadsSpec : ChangeSpec := { name := "filesHeads", fn := fun _ => fun
  | [d1, d2, d3] => { results := [.lit (.bool true)], args := [d1, d2, d3] }
  | _ => none }
def filesHeadsRow : OpenClaim := { program := "ytdjeekpgcjcffaa", sum := "67b3247f189eb668aff371a7298bd4be0f8c3679c1b57696cbab0c18f558e315", func := "busbar/busbarlaw11.FilesHeads", spec := "filesHeads", unfollowed := true, recurses := true, apart := false }
def FilesHeadsSaid : Prop := filesHeadsRow.holds Try.pinned (OpenSpec.ofChange filesHeadsSpec)

/-- ITS FALSE NEIGHBOUR: 'it returns false'. Refute it at one input. -/
def filesHeadsWrong : ChangeSpec := { name := "filesHeads", fn := fun _ => fun
  | [d1, d2, d3] => { results := [.lit (.bool false)], args := [d1, d2, d3] }
  | _ => none }
def FilesHeadsWrongFalsely : Prop := filesHeadsRow.holds Try.pinned (OpenSpec.ofChange filesHeadsWrong)

/-- 'busbarlaw11.FilesJoins': WHATEVER THE INPUT: true; the input reads as it did. -/
def filesJoinsSpec : ChangeSpec := { name := "filesJoins", fn := fun _ => fun
  | [d1, d2, d3] => { results := [.lit (.bool true)], args := [d1, d2, d3] }
  | _ => none }
def filesJoinsRow : OpenClaim := { program := "ytdjeekpgcjcffaa", sum := "67b3247f189eb668aff371a7298bd4be0f8c3679c1b57696cbab0c18f558e315", func := "busbar/busbarlaw11.FilesJoins", spec := "filesJoins", unfollowed := true, recurses := true, apart := false }
def FilesJoinsSaid : Prop := filesJoinsRow.holds Try.pinned (OpenSpec.ofChange filesJoinsSpec)

/-- ITS FALSE NEIGHBOUR: 'it returns false'. Refute it at one input. -/
def filesJoinsWrong : ChangeSpec := { name := "filesJoins", fn := fun _ => fun
  | [d1, d2, d3] => { results := [.lit (.bool false)], args := [d1, d2, d3] }
  | _ => none }
def FilesJoinsWrongFalsely : Prop := filesJoinsRow.holds Try.pinned (OpenSpec.ofChange filesJoinsWrong)

/-- 'busbarlaw11.FilesCuts': WHATEVER THE INPUT: true; the input reads as it did. -/
def filesCutsSpec : ChangeSpec := { name := "filesCuts", fn := fun _ => fun
  | [d1, d2, d3, d4] => { results := [.lit (.bool true)], args := [d1, d2, d3, d4] }
  | _ => none }
def filesCutsRow : OpenClaim := { program := "ytdjeekpgcjcffaa", sum := "67b3247f189eb668aff371a7298bd4be0f8c3679c1b57696cbab0c18f558e315", func := "busbar/busbarlaw11.FilesCuts", spec := "filesCuts", unfollowed := true, recurses := true, apart := false }
def FilesCutsSaid : Prop := filesCutsRow.holds Try.pinned (OpenSpec.ofChange filesCutsSpec)

/-- ITS FALSE NEIGHBOUR: 'it returns false'. Refute it at one input. -/
def filesCutsWrong : ChangeSpec := { name := "filesCuts", fn := fun _ => fun
  | [d1, d2, d3, d4] => { results := [.lit (.bool false)], args := [d1, d2, d3, d4] }
  | _ => none }
def FilesCutsWrongFalsely : Prop := filesCutsRow.holds Try.pinned (OpenSpec.ofChange filesCutsWrong)

/- THE SECOND FORM. 'bulk': how many values and letters a reading holds, each counted each time it is reached (what is shared counts as often as it is met; a slice's spare places count too). A statement '..UptoSaid' is the law's where the arguments, and the package variables that the reading takes, are together of bulk at most 1048576: NARROWER than '..Said'. Prove '..Said' where nothing that the law and all that it calls make is longer than what came in: it says more and counts as full. Else prove '..UptoSaid'. A law counts once. -/
mutual
def uptoBulk {H : Type} : DataW H → Nat
  | .lit (.string bytes) => bytes.length + 1
  | .lit _ => 1
  | .nil => 1
  | .ptr d => uptoBulk d + 1
  | .slice elems spare => uptoBulkAll elems + uptoBulkAll spare + 1
  | .agg parts => uptoBulkAll parts + 1
  | .iface _ d => uptoBulk d + 1
  | .map entries => uptoBulkEntries entries + 1
  | .held _ => 1
def uptoBulkAll {H : Type} : List (DataW H) → Nat
  | [] => 0
  | d :: r => uptoBulk d + uptoBulkAll r
def uptoBulkEntries {H : Type} : List (Lit × DataW H) → Nat
  | [] => 0
  | x :: r => uptoBulkEntry x + uptoBulkEntries r
def uptoBulkEntry {H : Type} : Lit × DataW H → Nat
  | (.string bytes, d) => bytes.length + uptoBulk d + 1
  | (_, d) => uptoBulk d + 1
 end
def uptoSmall : (H : Type) → List (DataW H) → Bool := fun _ ds => decide (uptoBulkAll ds ≤ 1048576)
def OpenSpec.upto (s : _root_.Go.ChangeSpec) : _root_.Go.OpenSpec := { _root_.Go.OpenSpec.ofChange s with cond := some uptoSmall }

/-- 'busbarlaw11.FilesParses', WHERE WHAT IT READS IS OF BULK AT MOST 1048576: true; the input reads as it did. -/
def filesParsesUptoRow : OpenClaim := { program := "ytdjeekpgcjcffaa", sum := "67b3247f189eb668aff371a7298bd4be0f8c3679c1b57696cbab0c18f558e315", func := "busbar/busbarlaw11.FilesParses", spec := "filesParses", unfollowed := true, recurses := true, apart := false, narrowed := true }
def FilesParsesUptoSaid : Prop := filesParsesUptoRow.holds Try.pinned (OpenSpec.upto filesParsesSpec)

/-- 'busbarlaw11.FilesWrites', WHERE WHAT IT READS IS OF BULK AT MOST 1048576: true; the input reads as it did. -/
def filesWritesUptoRow : OpenClaim := { program := "ytdjeekpgcjcffaa", sum := "67b3247f189eb668aff371a7298bd4be0f8c3679c1b57696cbab0c18f558e315", func := "busbar/busbarlaw11.FilesWrites", spec := "filesWrites", unfollowed := true, recurses := true, apart := false, narrowed := true }
def FilesWritesUptoSaid : Prop := filesWritesUptoRow.holds Try.pinned (OpenSpec.upto filesWritesSpec)

/-- 'busbarlaw11.FilesBack', WHERE WHAT IT READS IS OF BULK AT MOST 1048576: true; the input reads as it did. -/
def filesBackUptoRow : OpenClaim := { program := "ytdjeekpgcjcffaa", sum := "67b3247f189eb668aff371a7298bd4be0f8c3679c1b57696cbab0c18f558e315", func := "busbar/busbarlaw11.FilesBack", spec := "filesBack", unfollowed := true, recurses := true, apart := false, narrowed := true }
def FilesBackUptoSaid : Prop := filesBackUptoRow.holds Try.pinned (OpenSpec.upto filesBackSpec)

/-- 'busbarlaw11.FilesFits', WHERE WHAT IT READS IS OF BULK AT MOST 1048576: true; the input reads as it did. -/
def filesFitsUptoRow : OpenClaim := { program := "ytdjeekpgcjcffaa", sum := "67b3247f189eb668aff371a7298bd4be0f8c3679c1b57696cbab0c18f558e315", func := "busbar/busbarlaw11.FilesFits", spec := "filesFits", unfollowed := true, recurses := true, apart := false, narrowed := true }
def FilesFitsUptoSaid : Prop := filesFitsUptoRow.holds Try.pinned (OpenSpec.upto filesFitsSpec)

/-- 'busbarlaw11.FilesEchoes', WHERE WHAT IT READS IS OF BULK AT MOST 1048576: true; the input reads as it did. -/
def filesEchoesUptoRow : OpenClaim := { program := "ytdjeekpgcjcffaa", sum := "67b3247f189eb668aff371a7298bd4be0f8c3679c1b57696cbab0c18f558e315", func := "busbar/busbarlaw11.FilesEchoes", spec := "filesEchoes", unfollowed := true, recurses := true, apart := false, narrowed := true }
def FilesEchoesUptoSaid : Prop := filesEchoesUptoRow.holds Try.pinned (OpenSpec.upto filesEchoesSpec)

/-- 'busbarlaw11.FilesHeads', WHERE WHAT IT READS IS OF BULK AT MOST 1048576: true; the input reads as it did. -/
def filesHeadsUptoRow : OpenClaim := { program := "ytdjeekpgcjcffaa", sum := "67b3247f189eb668aff371a7298bd4be0f8c3679c1b57696cbab0c18f558e315", func := "busbar/busbarlaw11.FilesHeads", spec := "filesHeads", unfollowed := true, recurses := true, apart := false, narrowed := true }
def FilesHeadsUptoSaid : Prop := filesHeadsUptoRow.holds Try.pinned (OpenSpec.upto filesHeadsSpec)

/-- 'busbarlaw11.FilesJoins', WHERE WHAT IT READS IS OF BULK AT MOST 1048576: true; the input reads as it did. -/
def filesJoinsUptoRow : OpenClaim := { program := "ytdjeekpgcjcffaa", sum := "67b3247f189eb668aff371a7298bd4be0f8c3679c1b57696cbab0c18f558e315", func := "busbar/busbarlaw11.FilesJoins", spec := "filesJoins", unfollowed := true, recurses := true, apart := false, narrowed := true }
def FilesJoinsUptoSaid : Prop := filesJoinsUptoRow.holds Try.pinned (OpenSpec.upto filesJoinsSpec)

/-- 'busbarlaw11.FilesCuts', WHERE WHAT IT READS IS OF BULK AT MOST 1048576: true; the input reads as it did. -/
def filesCutsUptoRow : OpenClaim := { program := "ytdjeekpgcjcffaa", sum := "67b3247f189eb668aff371a7298bd4be0f8c3679c1b57696cbab0c18f558e315", func := "busbar/busbarlaw11.FilesCuts", spec := "filesCuts", unfollowed := true, recurses := true, apart := false, narrowed := true }
def FilesCutsUptoSaid : Prop := filesCutsUptoRow.holds Try.pinned (OpenSpec.upto filesCutsSpec)

end Rows
end Go.Proofs.Ytdjeekpgcjcffaa
