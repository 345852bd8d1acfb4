/-
  No cell of these rows narrows 'for every input' (looked for: loops, veiled, ifaces, maps, wideKeys, modest, calm, conditions, laid).
  DERIVED. THE GIVEN ROWS OF THIS SEAT. 8 by the template 'for every input the law returns true; each argument reads behind the call as it read before'; 0 by the template 'total and deterministic' (their statements: YtimclbhlgblifaaTotals.lean).
  GIVEN WITH THE SEED: the statements are not yours to turn. If you find one false, say at which input.
  Laid BY PROGRAM, IN A SANDBOX (cutbox-rows.mjs): the forced cells as the released guide's own fill.sh prints them over the translation 59b9b0571a1f1a66… (all of the seat's roots in one cut). By AI agents, Wed Nov 11 2026. No macro, syntax, notation, axiom, sorry.
-/
import Derived.Test.YtimclbhlgblifaaChecked
import GoSem.Claim
import GoSem.ClaimJoined
import GoSem.ClaimMapViews
import Derived.JoinedTies
import Derived.KernelRfl
namespace Go.Proofs.Ytimclbhlgblifaa
/- THE CELL 'sum', in the pinned program and in every row, IS THE sha256 OF THE DUMP (.gsa) THAT YtimclbhlgblifaaProg.lean LOADS. Nothing in Lean hashes anything: it is a label: what it is worth is what the hold of that sum in a sandbox is worth. -/
noncomputable def Try.pinned : Pinned := { name := "ytimclbhlgblifaa", sum := "59b9b0571a1f1a66726de240bc313d4905fb135e549a1adfca0596d7a121db29", checked := Try.checked }
namespace Rows
def none {H : Type} : Left H := { results := [], args := [] }

/-- 'busbarlaw12.MeiParses': WHATEVER THE INPUT: true; the input reads as it did. -/
def meiParsesSpec : ChangeSpec := { name := "meiParses", fn := fun _ => fun
  | [d1, d2, d3] => { results := [.lit (.bool true)], args := [d1, d2, d3] }
  | _ => none }
def meiParsesRow : OpenClaim := { program := "ytimclbhlgblifaa", sum := "59b9b0571a1f1a66726de240bc313d4905fb135e549a1adfca0596d7a121db29", func := "busbar/busbarlaw12.MeiParses", spec := "meiParses", apart := false }
def MeiParsesSaid : Prop := meiParsesRow.holds Try.pinned (OpenSpec.ofChange meiParsesSpec)

/-- ITS FALSE NEIGHBOUR: 'it returns false'. Refute it at one input. -/
def meiParsesWrong : ChangeSpec := { name := "meiParses", fn := fun _ => fun
  | [d1, d2, d3] => { results := [.lit (.bool false)], args := [d1, d2, d3] }
  | _ => none }
def MeiParsesWrongFalsely : Prop := meiParsesRow.holds Try.pinned (OpenSpec.ofChange meiParsesWrong)

/-- 'busbarlaw12.MeiWrites': WHATEVER THE INPUT: true; the input reads as it did. -/
def meiWritesSpec : ChangeSpec := { name := "meiWrites", fn := fun _ => fun
  | [d1, d2] => { results := [.lit (.bool true)], args := [d1, d2] }
  | _ => none }
def meiWritesRow : OpenClaim := { program := "ytimclbhlgblifaa", sum := "59b9b0571a1f1a66726de240bc313d4905fb135e549a1adfca0596d7a121db29", func := "busbar/busbarlaw12.MeiWrites", spec := "meiWrites", unfollowed := true, recurses := true, apart := false }
def MeiWritesSaid : Prop := meiWritesRow.holds Try.pinned (OpenSpec.ofChange meiWritesSpec)

/-- ITS FALSE NEIGHBOUR: 'it returns false'. Refute it at one input. -/
def meiWritesWrong : ChangeSpec := { name := "meiWrites", fn := fun _ => fun
  | [d1, d2] => { results := [.lit (.bool false)], args := [d1, d2] }
  | _ => none }
def MeiWritesWrongFalsely : Prop := meiWritesRow.holds Try.pinned (OpenSpec.ofChange meiWritesWrong)

/-- 'busbarlaw12.MeiBack': WHATEVER THE INPUT: true; the input reads as it did. -/
def meiBackSpec : ChangeSpec := { name := "meiBack", fn := fun _ => fun
  | [d1, d2, d3, d4] => { results := [.lit (.bool true)], args := [d1, d2, d3, d4] }
  | _ => none }
def meiBackRow : OpenClaim := { program := "ytimclbhlgblifaa", sum := "59b9b0571a1f1a66726de240bc313d4905fb135e549a1adfca0596d7a121db29", func := "busbar/busbarlaw12.MeiBack", spec := "meiBack", unfollowed := true, recurses := true, apart := false }
def MeiBackSaid : Prop := meiBackRow.holds Try.pinned (OpenSpec.ofChange meiBackSpec)

/-- ITS FALSE NEIGHBOUR: 'it returns false'. Refute it at one input. -/
def meiBackWrong : ChangeSpec := { name := "meiBack", fn := fun _ => fun
  | [d1, d2, d3, d4] => { results := [.lit (.bool false)], args := [d1, d2, d3, d4] }
  | _ => none }
def MeiBackWrongFalsely : Prop := meiBackRow.holds Try.pinned (OpenSpec.ofChange meiBackWrong)

/-- 'busbarlaw12.MeiObjects': WHATEVER THE INPUT: true; the input reads as it did. -/
def meiObjectsSpec : ChangeSpec := { name := "meiObjects", fn := fun _ => fun
  | [d1, d2] => { results := [.lit (.bool true)], args := [d1, d2] }
  | _ => none }
def meiObjectsRow : OpenClaim := { program := "ytimclbhlgblifaa", sum := "59b9b0571a1f1a66726de240bc313d4905fb135e549a1adfca0596d7a121db29", func := "busbar/busbarlaw12.MeiObjects", spec := "meiObjects", unfollowed := true, recurses := true, apart := false }
def MeiObjectsSaid : Prop := meiObjectsRow.holds Try.pinned (OpenSpec.ofChange meiObjectsSpec)

/-- ITS FALSE NEIGHBOUR: 'it returns false'. Refute it at one input. -/
def meiObjectsWrong : ChangeSpec := { name := "meiObjects", fn := fun _ => fun
  | [d1, d2] => { results := [.lit (.bool false)], args := [d1, d2] }
  | _ => none }
def MeiObjectsWrongFalsely : Prop := meiObjectsRow.holds Try.pinned (OpenSpec.ofChange meiObjectsWrong)

/-- 'busbarlaw12.MeiLast': WHATEVER THE INPUT: true; the input reads as it did. -/
def meiLastSpec : ChangeSpec := { name := "meiLast", fn := fun _ => fun
  | [d1, d2, d3] => { results := [.lit (.bool true)], args := [d1, d2, d3] }
  | _ => none }
def meiLastRow : OpenClaim := { program := "ytimclbhlgblifaa", sum := "59b9b0571a1f1a66726de240bc313d4905fb135e549a1adfca0596d7a121db29", func := "busbar/busbarlaw12.MeiLast", spec := "meiLast", unfollowed := true, recurses := true, apart := false }
def MeiLastSaid : Prop := meiLastRow.holds Try.pinned (OpenSpec.ofChange meiLastSpec)

/-- ITS FALSE NEIGHBOUR: 'it returns false'. Refute it at one input. -/
def meiLastWrong : ChangeSpec := { name := "meiLast", fn := fun _ => fun
  | [d1, d2, d3] => { results := [.lit (.bool false)], args := [d1, d2, d3] }
  | _ => none }
def MeiLastWrongFalsely : Prop := meiLastRow.holds Try.pinned (OpenSpec.ofChange meiLastWrong)

/-- 'busbarlaw12.MeiOther': WHATEVER THE INPUT: true; the input reads as it did. -/
def meiOtherSpec : ChangeSpec := { name := "meiOther", fn := fun _ => fun
  | [d] => { results := [.lit (.bool true)], args := [d] }
  | _ => none }
def meiOtherRow : OpenClaim := { program := "ytimclbhlgblifaa", sum := "59b9b0571a1f1a66726de240bc313d4905fb135e549a1adfca0596d7a121db29", func := "busbar/busbarlaw12.MeiOther", spec := "meiOther", unfollowed := true, recurses := true, apart := false }
def MeiOtherSaid : Prop := meiOtherRow.holds Try.pinned (OpenSpec.ofChange meiOtherSpec)

/-- ITS FALSE NEIGHBOUR: 'it returns false'. Refute it at one input. -/
def meiOtherWrong : ChangeSpec := { name := "meiOther", fn := fun _ => fun
  | [d] => { results := [.lit (.bool false)], args := [d] }
  | _ => none }
def MeiOtherWrongFalsely : Prop := meiOtherRow.holds Try.pinned (OpenSpec.ofChange meiOtherWrong)

/-- 'busbarlaw12.MeiAsks': WHATEVER THE INPUT: true; the input reads as it did. -/
def meiAsksSpec : ChangeSpec := { name := "meiAsks", fn := fun _ => fun
  | [d1, d2] => { results := [.lit (.bool true)], args := [d1, d2] }
  | _ => none }
def meiAsksRow : OpenClaim := { program := "ytimclbhlgblifaa", sum := "59b9b0571a1f1a66726de240bc313d4905fb135e549a1adfca0596d7a121db29", func := "busbar/busbarlaw12.MeiAsks", spec := "meiAsks", unfollowed := true, recurses := true, apart := false }
def MeiAsksSaid : Prop := meiAsksRow.holds Try.pinned (OpenSpec.ofChange meiAsksSpec)

/-- ITS FALSE NEIGHBOUR: 'it returns false'. Refute it at one input. -/
def meiAsksWrong : ChangeSpec := { name := "meiAsks", fn := fun _ => fun
  | [d1, d2] => { results := [.lit (.bool false)], args := [d1, d2] }
  | _ => none }
def MeiAsksWrongFalsely : Prop := meiAsksRow.holds Try.pinned (OpenSpec.ofChange meiAsksWrong)

/-- 'busbarlaw12.MeiCuts': WHATEVER THE INPUT: true; the input reads as it did. -/
def meiCutsSpec : ChangeSpec := { name := "meiCuts", fn := fun _ => fun
  | [d1, d2, d3, d4] => { results := [.lit (.bool true)], args := [d1, d2, d3, d4] }
  | _ => none }
def meiCutsRow : OpenClaim := { program := "ytimclbhlgblifaa", sum := "59b9b0571a1f1a66726de240bc313d4905fb135e549a1adfca0596d7a121db29", func := "busbar/busbarlaw12.MeiCuts", spec := "meiCuts", unfollowed := true, recurses := true, apart := false }
def MeiCutsSaid : Prop := meiCutsRow.holds Try.pinned (OpenSpec.ofChange meiCutsSpec)

/-- ITS FALSE NEIGHBOUR: 'it returns false'. Refute it at one input. -/
def meiCutsWrong : ChangeSpec := { name := "meiCuts", fn := fun _ => fun
  | [d1, d2, d3, d4] => { results := [.lit (.bool false)], args := [d1, d2, d3, d4] }
  | _ => none }
def MeiCutsWrongFalsely : Prop := meiCutsRow.holds Try.pinned (OpenSpec.ofChange meiCutsWrong)

/- THE SECOND FORM. 'bulk': how many values and letters a reading holds, each counted each time it is reached (what is shared counts as often as it is met; a slice's spare places count too). A statement '..UptoSaid' is the law's where the arguments, and the package variables that the reading takes, are together of bulk at most 1048576: NARROWER than '..Said'. Prove '..Said' where nothing that the law and all that it calls make is longer than what came in: it says more and counts as full. Else prove '..UptoSaid'. A law counts once. -/
mutual
def uptoBulk {H : Type} : DataW H → Nat
  | .lit (.string bytes) => bytes.length + 1
  | .lit _ => 1
  | .nil => 1
  | .ptr d => uptoBulk d + 1
  | .slice elems spare => uptoBulkAll elems + uptoBulkAll spare + 1
  | .agg parts => uptoBulkAll parts + 1
  | .iface _ d => uptoBulk d + 1
  | .map entries => uptoBulkEntries entries + 1
  | .held _ => 1
def uptoBulkAll {H : Type} : List (DataW H) → Nat
  | [] => 0
  | d :: r => uptoBulk d + uptoBulkAll r
def uptoBulkEntries {H : Type} : List (Lit × DataW H) → Nat
  | [] => 0
  | x :: r => uptoBulkEntry x + uptoBulkEntries r
def uptoBulkEntry {H : Type} : Lit × DataW H → Nat
  | (.string bytes, d) => bytes.length + uptoBulk d + 1
  | (_, d) => uptoBulk d + 1
 end
def uptoSmall : (H : Type) → List (DataW H) → Bool := fun _ ds => decide (uptoBulkAll ds ≤ 1048576)
def OpenSpec.upto (s : _root_.Go.ChangeSpec) : _root_.Go.OpenSpec := { _root_.Go.OpenSpec.ofChange s with cond := some uptoSmall }

/-- 'busbarlaw12.MeiParses', WHERE WHAT IT READS IS OF BULK AT MOST 1048576: true; the input reads as it did. -/
def meiParsesUptoRow : OpenClaim := { program := "ytimclbhlgblifaa", sum := "59b9b0571a1f1a66726de240bc313d4905fb135e549a1adfca0596d7a121db29", func := "busbar/busbarlaw12.MeiParses", spec := "meiParses", apart := false, narrowed := true }
def MeiParsesUptoSaid : Prop := meiParsesUptoRow.holds Try.pinned (OpenSpec.upto meiParsesSpec)

/-- 'busbarlaw12.MeiWrites', WHERE WHAT IT READS IS OF BULK AT MOST 1048576: true; the input reads as it did. -/
def meiWritesUptoRow : OpenClaim := { program := "ytimclbhlgblifaa", sum := "59b9b0571a1f1a66726de240bc313d4905fb135e549a1adfca0596d7a121db29", func := "busbar/busbarlaw12.MeiWrites", spec := "meiWrites", unfollowed := true, recurses := true, apart := false, narrowed := true }
def MeiWritesUptoSaid : Prop := meiWritesUptoRow.holds Try.pinned (OpenSpec.upto meiWritesSpec)

/-- 'busbarlaw12.MeiBack', WHERE WHAT IT READS IS OF BULK AT MOST 1048576: true; the input reads as it did. -/
def meiBackUptoRow : OpenClaim := { program := "ytimclbhlgblifaa", sum := "59b9b0571a1f1a66726de240bc313d4905fb135e549a1adfca0596d7a121db29", func := "busbar/busbarlaw12.MeiBack", spec := "meiBack", unfollowed := true, recurses := true, apart := false, narrowed := true }
def MeiBackUptoSaid : Prop := meiBackUptoRow.holds Try.pinned (OpenSpec.upto meiBackSpec)

/-- 'busbarlaw12.MeiObjects', WHERE WHAT IT READS IS OF BULK AT MOST 1048576: true; the input reads as it did. -/
def meiObjectsUptoRow : OpenClaim := { program := "ytimclbhlgblifaa", sum := "59b9b0571a1f1a66726de240bc313d4905fb135e549a1adfca0596d7a121db29", func := "busbar/busbarlaw12.MeiObjects", spec := "meiObjects", unfollowed := true, recurses := true, apart := false, narrowed := true }
def MeiObjectsUptoSaid : Prop := meiObjectsUptoRow.holds Try.pinned (OpenSpec.upto meiObjectsSpec)

/-- 'busbarlaw12.MeiLast', WHERE WHAT IT READS IS OF BULK AT MOST 1048576: true; the input reads as it did. -/
def meiLastUptoRow : OpenClaim := { program := "ytimclbhlgblifaa", sum := "59b9b0571a1f1a66726de240bc313d4905fb135e549a1adfca0596d7a121db29", func := "busbar/busbarlaw12.MeiLast", spec := "meiLast", unfollowed := true, recurses := true, apart := false, narrowed := true }
def MeiLastUptoSaid : Prop := meiLastUptoRow.holds Try.pinned (OpenSpec.upto meiLastSpec)

/-- 'busbarlaw12.MeiOther', WHERE WHAT IT READS IS OF BULK AT MOST 1048576: true; the input reads as it did. -/
def meiOtherUptoRow : OpenClaim := { program := "ytimclbhlgblifaa", sum := "59b9b0571a1f1a66726de240bc313d4905fb135e549a1adfca0596d7a121db29", func := "busbar/busbarlaw12.MeiOther", spec := "meiOther", unfollowed := true, recurses := true, apart := false, narrowed := true }
def MeiOtherUptoSaid : Prop := meiOtherUptoRow.holds Try.pinned (OpenSpec.upto meiOtherSpec)

/-- 'busbarlaw12.MeiAsks', WHERE WHAT IT READS IS OF BULK AT MOST 1048576: true; the input reads as it did. -/
def meiAsksUptoRow : OpenClaim := { program := "ytimclbhlgblifaa", sum := "59b9b0571a1f1a66726de240bc313d4905fb135e549a1adfca0596d7a121db29", func := "busbar/busbarlaw12.MeiAsks", spec := "meiAsks", unfollowed := true, recurses := true, apart := false, narrowed := true }
def MeiAsksUptoSaid : Prop := meiAsksUptoRow.holds Try.pinned (OpenSpec.upto meiAsksSpec)

/-- 'busbarlaw12.MeiCuts', WHERE WHAT IT READS IS OF BULK AT MOST 1048576: true; the input reads as it did. -/
def meiCutsUptoRow : OpenClaim := { program := "ytimclbhlgblifaa", sum := "59b9b0571a1f1a66726de240bc313d4905fb135e549a1adfca0596d7a121db29", func := "busbar/busbarlaw12.MeiCuts", spec := "meiCuts", unfollowed := true, recurses := true, apart := false, narrowed := true }
def MeiCutsUptoSaid : Prop := meiCutsUptoRow.holds Try.pinned (OpenSpec.upto meiCutsSpec)

end Rows
end Go.Proofs.Ytimclbhlgblifaa
