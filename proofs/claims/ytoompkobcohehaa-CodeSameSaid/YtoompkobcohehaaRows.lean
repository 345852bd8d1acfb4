/-
  No cell of these rows narrows 'for every input' (looked for: loops, veiled, ifaces, maps, wideKeys, modest, calm, conditions, laid).
  DERIVED. THE GIVEN ROWS OF THIS SEAT. 4 by the template 'for every input the law returns true; each argument reads behind the call as it read before'; 0 by the template 'total and deterministic' (their statements: YtoompkobcohehaaTotals.lean).
  GIVEN WITH THE SEED: the statements are not yours to turn. If you find one false, say at which input.
  Laid BY PROGRAM, IN A SANDBOX (cutbox-rows.mjs): the forced cells as the released guide's own fill.sh prints them over the translation b4d2ca55aac04db9… (all of the seat's roots in one cut). By AI agents, Wed Nov 11 2026. No macro, syntax, notation, axiom, sorry.
-/
import Derived.Test.YtoompkobcohehaaChecked
import GoSem.Claim
import GoSem.ClaimJoined
import GoSem.ClaimMapViews
import Derived.JoinedTies
import Derived.KernelRfl
namespace Go.Proofs.Ytoompkobcohehaa
/- THE CELL 'sum', in the pinned program and in every row, IS THE sha256 OF THE DUMP (.gsa) THAT YtoompkobcohehaaProg.lean LOADS. Nothing in Lean hashes anything: it is a label: what it is worth is what the hold of that sum in a sandbox is worth. -/
noncomputable def Try.pinned : Pinned := { name := "ytoompkobcohehaa", sum := "b4d2ca55aac04db9931a0b990c681211f7d4dc3cc76fd052292f0830681e5f7b", checked := Try.checked }
namespace Rows
def none {H : Type} : Left H := { results := [], args := [] }

/-- 'busbarlaw07.CodeTells': WHATEVER THE INPUT: true; the input reads as it did. -/
def codeTellsSpec : ChangeSpec := { name := "codeTells", fn := fun _ => fun
  | [d1, d2, d3] => { results := [.lit (.bool true)], args := [d1, d2, d3] }
  | _ => none }
def codeTellsRow : OpenClaim := { program := "ytoompkobcohehaa", sum := "b4d2ca55aac04db9931a0b990c681211f7d4dc3cc76fd052292f0830681e5f7b", func := "busbar/busbarlaw07.CodeTells", spec := "codeTells", unfollowed := true, recurses := true, apart := false }
def CodeTellsSaid : Prop := codeTellsRow.holds Try.pinned (OpenSpec.ofChange codeTellsSpec)

/-- ITS FALSE NEIGHBOUR: 'it returns false'. Refute it at one input. -/
def codeTellsWrong : ChangeSpec := { name := "codeTells", fn := fun _ => fun
  | [d1, d2, d3] => { results := [.lit (.bool false)], args := [d1, d2, d3] }
  | _ => none }
def CodeTellsWrongFalsely : Prop := codeTellsRow.holds Try.pinned (OpenSpec.ofChange codeTellsWrong)

/-- 'busbarlaw07.CodeAnswers': WHATEVER THE INPUT: true; the input reads as it did. -/
def codeAnswersSpec : ChangeSpec := { name := "codeAnswers", fn := fun _ => fun
  | [d1, d2, d3] => { results := [.lit (.bool true)], args := [d1, d2, d3] }
  | _ => none }
def codeAnswersRow : OpenClaim := { program := "ytoompkobcohehaa", sum := "b4d2ca55aac04db9931a0b990c681211f7d4dc3cc76fd052292f0830681e5f7b", func := "busbar/busbarlaw07.CodeAnswers", spec := "codeAnswers", unfollowed := true, recurses := true, apart := false }
def CodeAnswersSaid : Prop := codeAnswersRow.holds Try.pinned (OpenSpec.ofChange codeAnswersSpec)

/-- ITS FALSE NEIGHBOUR: 'it returns false'. Refute it at one input. -/
def codeAnswersWrong : ChangeSpec := { name := "codeAnswers", fn := fun _ => fun
  | [d1, d2, d3] => { results := [.lit (.bool false)], args := [d1, d2, d3] }
  | _ => none }
def CodeAnswersWrongFalsely : Prop := codeAnswersRow.holds Try.pinned (OpenSpec.ofChange codeAnswersWrong)

/-- 'busbarlaw07.CodeSame': WHATEVER THE INPUT: true; the input reads as it did. -/
def codeSameSpec : ChangeSpec := { name := "codeSame", fn := fun _ => fun
  | [d1, d2] => { results := [.lit (.bool true)], args := [d1, d2] }
  | _ => none }
def codeSameRow : OpenClaim := { program := "ytoompkobcohehaa", sum := "b4d2ca55aac04db9931a0b990c681211f7d4dc3cc76fd052292f0830681e5f7b", func := "busbar/busbarlaw07.CodeSame", spec := "codeSame", unfollowed := true, recurses := true, apart := false }
def CodeSameSaid : Prop := codeSameRow.holds Try.pinned (OpenSpec.ofChange codeSameSpec)

/-- ITS FALSE NEIGHBOUR: 'it returns false'. Refute it at one input. -/
def codeSameWrong : ChangeSpec := { name := "codeSame", fn := fun _ => fun
  | [d1, d2] => { results := [.lit (.bool false)], args := [d1, d2] }
  | _ => none }
def CodeSameWrongFalsely : Prop := codeSameRow.holds Try.pinned (OpenSpec.ofChange codeSameWrong)

/-- 'busbarlaw07.CodeMany': WHATEVER THE INPUT: true; the input reads as it did. -/
def codeManySpec : ChangeSpec := { name := "codeMany", fn := fun _ => fun
  | [d] => { results := [.lit (.bool true)], args := [d] }
  | _ => none }
def codeManyRow : OpenClaim := { program := "ytoompkobcohehaa", sum := "b4d2ca55aac04db9931a0b990c681211f7d4dc3cc76fd052292f0830681e5f7b", func := "busbar/busbarlaw07.CodeMany", spec := "codeMany", unfollowed := true, recurses := true, apart := false }
def CodeManySaid : Prop := codeManyRow.holds Try.pinned (OpenSpec.ofChange codeManySpec)

/-- ITS FALSE NEIGHBOUR: 'it returns false'. Refute it at one input. -/
def codeManyWrong : ChangeSpec := { name := "codeMany", fn := fun _ => fun
  | [d] => { results := [.lit (.bool false)], args := [d] }
  | _ => none }
def CodeManyWrongFalsely : Prop := codeManyRow.holds Try.pinned (OpenSpec.ofChange codeManyWrong)

/- THE SECOND FORM. 'bulk': how many values and letters a reading holds, each counted each time it is reached (what is shared counts as often as it is met; a slice's spare places count too). A statement '..UptoSaid' is the law's where the arguments, and the package variables that the reading takes, are together of bulk at most 1048576: NARROWER than '..Said'. Prove '..Said' where nothing that the law and all that it calls make is longer than what came in: it says more and counts as full. Else prove '..UptoSaid'. A law counts once. -/
mutual
def uptoBulk {H : Type} : DataW H → Nat
  | .lit (.string bytes) => bytes.length + 1
  | .lit _ => 1
  | .nil => 1
  | .ptr d => uptoBulk d + 1
  | .slice elems spare => uptoBulkAll elems + uptoBulkAll spare + 1
  | .agg parts => uptoBulkAll parts + 1
  | .iface _ d => uptoBulk d + 1
  | .map entries => uptoBulkEntries entries + 1
  | .held _ => 1
def uptoBulkAll {H : Type} : List (DataW H) → Nat
  | [] => 0
  | d :: r => uptoBulk d + uptoBulkAll r
def uptoBulkEntries {H : Type} : List (Lit × DataW H) → Nat
  | [] => 0
  | x :: r => uptoBulkEntry x + uptoBulkEntries r
def uptoBulkEntry {H : Type} : Lit × DataW H → Nat
  | (.string bytes, d) => bytes.length + uptoBulk d + 1
  | (_, d) => uptoBulk d + 1
 end
def uptoSmall : (H : Type) → List (DataW H) → Bool := fun _ ds => decide (uptoBulkAll ds ≤ 1048576)
def OpenSpec.upto (s : _root_.Go.ChangeSpec) : _root_.Go.OpenSpec := { _root_.Go.OpenSpec.ofChange s with cond := some uptoSmall }

/-- 'busbarlaw07.CodeTells', WHERE WHAT IT READS IS OF BULK AT MOST 1048576: true; the input reads as it did. -/
def codeTellsUptoRow : OpenClaim := { program := "ytoompkobcohehaa", sum := "b4d2ca55aac04db9931a0b990c681211f7d4dc3cc76fd052292f0830681e5f7b", func := "busbar/busbarlaw07.CodeTells", spec := "codeTells", unfollowed := true, recurses := true, apart := false, narrowed := true }
def CodeTellsUptoSaid : Prop := codeTellsUptoRow.holds Try.pinned (OpenSpec.upto codeTellsSpec)

/-- 'busbarlaw07.CodeAnswers', WHERE WHAT IT READS IS OF BULK AT MOST 1048576: true; the input reads as it did. -/
def codeAnswersUptoRow : OpenClaim := { program := "ytoompkobcohehaa", sum := "b4d2ca55aac04db9931a0b990c681211f7d4dc3cc76fd052292f0830681e5f7b", func := "busbar/busbarlaw07.CodeAnswers", spec := "codeAnswers", unfollowed := true, recurses := true, apart := false, narrowed := true }
def CodeAnswersUptoSaid : Prop := codeAnswersUptoRow.holds Try.pinned (OpenSpec.upto codeAnswersSpec)

/-- 'busbarlaw07.CodeSame', WHERE WHAT IT READS IS OF BULK AT MOST 1048576: true; the input reads as it did. -/
def codeSameUptoRow : OpenClaim := { program := "ytoompkobcohehaa", sum := "b4d2ca55aac04db9931a0b990c681211f7d4dc3cc76fd052292f0830681e5f7b", func := "busbar/busbarlaw07.CodeSame", spec := "codeSame", unfollowed := true, recurses := true, apart := false, narrowed := true }
def CodeSameUptoSaid : Prop := codeSameUptoRow.holds Try.pinned (OpenSpec.upto codeSameSpec)

/-- 'busbarlaw07.CodeMany', WHERE WHAT IT READS IS OF BULK AT MOST 1048576: true; the input reads as it did. -/
def codeManyUptoRow : OpenClaim := { program := "ytoompkobcohehaa", sum := "b4d2ca55aac04db9931a0b990c681211f7d4dc3cc76fd052292f0830681e5f7b", func := "busbar/busbarlaw07.CodeMany", spec := "codeMany", unfollowed := true, recurses := true, apart := false, narrowed := true }
def CodeManyUptoSaid : Prop := codeManyUptoRow.holds Try.pinned (OpenSpec.upto codeManySpec)

end Rows
end Go.Proofs.Ytoompkobcohehaa
