/-
  No cell of these rows narrows 'for every input' (looked for: loops, veiled, ifaces, maps, wideKeys, modest, calm, conditions, laid).
  DERIVED. THE GIVEN ROWS OF THIS SEAT. 4 by the template 'for every input the law returns true; each argument reads behind the call as it read before'; 0 by the template 'total and deterministic' (their statements: YtbilolgiihegiaaTotals.lean).
  GIVEN WITH THE SEED: the statements are not yours to turn. If you find one false, say at which input.
  Laid BY PROGRAM, IN A SANDBOX (cutbox-rows.mjs): the forced cells as the released guide's own fill.sh prints them over the translation 80d135c38a5a88a6… (all of the seat's roots in one cut). By AI agents, Wed Nov 11 2026. No macro, syntax, notation, axiom, sorry.
-/
import Derived.Test.YtbilolgiihegiaaChecked
import GoSem.Claim
import GoSem.ClaimJoined
import GoSem.ClaimMapViews
import Derived.JoinedTies
import Derived.KernelRfl
namespace Go.Proofs.Ytbilolgiihegiaa
/- THE CELL 'sum', in the pinned program and in every row, IS THE sha256 OF THE DUMP (.gsa) THAT YtbilolgiihegiaaProg.lean LOADS. Nothing in Lean hashes anything: it is a label: what it is worth is what the hold of that sum in a sandbox is worth. -/
noncomputable def Try.pinned : Pinned := { name := "ytbilolgiihegiaa", sum := "80d135c38a5a88a6d39f7cb04ce80c7444c1191eeb07d568d231dbd7e2480976", checked := Try.checked }
namespace Rows
def none {H : Type} : Left H := { results := [], args := [] }

/-- 'busbarlaw13.RefusalParses': WHATEVER THE INPUT: true; the input reads as it did. -/
def refusalParsesSpec : ChangeSpec := { name := "refusalParses", fn := fun _ => fun
  | [d] => { results := [.lit (.bool true)], args := [d] }
  | _ => none }
def refusalParsesRow : OpenClaim := { program := "ytbilolgiihegiaa", sum := "80d135c38a5a88a6d39f7cb04ce80c7444c1191eeb07d568d231dbd7e2480976", func := "busbar/busbarlaw13.RefusalParses", spec := "refusalParses", unfollowed := true, recurses := true, apart := false }
def RefusalParsesSaid : Prop := refusalParsesRow.holds Try.pinned (OpenSpec.ofChange refusalParsesSpec)

/-- ITS FALSE NEIGHBOUR: 'it returns false'. Refute it at one input. -/
def refusalParsesWrong : ChangeSpec := { name := "refusalParses", fn := fun _ => fun
  | [d] => { results := [.lit (.bool false)], args := [d] }
  | _ => none }
def RefusalParsesWrongFalsely : Prop := refusalParsesRow.holds Try.pinned (OpenSpec.ofChange refusalParsesWrong)

/-- 'busbarlaw13.RefusalWrites': WHATEVER THE INPUT: true; the input reads as it did. -/
def refusalWritesSpec : ChangeSpec := { name := "refusalWrites", fn := fun _ => fun
  | [d1, d2, d3] => { results := [.lit (.bool true)], args := [d1, d2, d3] }
  | _ => none }
def refusalWritesRow : OpenClaim := { program := "ytbilolgiihegiaa", sum := "80d135c38a5a88a6d39f7cb04ce80c7444c1191eeb07d568d231dbd7e2480976", func := "busbar/busbarlaw13.RefusalWrites", spec := "refusalWrites", unfollowed := true, recurses := true, apart := false }
def RefusalWritesSaid : Prop := refusalWritesRow.holds Try.pinned (OpenSpec.ofChange refusalWritesSpec)

/-- ITS FALSE NEIGHBOUR: 'it returns false'. Refute it at one input. -/
def refusalWritesWrong : ChangeSpec := { name := "refusalWrites", fn := fun _ => fun
  | [d1, d2, d3] => { results := [.lit (.bool false)], args := [d1, d2, d3] }
  | _ => none }
def RefusalWritesWrongFalsely : Prop := refusalWritesRow.holds Try.pinned (OpenSpec.ofChange refusalWritesWrong)

/-- 'busbarlaw13.RefusalBack': WHATEVER THE INPUT: true; the input reads as it did. -/
def refusalBackSpec : ChangeSpec := { name := "refusalBack", fn := fun _ => fun
  | [d1, d2, d3, d4] => { results := [.lit (.bool true)], args := [d1, d2, d3, d4] }
  | _ => none }
def refusalBackRow : OpenClaim := { program := "ytbilolgiihegiaa", sum := "80d135c38a5a88a6d39f7cb04ce80c7444c1191eeb07d568d231dbd7e2480976", func := "busbar/busbarlaw13.RefusalBack", spec := "refusalBack", unfollowed := true, recurses := true, apart := false }
def RefusalBackSaid : Prop := refusalBackRow.holds Try.pinned (OpenSpec.ofChange refusalBackSpec)

/-- ITS FALSE NEIGHBOUR: 'it returns false'. Refute it at one input. -/
def refusalBackWrong : ChangeSpec := { name := "refusalBack", fn := fun _ => fun
  | [d1, d2, d3, d4] => { results := [.lit (.bool false)], args := [d1, d2, d3, d4] }
  | _ => none }
def RefusalBackWrongFalsely : Prop := refusalBackRow.holds Try.pinned (OpenSpec.ofChange refusalBackWrong)

/-- 'busbarlaw13.RefusalEach': WHATEVER THE INPUT: true; the input reads as it did. -/
def refusalEachSpec : ChangeSpec := { name := "refusalEach", fn := fun _ => fun
  | [d1, d2, d3, d4] => { results := [.lit (.bool true)], args := [d1, d2, d3, d4] }
  | _ => none }
def refusalEachRow : OpenClaim := { program := "ytbilolgiihegiaa", sum := "80d135c38a5a88a6d39f7cb04ce80c7444c1191eeb07d568d231dbd7e2480976", func := "busbar/busbarlaw13.RefusalEach", spec := "refusalEach", unfollowed := true, recurses := true, apart := false }
def RefusalEachSaid : Prop := refusalEachRow.holds Try.pinned (OpenSpec.ofChange refusalEachSpec)

/-- ITS FALSE NEIGHBOUR: 'it returns false'. Refute it at one input. -/
def refusalEachWrong : ChangeSpec := { name := "refusalEach", fn := fun _ => fun
  | [d1, d2, d3, d4] => { results := [.lit (.bool false)], args := [d1, d2, d3, d4] }
  | _ => none }
def RefusalEachWrongFalsely : Prop := refusalEachRow.holds Try.pinned (OpenSpec.ofChange refusalEachWrong)

/- THE SECOND FORM. 'bulk': how many values and letters a reading holds, each counted each time it is reached (what is shared counts as often as it is met; a slice's spare places count too). A statement '..UptoSaid' is the law's where the arguments, and the package variables that the reading takes, are together of bulk at most 1048576: NARROWER than '..Said'. Prove '..Said' where nothing that the law and all that it calls make is longer than what came in: it says more and counts as full. Else prove '..UptoSaid'. A law counts once. -/
mutual
def uptoBulk {H : Type} : DataW H → Nat
  | .lit (.string bytes) => bytes.length + 1
  | .lit _ => 1
  | .nil => 1
  | .ptr d => uptoBulk d + 1
  | .slice elems spare => uptoBulkAll elems + uptoBulkAll spare + 1
  | .agg parts => uptoBulkAll parts + 1
  | .iface _ d => uptoBulk d + 1
  | .map entries => uptoBulkEntries entries + 1
  | .held _ => 1
def uptoBulkAll {H : Type} : List (DataW H) → Nat
  | [] => 0
  | d :: r => uptoBulk d + uptoBulkAll r
def uptoBulkEntries {H : Type} : List (Lit × DataW H) → Nat
  | [] => 0
  | x :: r => uptoBulkEntry x + uptoBulkEntries r
def uptoBulkEntry {H : Type} : Lit × DataW H → Nat
  | (.string bytes, d) => bytes.length + uptoBulk d + 1
  | (_, d) => uptoBulk d + 1
 end
def uptoSmall : (H : Type) → List (DataW H) → Bool := fun _ ds => decide (uptoBulkAll ds ≤ 1048576)
def OpenSpec.upto (s : _root_.Go.ChangeSpec) : _root_.Go.OpenSpec := { _root_.Go.OpenSpec.ofChange s with cond := some uptoSmall }

/-- 'busbarlaw13.RefusalParses', WHERE WHAT IT READS IS OF BULK AT MOST 1048576: true; the input reads as it did. -/
def refusalParsesUptoRow : OpenClaim := { program := "ytbilolgiihegiaa", sum := "80d135c38a5a88a6d39f7cb04ce80c7444c1191eeb07d568d231dbd7e2480976", func := "busbar/busbarlaw13.RefusalParses", spec := "refusalParses", unfollowed := true, recurses := true, apart := false, narrowed := true }
def RefusalParsesUptoSaid : Prop := refusalParsesUptoRow.holds Try.pinned (OpenSpec.upto refusalParsesSpec)

/-- 'busbarlaw13.RefusalWrites', WHERE WHAT IT READS IS OF BULK AT MOST 1048576: true; the input reads as it did. -/
def refusalWritesUptoRow : OpenClaim := { program := "ytbilolgiihegiaa", sum := "80d135c38a5a88a6d39f7cb04ce80c7444c1191eeb07d568d231dbd7e2480976", func := "busbar/busbarlaw13.RefusalWrites", spec := "refusalWrites", unfollowed := true, recurses := true, apart := false, narrowed := true }
def RefusalWritesUptoSaid : Prop := refusalWritesUptoRow.holds Try.pinned (OpenSpec.upto refusalWritesSpec)

/-- 'busbarlaw13.RefusalBack', WHERE WHAT IT READS IS OF BULK AT MOST 1048576: true; the input reads as it did. -/
def refusalBackUptoRow : OpenClaim := { program := "ytbilolgiihegiaa", sum := "80d135c38a5a88a6d39f7cb04ce80c7444c1191eeb07d568d231dbd7e2480976", func := "busbar/busbarlaw13.RefusalBack", spec := "refusalBack", unfollowed := true, recurses := true, apart := false, narrowed := true }
def RefusalBackUptoSaid : Prop := refusalBackUptoRow.holds Try.pinned (OpenSpec.upto refusalBackSpec)

/-- 'busbarlaw13.RefusalEach', WHERE WHAT IT READS IS OF BULK AT MOST 1048576: true; the input reads as it did. -/
def refusalEachUptoRow : OpenClaim := { program := "ytbilolgiihegiaa", sum := "80d135c38a5a88a6d39f7cb04ce80c7444c1191eeb07d568d231dbd7e2480976", func := "busbar/busbarlaw13.RefusalEach", spec := "refusalEach", unfollowed := true, recurses := true, apart := false, narrowed := true }
def RefusalEachUptoSaid : Prop := refusalEachUptoRow.holds Try.pinned (OpenSpec.upto refusalEachSpec)

end Rows
end Go.Proofs.Ytbilolgiihegiaa
