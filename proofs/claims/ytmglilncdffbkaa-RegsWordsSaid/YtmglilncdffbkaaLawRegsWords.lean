/- RegsWords: for every input the law returns true, and what came in reads as it did. Conditions: none. -/
import Derived.Test.YtmglilncdffbkaaRows
import Derived.Test.YtmglilncdffbkaaXRegsWords
import Derived.WalkKit
import Derived.ProofKit
import Derived.OpenShut
import Derived.ShutString
import Derived.ChangeOld
import Derived.Below
import Derived.SizedLaws
set_option linter.unusedVariables false
set_option linter.unusedSimpArgs false
namespace Go.Proofs.Ytmglilncdffbkaa.regsWords
open Go.ChangeShapes Go.WideShapes Go.ChangeAt Go.RowKit Go.Deep Go.Proofs.YtmglilncdffbkaaW.PrintWords Go.Proofs.Ytmglilncdffbkaa.Open Go.Proofs.Ytmglilncdffbkaa.P
open Go.ChangeMaps (open_string shut_string)
def gi_u16 (n : Int) : Prop := (Lit.int .u16 n).wf = true
def gs24 (l : (List Int)) : Prop := l.length ≤ maxLen ∧ ∀ x ∈ l, gi_u16 x
theorem opens24 {H : Type} {enc : TypeId × Value → H} {W : World} {base : Nat} {held : Bool} : Opens enc Try.prog W base held 24 (Kd.int .u16) gi_u16 := opens_int Try.underlying24
theorem opens25 {H : Type} {enc : TypeId × Value → H} {W : World} {base : Nat} {held : Bool} : Opens enc Try.prog W base held 25 (Kd.slice 24 (Kd.int .u16)) gs24 := opens_slice Try.underlying25 (by kernel_rfl) opens24
theorem own : ownKnob Try.prog.godebug = none := by kernel_rfl
theorem laidOut : laidOutB Try.prog = true := by kernel_rfl
set_option maxRecDepth 100000 in
theorem lifted (os : Os) (started : os.Started) (H : Type) (enc : TypeId × Value → H) :
    ReturnsInHanded {} Try.checked os 7 .any (Rows.regsWordsSpec.pre6 enc Try.prog Try.f7 Rows.regsWordsRow.domain false) (Rows.regsWordsSpec.post enc Try.prog Try.f7 false true false false) := by
  refine returnsInHanded_of_change_sized (C := Try.checked) own started (by kernel_rfl) Try.func7
    (ChangeSpec.witness6 (enc := enc) (C := Try.checked) false ⟨#[], #[.slice none 0 0], []⟩ 8 (by kernel_rfl) (by kernel_rfl) (by kernel_rfl) (by kernel_rfl)) ?_
  intro W base args ds gs before hval0 hW hcnd hsz0 _
  have hval : ∀ (j : Nat) t v, Try.f7.params[j]? = some t → args[j]? = some v → Value.okWide Try.prog W .any base t v := hval0
  have hW' := hW
  obtain ⟨p, q, hA0, hV, rfl, hfz, hnd⟩ := hW
  have hA : DataW.TrodAll enc Try.prog W 0 (fun _ => true) true Try.f7.params.toList args.toList ds p := hA0
  rw [Try.params7] at hA hval
  obtain ⟨v0, vs0, d0, ds0, p0, q0, hargs, rfl, rfl, h0, r0⟩ := trodAll_cons hA
  obtain ⟨rfl, rfl, rfl⟩ := trodAll_nil r0
  obtain rfl : args = #[v0] := by cases args; simp_all
  obtain ⟨rfl, rfl⟩ := trodVars_none hV
  obtain ⟨A0, len0, c0, rfl⟩ := okWide_slice Try.underlying25 (hval 0 25 v0 rfl rfl)
  have k0 := h0
  have lt0 : ∀ x ∈ p0, x.block < W.heap.size := by obtain ⟨m, hm⟩ := k0; exact DataW.trod_lt m _ _ _ hm
  obtain ⟨l0, rfl, hr0, hc0, hm0, hw0⟩ := open_slice_arg h0 (opens25 (enc := enc) (W := W) (base := 0) (held := true))
  clear hA0 hval0 hsz0
  refine (Go.Proofs.Ytmglilncdffbkaa.Laws.busbarlaw09_RegsWords A0 c0 l0 W hr0 hc0 hm0 hw0).mono fun e W' ⟨he, bel⟩ => ?_
  subst he
  exact ⟨_, rfl, _, _, _, [], _, [], hW', trodAll_mk1 (shut_bool Try.underlying4 _), (trodAll_cons_mk (Below.trod laidOut (by kernel_rfl) (of_decide_eq_true (by kernel_rfl)) k0 bel lt0) trodAll_mk0), rfl, bel.frame _, fun h => by cases h⟩
theorem over : Rows.regsWordsRow.holds Try.pinned (OpenSpec.ofChange Rows.regsWordsSpec) :=
  OpenClaim.holds_of_wide 7 Try.f7 rfl rfl rfl rfl rfl rfl rfl ⟨rfl, rfl, rfl, rfl, rfl⟩ rfl rfl rfl rfl rfl (by kernel_rfl) Try.func7 (by kernel_rfl)
    (of_decide_eq_true (by kernel_rfl)) (by unfold Func.isWrapper; first | (rw [if_pos (by decide +kernel)]; kernel_rfl) | (rw [if_neg (by decide +kernel)]; exact ⟨rfl, rfl⟩))
    (fun os started H enc _ => lifted os started H enc)
theorem proved : Rows.RegsWordsSaid := over
#print axioms proved
end Go.Proofs.Ytmglilncdffbkaa.regsWords
namespace Go.Proofs.Ytmglilncdffbkaa
/-- The row, under a short name, for the claim. -/
theorem regsWords_holds : Rows.RegsWordsSaid := regsWords.proved
end Go.Proofs.Ytmglilncdffbkaa
