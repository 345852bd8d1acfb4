/- CoilsSets: for every input the law returns true, and what came in reads as it did. Conditions: none. -/
import Derived.Test.YtggiobdjepgkfaaRows
import Derived.Test.YtggiobdjepgkfaaXCoilsSets
import Derived.WalkKit
import Derived.ProofKit
import Derived.OpenShut
import Derived.ShutString
import Derived.ChangeOld
import Derived.Below
import Derived.SizedLaws
set_option linter.unusedVariables false
set_option linter.unusedSimpArgs false
namespace Go.Proofs.Ytggiobdjepgkfaa.coilsSets
open Go.ChangeShapes Go.WideShapes Go.ChangeAt Go.RowKit Go.Deep Go.Proofs.YtggiobdjepgkfaaW.PrintWords Go.Proofs.Ytggiobdjepgkfaa.Open Go.Proofs.Ytggiobdjepgkfaa.P
open Go.ChangeMaps (open_string shut_string)
def gi_u16 (n : Int) : Prop := (Lit.int .u16 n).wf = true
def gb (_ : Bool) : Prop := True
def gs4 (l : (List Bool)) : Prop := l.length ≤ maxLen ∧ ∀ x ∈ l, gb x
theorem opens4 {H : Type} {enc : TypeId × Value → H} {W : World} {base : Nat} {held : Bool} : Opens enc Try.prog W base held 4 Kd.bool gb := opens_bool Try.underlying4
theorem opens26 {H : Type} {enc : TypeId × Value → H} {W : World} {base : Nat} {held : Bool} : Opens enc Try.prog W base held 26 (Kd.slice 4 Kd.bool) gs4 := opens_slice Try.underlying26 (by kernel_rfl) opens4
theorem own : ownKnob Try.prog.godebug = none := by kernel_rfl
theorem laidOut : laidOutB Try.prog = true := by kernel_rfl
set_option maxRecDepth 100000 in
theorem lifted (os : Os) (started : os.Started) (H : Type) (enc : TypeId × Value → H) :
    ReturnsInHanded {} Try.checked os 7 .any (Rows.coilsSetsSpec.pre6 enc Try.prog Try.f7 Rows.coilsSetsRow.domain false) (Rows.coilsSetsSpec.post enc Try.prog Try.f7 false true false false) := by
  refine returnsInHanded_of_change_sized (C := Try.checked) own started (by kernel_rfl) Try.func7
    (ChangeSpec.witness6 (enc := enc) (C := Try.checked) false ⟨#[], #[.int .u16 0, .slice none 0 0], []⟩ 8 (by kernel_rfl) (by kernel_rfl) (by kernel_rfl) (by kernel_rfl)) ?_
  intro W base args ds gs before hval0 hW hcnd hsz0 _
  have hval : ∀ (j : Nat) t v, Try.f7.params[j]? = some t → args[j]? = some v → Value.okWide Try.prog W .any base t v := hval0
  have hW' := hW
  obtain ⟨p, q, hA0, hV, rfl, hfz, hnd⟩ := hW
  have hA : DataW.TrodAll enc Try.prog W 0 (fun _ => true) true Try.f7.params.toList args.toList ds p := hA0
  rw [Try.params7] at hA hval
  obtain ⟨v0, vs0, d0, ds0, p0, q0, hargs, rfl, rfl, h0, r0⟩ := trodAll_cons hA
  obtain ⟨v1, vs1, d1, ds1, p1, q1, rfl, rfl, rfl, h1, r1⟩ := trodAll_cons r0
  obtain ⟨rfl, rfl, rfl⟩ := trodAll_nil r1
  obtain rfl : args = #[v0, v1] := by cases args; simp_all
  obtain ⟨rfl, rfl⟩ := trodVars_none hV
  obtain ⟨a0, rfl, rfl, rfl, w0⟩ := open_int Try.underlying24 (hval 0 24 v0 rfl rfl) h0
  obtain ⟨A1, len1, c1, rfl⟩ := okWide_slice Try.underlying26 (hval 1 26 v1 rfl rfl)
  have k1 := h1
  have lt1 : ∀ x ∈ p1, x.block < W.heap.size := by obtain ⟨m, hm⟩ := k1; exact DataW.trod_lt m _ _ _ hm
  obtain ⟨l1, rfl, hr1, hc1, hm1, hw1⟩ := open_slice_arg h1 (opens26 (enc := enc) (W := W) (base := 0) (held := true))
  clear hA0 hval0 hsz0
  refine (Go.Proofs.Ytggiobdjepgkfaa.Laws.busbarlaw08_CoilsSets a0 A1 c1 l1 W hr1 hc1 w0 hm1 hw1).mono fun e W' ⟨he, bel⟩ => ?_
  subst he
  exact ⟨_, rfl, _, _, _, [], _, [], hW', trodAll_mk1 (shut_bool Try.underlying4 _), (trodAll_cons_mk (shut_int Try.underlying24 w0) (trodAll_cons_mk (Below.trod laidOut (by kernel_rfl) (of_decide_eq_true (by kernel_rfl)) k1 bel lt1) trodAll_mk0)), rfl, bel.frame _, fun h => by cases h⟩
theorem over : Rows.coilsSetsRow.holds Try.pinned (OpenSpec.ofChange Rows.coilsSetsSpec) :=
  OpenClaim.holds_of_wide 7 Try.f7 rfl rfl rfl rfl rfl rfl rfl ⟨rfl, rfl, rfl, rfl, rfl⟩ rfl rfl rfl rfl rfl (by kernel_rfl) Try.func7 (by kernel_rfl)
    (of_decide_eq_true (by kernel_rfl)) (by unfold Func.isWrapper; first | (rw [if_pos (by decide +kernel)]; kernel_rfl) | (rw [if_neg (by decide +kernel)]; exact ⟨rfl, rfl⟩))
    (fun os started H enc _ => lifted os started H enc)
theorem proved : Rows.CoilsSetsSaid := over
#print axioms proved
end Go.Proofs.Ytggiobdjepgkfaa.coilsSets
namespace Go.Proofs.Ytggiobdjepgkfaa
/-- The row, under a short name, for the claim. -/
theorem coilsSets_holds : Rows.CoilsSetsSaid := coilsSets.proved
end Go.Proofs.Ytggiobdjepgkfaa
