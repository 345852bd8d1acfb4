/- FilesParses: for every input the law returns true, and what came in reads as it did. Conditions: none. -/
import Derived.Test.YtdjeekpgcjcffaaRows
import Derived.Test.YtdjeekpgcjcffaaXFilesParses
import Derived.WalkKit
import Derived.ProofKit
import Derived.OpenShut
import Derived.ShutString
import Derived.ChangeOld
import Derived.Below
import Derived.SizedLaws
set_option linter.unusedVariables false
set_option linter.unusedSimpArgs false
namespace Go.Proofs.Ytdjeekpgcjcffaa.filesParses
open Go.ChangeShapes Go.WideShapes Go.ChangeAt Go.RowKit Go.Deep Go.Proofs.YtdjeekpgcjcffaaW.PrintWords Go.Proofs.Ytdjeekpgcjcffaa.Open Go.Proofs.Ytdjeekpgcjcffaa.P
open Go.ChangeMaps (open_string shut_string)
def gi_i64 (n : Int) : Prop := (Lit.int .i64 n).wf = true
def gi_u8 (n : Int) : Prop := (Lit.int .u8 n).wf = true
def gs5 (l : (List Int)) : Prop := l.length ≤ maxLen ∧ ∀ x ∈ l, gi_u8 x
theorem opens5 {H : Type} {enc : TypeId × Value → H} {W : World} {base : Nat} {held : Bool} : Opens enc Try.prog W base held 5 (Kd.int .u8) gi_u8 := opens_int Try.underlying5
theorem opens22 {H : Type} {enc : TypeId × Value → H} {W : World} {base : Nat} {held : Bool} : Opens enc Try.prog W base held 22 (Kd.slice 5 (Kd.int .u8)) gs5 := opens_slice Try.underlying22 (by kernel_rfl) opens5
theorem own : ownKnob Try.prog.godebug = none := by kernel_rfl
theorem laidOut : laidOutB Try.prog = true := by kernel_rfl
set_option maxRecDepth 100000 in
theorem lifted (os : Os) (started : os.Started) (H : Type) (enc : TypeId × Value → H) :
    ReturnsInHanded {} Try.checked os 3 .any (Rows.filesParsesSpec.pre6 enc Try.prog Try.f3 Rows.filesParsesRow.domain false) (Rows.filesParsesSpec.post enc Try.prog Try.f3 false true false false) := by
  refine returnsInHanded_of_change_sized (C := Try.checked) own started (by kernel_rfl) Try.func3
    (ChangeSpec.witness6 (enc := enc) (C := Try.checked) false ⟨#[], #[.int .i64 0, .int .u8 0, .slice none 0 0], []⟩ 8 (by kernel_rfl) (by kernel_rfl) (by kernel_rfl) (by kernel_rfl)) ?_
  intro W base args ds gs before hval0 hW hcnd hsz0 _
  have hval : ∀ (j : Nat) t v, Try.f3.params[j]? = some t → args[j]? = some v → Value.okWide Try.prog W .any base t v := hval0
  have hW' := hW
  obtain ⟨p, q, hA0, hV, rfl, hfz, hnd⟩ := hW
  have hA : DataW.TrodAll enc Try.prog W 0 (fun _ => true) true Try.f3.params.toList args.toList ds p := hA0
  rw [Try.params3] at hA hval
  obtain ⟨v0, vs0, d0, ds0, p0, q0, hargs, rfl, rfl, h0, r0⟩ := trodAll_cons hA
  obtain ⟨v1, vs1, d1, ds1, p1, q1, rfl, rfl, rfl, h1, r1⟩ := trodAll_cons r0
  obtain ⟨v2, vs2, d2, ds2, p2, q2, rfl, rfl, rfl, h2, r2⟩ := trodAll_cons r1
  obtain ⟨rfl, rfl, rfl⟩ := trodAll_nil r2
  obtain rfl : args = #[v0, v1, v2] := by cases args; simp_all
  obtain ⟨rfl, rfl⟩ := trodVars_none hV
  obtain ⟨a0, rfl, rfl, rfl, w0⟩ := open_int Try.underlying3 (hval 0 3 v0 rfl rfl) h0
  obtain ⟨a1, rfl, rfl, rfl, w1⟩ := open_int Try.underlying5 (hval 1 5 v1 rfl rfl) h1
  obtain ⟨A2, len2, c2, rfl⟩ := okWide_slice Try.underlying22 (hval 2 22 v2 rfl rfl)
  have k2 := h2
  have lt2 : ∀ x ∈ p2, x.block < W.heap.size := by obtain ⟨m, hm⟩ := k2; exact DataW.trod_lt m _ _ _ hm
  obtain ⟨l2, rfl, hr2, hc2, hm2, hw2⟩ := open_slice_arg h2 (opens22 (enc := enc) (W := W) (base := 0) (held := true))
  clear hA0 hval0 hsz0
  refine (Go.Proofs.Ytdjeekpgcjcffaa.Laws.busbarlaw11_FilesParses a0 a1 A2 c2 l2 W hr2 hc2 w0 w1 hm2 hw2).mono fun e W' ⟨he, bel⟩ => ?_
  subst he
  exact ⟨_, rfl, _, _, _, [], _, [], hW', trodAll_mk1 (shut_bool Try.underlying4 _), (trodAll_cons_mk (shut_int Try.underlying3 w0) (trodAll_cons_mk (shut_int Try.underlying5 w1) (trodAll_cons_mk (Below.trod laidOut (by kernel_rfl) (of_decide_eq_true (by kernel_rfl)) k2 bel lt2) trodAll_mk0))), rfl, bel.frame _, fun h => by cases h⟩
theorem over : Rows.filesParsesRow.holds Try.pinned (OpenSpec.ofChange Rows.filesParsesSpec) :=
  OpenClaim.holds_of_wide 3 Try.f3 rfl rfl rfl rfl rfl rfl rfl ⟨rfl, rfl, rfl, rfl, rfl⟩ rfl rfl rfl rfl rfl (by kernel_rfl) Try.func3 (by kernel_rfl)
    (of_decide_eq_true (by kernel_rfl)) (by unfold Func.isWrapper; first | (rw [if_pos (by decide +kernel)]; kernel_rfl) | (rw [if_neg (by decide +kernel)]; exact ⟨rfl, rfl⟩))
    (fun os started H enc _ => lifted os started H enc)
theorem proved : Rows.FilesParsesSaid := over
#print axioms proved
end Go.Proofs.Ytdjeekpgcjcffaa.filesParses
namespace Go.Proofs.Ytdjeekpgcjcffaa
/-- The row, under a short name, for the claim. -/
theorem filesParses_holds : Rows.FilesParsesSaid := filesParses.proved
end Go.Proofs.Ytdjeekpgcjcffaa
