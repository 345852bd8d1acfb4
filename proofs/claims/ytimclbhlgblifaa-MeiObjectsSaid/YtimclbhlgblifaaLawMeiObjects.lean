/- MeiObjects: for every input the law returns true, and what came in reads as it did. Conditions: none. -/
import Derived.Test.YtimclbhlgblifaaRows
import Derived.Test.YtimclbhlgblifaaXMeiObjects
import Derived.Test.YtimclbhlgblifaaOpen
import Derived.WalkKit
import Derived.ProofKit
import Derived.OpenShut
import Derived.ShutString
import Derived.ChangeOld
import Derived.Below
import Derived.SizedLaws
set_option linter.unusedVariables false
set_option linter.unusedSimpArgs false
namespace Go.Proofs.Ytimclbhlgblifaa.meiObjects
open Go.ChangeShapes Go.WideShapes Go.ChangeAt Go.RowKit Go.Deep Go.Proofs.YtimclbhlgblifaaW.PrintWords Go.Proofs.Ytimclbhlgblifaa.Open Go.Proofs.Ytimclbhlgblifaa.P
open Go.ChangeMaps (open_string shut_string)
def gi_u8 (n : Int) : Prop := (Lit.int .u8 n).wf = true
def gs5 (l : (List Int)) : Prop := l.length ≤ maxLen ∧ ∀ x ∈ l, gi_u8 x
def gt43 (x : S43) : Prop := gi_u8 x.f0 ∧ gs5 x.f1
def gs43 (l : (List S43)) : Prop := l.length ≤ maxLen ∧ ∀ x ∈ l, gt43 x
theorem opens5 {H : Type} {enc : TypeId × Value → H} {W : World} {base : Nat} {held : Bool} : Opens enc Try.prog W base held 5 (Kd.int .u8) gi_u8 := opens_int Try.underlying5
theorem opens22 {H : Type} {enc : TypeId × Value → H} {W : World} {base : Nat} {held : Bool} : Opens enc Try.prog W base held 22 (Kd.slice 5 (Kd.int .u8)) gs5 := opens_slice Try.underlying22 (by kernel_rfl) opens5
theorem opens43 {H : Type} {enc : TypeId × Value → H} {W : World} {base : Nat} {held : Bool} : Opens enc Try.prog W base held 43 k43 gt43 := by
  intro fuel cs x h
  obtain ⟨xs, n, _, _, hl, hlen, hf⟩ := DataW.trod_struct Try.underlying43 h
  replace hl : cs.length = 2 := hl.trans (by kernel_rfl)
  obtain ⟨c0, c1, rfl⟩ : ∃ c0 c1, cs = [c0, c1] := by
    match cs, hl with
    | [c0, c1], _ => exact ⟨c0, c1, rfl⟩
  obtain ⟨y0, k0_, g0⟩ := opens_at hf hlen (by kernel_rfl) 0 _ rfl c0 rfl (opens5 (enc := enc) (W := W) (base := base) (held := held))
  obtain ⟨y1, k1_, g1⟩ := opens_at hf hlen (by kernel_rfl) 1 _ rfl c1 rfl (opens22 (enc := enc) (W := W) (base := base) (held := held))
  injection (show [c0] = [_] from k0_) with e0 _
  subst e0
  obtain ⟨A1, d1, e1, l1, q1⟩ := k1_
  injection e1 with e1 _
  subst e1
  exact ⟨⟨y0, y1⟩, k43_mk W _ l1 q1, ⟨g0, g1⟩⟩
theorem opens28 {H : Type} {enc : TypeId × Value → H} {W : World} {base : Nat} {held : Bool} : Opens enc Try.prog W base held 28 (Kd.slice 43 k43) gs43 := opens_slice Try.underlying28 (by kernel_rfl) opens43
theorem own : ownKnob Try.prog.godebug = none := by kernel_rfl
theorem laidOut : laidOutB Try.prog = true := by kernel_rfl
set_option maxRecDepth 100000 in
theorem lifted (os : Os) (started : os.Started) (H : Type) (enc : TypeId × Value → H) :
    ReturnsInHanded {} Try.checked os 6 .any (Rows.meiObjectsSpec.pre6 enc Try.prog Try.f6 Rows.meiObjectsRow.domain false) (Rows.meiObjectsSpec.post enc Try.prog Try.f6 false true false false) := by
  refine returnsInHanded_of_change_sized (C := Try.checked) own started (by kernel_rfl) Try.func6
    (ChangeSpec.witness6 (enc := enc) (C := Try.checked) false ⟨#[], #[.slice none 0 0, .int .u8 0], []⟩ 8 (by kernel_rfl) (by kernel_rfl) (by kernel_rfl) (by kernel_rfl)) ?_
  intro W base args ds gs before hval0 hW hcnd hsz0 _
  have hval : ∀ (j : Nat) t v, Try.f6.params[j]? = some t → args[j]? = some v → Value.okWide Try.prog W .any base t v := hval0
  have hW' := hW
  obtain ⟨p, q, hA0, hV, rfl, hfz, hnd⟩ := hW
  have hA : DataW.TrodAll enc Try.prog W 0 (fun _ => true) true Try.f6.params.toList args.toList ds p := hA0
  rw [Try.params6] at hA hval
  obtain ⟨v0, vs0, d0, ds0, p0, q0, hargs, rfl, rfl, h0, r0⟩ := trodAll_cons hA
  obtain ⟨v1, vs1, d1, ds1, p1, q1, rfl, rfl, rfl, h1, r1⟩ := trodAll_cons r0
  obtain ⟨rfl, rfl, rfl⟩ := trodAll_nil r1
  obtain rfl : args = #[v0, v1] := by cases args; simp_all
  obtain ⟨rfl, rfl⟩ := trodVars_none hV
  obtain ⟨A0, len0, c0, rfl⟩ := okWide_slice Try.underlying28 (hval 0 28 v0 rfl rfl)
  have k0 := h0
  have lt0 : ∀ x ∈ p0, x.block < W.heap.size := by obtain ⟨m, hm⟩ := k0; exact DataW.trod_lt m _ _ _ hm
  obtain ⟨l0, rfl, hr0, hc0, hm0, hw0⟩ := open_slice_arg h0 (opens28 (enc := enc) (W := W) (base := 0) (held := true))
  obtain ⟨a1, rfl, rfl, rfl, w1⟩ := open_int Try.underlying5 (hval 1 5 v1 rfl rfl) h1
  clear hA0 hval0 hsz0
  refine (Go.Proofs.Ytimclbhlgblifaa.Laws.busbarlaw12_MeiObjects A0 c0 l0 a1 W hr0 hc0 hm0 hw0 w1).mono fun e W' ⟨he, bel⟩ => ?_
  subst he
  exact ⟨_, rfl, _, _, _, [], _, [], hW', trodAll_mk1 (shut_bool Try.underlying4 _), (trodAll_cons_mk (Below.trod laidOut (by kernel_rfl) (of_decide_eq_true (by kernel_rfl)) k0 bel lt0) (trodAll_cons_mk (shut_int Try.underlying5 w1) trodAll_mk0)), rfl, bel.frame _, fun h => by cases h⟩
theorem over : Rows.meiObjectsRow.holds Try.pinned (OpenSpec.ofChange Rows.meiObjectsSpec) :=
  OpenClaim.holds_of_wide 6 Try.f6 rfl rfl rfl rfl rfl rfl rfl ⟨rfl, rfl, rfl, rfl, rfl⟩ rfl rfl rfl rfl rfl (by kernel_rfl) Try.func6 (by kernel_rfl)
    (of_decide_eq_true (by kernel_rfl)) (by unfold Func.isWrapper; first | (rw [if_pos (by decide +kernel)]; kernel_rfl) | (rw [if_neg (by decide +kernel)]; exact ⟨rfl, rfl⟩))
    (fun os started H enc _ => lifted os started H enc)
theorem proved : Rows.MeiObjectsSaid := over
#print axioms proved
end Go.Proofs.Ytimclbhlgblifaa.meiObjects
namespace Go.Proofs.Ytimclbhlgblifaa
/-- The row, under a short name, for the claim. -/
theorem meiObjects_holds : Rows.MeiObjectsSaid := meiObjects.proved
end Go.Proofs.Ytimclbhlgblifaa
