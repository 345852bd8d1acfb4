/- CursorReads: for every input the law returns true, and what came in reads as it did. Conditions: none. -/
import Derived.Test.YthhkjmoppaopjaaRows
import Derived.Test.YthhkjmoppaopjaaLaw06e
import Derived.Test.YthhkjmoppaopjaaOpen
import Derived.WalkKit
import Derived.ProofKit
import Derived.OpenShut
import Derived.ShutString
import Derived.ChangeOld
import Derived.Below
import Derived.SizedLaws
set_option linter.unusedVariables false
set_option linter.unusedSimpArgs false
namespace Go.Proofs.Ythhkjmoppaopjaa.cursorReads
open Go.ChangeShapes Go.WideShapes Go.ChangeAt Go.RowKit Go.Deep Go.Proofs.YthhkjmoppaopjaaW.PrintWords Go.Proofs.Ythhkjmoppaopjaa.Open Go.Proofs.Ythhkjmoppaopjaa.P
open Go.ChangeMaps (open_string shut_string)
def gi_u8 (n : Int) : Prop := (Lit.int .u8 n).wf = true
def gs5 (l : (List Int)) : Prop := l.length ≤ maxLen ∧ ∀ x ∈ l, gi_u8 x
theorem opens5 {H : Type} {enc : TypeId × Value → H} {W : World} {base : Nat} {held : Bool} : Opens enc Try.prog W base held 5 (Kd.int .u8) gi_u8 := opens_int Try.underlying5
theorem opens22 {H : Type} {enc : TypeId × Value → H} {W : World} {base : Nat} {held : Bool} : Opens enc Try.prog W base held 22 (Kd.slice 5 (Kd.int .u8)) gs5 := opens_slice Try.underlying22 (by kernel_rfl) opens5
def gi_i64 (n : Int) : Prop := (Lit.int .i64 n).wf = true
def gt41 (x : S41) : Prop := gi_i64 x.f0 ∧ gi_i64 x.f1
def gs41 (l : (List S41)) : Prop := l.length ≤ maxLen ∧ ∀ x ∈ l, gt41 x
theorem opens3 {H : Type} {enc : TypeId × Value → H} {W : World} {base : Nat} {held : Bool} : Opens enc Try.prog W base held 3 (Kd.int .i64) gi_i64 := opens_int Try.underlying3
theorem opens41 {H : Type} {enc : TypeId × Value → H} {W : World} {base : Nat} {held : Bool} : Opens enc Try.prog W base held 41 k41 gt41 := by
  intro fuel cs x h
  obtain ⟨xs, n, _, _, hl, hlen, hf⟩ := DataW.trod_struct Try.underlying41 h
  replace hl : cs.length = 2 := hl.trans (by kernel_rfl)
  obtain ⟨c0, c1, rfl⟩ : ∃ c0 c1, cs = [c0, c1] := by
    match cs, hl with
    | [c0, c1], _ => exact ⟨c0, c1, rfl⟩
  obtain ⟨y0, k0_, g0⟩ := opens_at hf hlen (by kernel_rfl) 0 _ rfl c0 rfl (opens3 (enc := enc) (W := W) (base := base) (held := held))
  obtain ⟨y1, k1_, g1⟩ := opens_at hf hlen (by kernel_rfl) 1 _ rfl c1 rfl (opens3 (enc := enc) (W := W) (base := base) (held := held))
  injection (show [c0] = [_] from k0_) with e0 _
  subst e0
  injection (show [c1] = [_] from k1_) with e1 _
  subst e1
  exact ⟨⟨y0, y1⟩, k41_mk W _ , ⟨g0, g1⟩⟩
theorem opens38 {H : Type} {enc : TypeId × Value → H} {W : World} {base : Nat} {held : Bool} : Opens enc Try.prog W base held 38 (Kd.slice 41 k41) gs41 := opens_slice Try.underlying38 (by kernel_rfl) opens41
theorem own : ownKnob Try.prog.godebug = none := by kernel_rfl
theorem laidOut : laidOutB Try.prog = true := by kernel_rfl
set_option maxRecDepth 100000 in
theorem lifted (os : Os) (started : os.Started) (H : Type) (enc : TypeId × Value → H) :
    ReturnsInHanded {} Try.checked os 7 .any (Rows.cursorReadsSpec.pre6 enc Try.prog Try.f7 Rows.cursorReadsRow.domain false) (Rows.cursorReadsSpec.post enc Try.prog Try.f7 false true false false) := by
  refine returnsInHanded_of_change_sized (C := Try.checked) own started (by kernel_rfl) Try.func7
    (ChangeSpec.witness6 (enc := enc) (C := Try.checked) false ⟨#[], #[.slice none 0 0, .slice none 0 0], []⟩ 8 (by kernel_rfl) (by kernel_rfl) (by kernel_rfl) (by kernel_rfl)) ?_
  intro W base args ds gs before hval0 hW hcnd hsz0 _
  have hval : ∀ (j : Nat) t v, Try.f7.params[j]? = some t → args[j]? = some v → Value.okWide Try.prog W .any base t v := hval0
  have hW' := hW
  obtain ⟨p, q, hA0, hV, rfl, hfz, hnd⟩ := hW
  have hA : DataW.TrodAll enc Try.prog W 0 (fun _ => true) true Try.f7.params.toList args.toList ds p := hA0
  rw [Try.params7] at hA hval
  obtain ⟨v0, vs0, d0, ds0, p0, q0, hargs, rfl, rfl, h0, r0⟩ := trodAll_cons hA
  obtain ⟨v1, vs1, d1, ds1, p1, q1, rfl, rfl, rfl, h1, r1⟩ := trodAll_cons r0
  obtain ⟨rfl, rfl, rfl⟩ := trodAll_nil r1
  obtain rfl : args = #[v0, v1] := by cases args; simp_all
  obtain ⟨rfl, rfl⟩ := trodVars_none hV
  obtain ⟨A0, len0, c0, rfl⟩ := okWide_slice Try.underlying22 (hval 0 22 v0 rfl rfl)
  have k0 := h0
  have lt0 : ∀ x ∈ p0, x.block < W.heap.size := by obtain ⟨m, hm⟩ := k0; exact DataW.trod_lt m _ _ _ hm
  obtain ⟨l0, rfl, hr0, hc0, hm0, hw0⟩ := open_slice_arg h0 (opens22 (enc := enc) (W := W) (base := 0) (held := true))
  obtain ⟨A1, len1, c1, rfl⟩ := okWide_slice Try.underlying38 (hval 1 38 v1 rfl rfl)
  have k1 := h1
  have lt1 : ∀ x ∈ p1, x.block < W.heap.size := by obtain ⟨m, hm⟩ := k1; exact DataW.trod_lt m _ _ _ hm
  obtain ⟨l1, rfl, hr1, hc1, hm1, hw1⟩ := open_slice_arg h1 (opens38 (enc := enc) (W := W) (base := 0) (held := true))
  clear hA0 hval0 hsz0
  refine (Go.Proofs.Ythhkjmoppaopjaa.Laws.busbarlaw06_CursorReads A0 c0 l0 A1 c1 l1 W hr0 hc0 hr1 hc1 hm0 hw0 hm1 hw1).mono fun e W' ⟨he, bel⟩ => ?_
  subst he
  exact ⟨_, rfl, _, _, _, [], _, [], hW', trodAll_mk1 (shut_bool Try.underlying4 _), (trodAll_cons_mk (Below.trod laidOut (by kernel_rfl) (of_decide_eq_true (by kernel_rfl)) k0 bel lt0) (trodAll_cons_mk (Below.trod laidOut (by kernel_rfl) (of_decide_eq_true (by kernel_rfl)) k1 bel lt1) trodAll_mk0)), rfl, bel.frame _, fun h => by cases h⟩
theorem over : Rows.cursorReadsRow.holds Try.pinned (OpenSpec.ofChange Rows.cursorReadsSpec) :=
  OpenClaim.holds_of_wide 7 Try.f7 rfl rfl rfl rfl rfl rfl rfl ⟨rfl, rfl, rfl, rfl, rfl⟩ rfl rfl rfl rfl rfl (by kernel_rfl) Try.func7 (by kernel_rfl)
    (of_decide_eq_true (by kernel_rfl)) (by unfold Func.isWrapper; first | (rw [if_pos (by decide +kernel)]; kernel_rfl) | (rw [if_neg (by decide +kernel)]; exact ⟨rfl, rfl⟩))
    (fun os started H enc _ => lifted os started H enc)
theorem proved : Rows.CursorReadsSaid := over
#print axioms proved
end Go.Proofs.Ythhkjmoppaopjaa.cursorReads
namespace Go.Proofs.Ythhkjmoppaopjaa
/-- The row, under a short name, for the claim. -/
theorem cursorReads_holds : Rows.CursorReadsSaid := cursorReads.proved
end Go.Proofs.Ythhkjmoppaopjaa
