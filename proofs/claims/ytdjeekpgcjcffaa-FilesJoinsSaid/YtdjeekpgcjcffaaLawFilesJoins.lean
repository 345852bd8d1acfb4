/- FilesJoins: for every input the law returns true, and what came in reads as it did. Conditions: none. -/
import Derived.Test.YtdjeekpgcjcffaaRows
import Derived.Test.YtdjeekpgcjcffaaXFilesJoins
import Derived.WalkKit
import Derived.ProofKit
import Derived.OpenShut
import Derived.ShutString
import Derived.ChangeOld
import Derived.Below
import Derived.SizedLaws
set_option linter.unusedVariables false
set_option linter.unusedSimpArgs false
namespace Go.Proofs.Ytdjeekpgcjcffaa.filesJoins
open Go.ChangeShapes Go.WideShapes Go.ChangeAt Go.RowKit Go.Deep Go.Proofs.YtdjeekpgcjcffaaW.PrintWords Go.Proofs.Ytdjeekpgcjcffaa.Open Go.Proofs.Ytdjeekpgcjcffaa.P
open Go.ChangeMaps (open_string shut_string)
def gb (_ : Bool) : Prop := True
def gi_u16 (n : Int) : Prop := (Lit.int .u16 n).wf = true
def gs24 (l : (List Int)) : Prop := l.length ≤ maxLen ∧ ∀ x ∈ l, gi_u16 x
def gt43 (x : S43) : Prop := gi_u16 x.f0 ∧ gi_u16 x.f1 ∧ gi_u16 x.f2 ∧ gs24 x.f3
def gs43 (l : (List S43)) : Prop := l.length ≤ maxLen ∧ ∀ x ∈ l, gt43 x
theorem opens24 {H : Type} {enc : TypeId × Value → H} {W : World} {base : Nat} {held : Bool} : Opens enc Try.prog W base held 24 (Kd.int .u16) gi_u16 := opens_int Try.underlying24
theorem opens25 {H : Type} {enc : TypeId × Value → H} {W : World} {base : Nat} {held : Bool} : Opens enc Try.prog W base held 25 (Kd.slice 24 (Kd.int .u16)) gs24 := opens_slice Try.underlying25 (by kernel_rfl) opens24
theorem opens43 {H : Type} {enc : TypeId × Value → H} {W : World} {base : Nat} {held : Bool} : Opens enc Try.prog W base held 43 k43 gt43 := by
  intro fuel cs x h
  obtain ⟨xs, n, _, _, hl, hlen, hf⟩ := DataW.trod_struct Try.underlying43 h
  replace hl : cs.length = 4 := hl.trans (by kernel_rfl)
  obtain ⟨c0, c1, c2, c3, rfl⟩ : ∃ c0 c1 c2 c3, cs = [c0, c1, c2, c3] := by
    match cs, hl with
    | [c0, c1, c2, c3], _ => exact ⟨c0, c1, c2, c3, rfl⟩
  obtain ⟨y0, k0_, g0⟩ := opens_at hf hlen (by kernel_rfl) 0 _ rfl c0 rfl (opens24 (enc := enc) (W := W) (base := base) (held := held))
  obtain ⟨y1, k1_, g1⟩ := opens_at hf hlen (by kernel_rfl) 1 _ rfl c1 rfl (opens24 (enc := enc) (W := W) (base := base) (held := held))
  obtain ⟨y2, k2_, g2⟩ := opens_at hf hlen (by kernel_rfl) 2 _ rfl c2 rfl (opens24 (enc := enc) (W := W) (base := base) (held := held))
  obtain ⟨y3, k3_, g3⟩ := opens_at hf hlen (by kernel_rfl) 3 _ rfl c3 rfl (opens25 (enc := enc) (W := W) (base := base) (held := held))
  injection (show [c0] = [_] from k0_) with e0 _
  subst e0
  injection (show [c1] = [_] from k1_) with e1 _
  subst e1
  injection (show [c2] = [_] from k2_) with e2 _
  subst e2
  obtain ⟨A3, d3, e3, l3, q3⟩ := k3_
  injection e3 with e3 _
  subst e3
  exact ⟨⟨y0, y1, y2, y3⟩, k43_mk W _ l3 q3, ⟨g0, g1, g2, g3⟩⟩
theorem opens27 {H : Type} {enc : TypeId × Value → H} {W : World} {base : Nat} {held : Bool} : Opens enc Try.prog W base held 27 (Kd.slice 43 k43) gs43 := opens_slice Try.underlying27 (by kernel_rfl) opens43
theorem own : ownKnob Try.prog.godebug = none := by kernel_rfl
theorem laidOut : laidOutB Try.prog = true := by kernel_rfl
set_option maxRecDepth 100000 in
theorem lifted (os : Os) (started : os.Started) (H : Type) (enc : TypeId × Value → H) :
    ReturnsInHanded {} Try.checked os 9 .any (Rows.filesJoinsSpec.pre6 enc Try.prog Try.f9 Rows.filesJoinsRow.domain false) (Rows.filesJoinsSpec.post enc Try.prog Try.f9 false true false false) := by
  refine returnsInHanded_of_change_sized (C := Try.checked) own started (by kernel_rfl) Try.func9
    (ChangeSpec.witness6 (enc := enc) (C := Try.checked) false ⟨#[], #[.bool false, .slice none 0 0, .slice none 0 0], []⟩ 8 (by kernel_rfl) (by kernel_rfl) (by kernel_rfl) (by kernel_rfl)) ?_
  intro W base args ds gs before hval0 hW hcnd hsz0 _
  have hval : ∀ (j : Nat) t v, Try.f9.params[j]? = some t → args[j]? = some v → Value.okWide Try.prog W .any base t v := hval0
  have hW' := hW
  obtain ⟨p, q, hA0, hV, rfl, hfz, hnd⟩ := hW
  have hA : DataW.TrodAll enc Try.prog W 0 (fun _ => true) true Try.f9.params.toList args.toList ds p := hA0
  rw [Try.params9] at hA hval
  obtain ⟨v0, vs0, d0, ds0, p0, q0, hargs, rfl, rfl, h0, r0⟩ := trodAll_cons hA
  obtain ⟨v1, vs1, d1, ds1, p1, q1, rfl, rfl, rfl, h1, r1⟩ := trodAll_cons r0
  obtain ⟨v2, vs2, d2, ds2, p2, q2, rfl, rfl, rfl, h2, r2⟩ := trodAll_cons r1
  obtain ⟨rfl, rfl, rfl⟩ := trodAll_nil r2
  obtain rfl : args = #[v0, v1, v2] := by cases args; simp_all
  obtain ⟨rfl, rfl⟩ := trodVars_none hV
  obtain ⟨a0, rfl, rfl, rfl⟩ := open_bool Try.underlying4 (hval 0 4 v0 rfl rfl) h0
  obtain ⟨A1, len1, c1, rfl⟩ := okWide_slice Try.underlying27 (hval 1 27 v1 rfl rfl)
  have k1 := h1
  have lt1 : ∀ x ∈ p1, x.block < W.heap.size := by obtain ⟨m, hm⟩ := k1; exact DataW.trod_lt m _ _ _ hm
  obtain ⟨l1, rfl, hr1, hc1, hm1, hw1⟩ := open_slice_arg h1 (opens27 (enc := enc) (W := W) (base := 0) (held := true))
  obtain ⟨A2, len2, c2, rfl⟩ := okWide_slice Try.underlying27 (hval 2 27 v2 rfl rfl)
  have k2 := h2
  have lt2 : ∀ x ∈ p2, x.block < W.heap.size := by obtain ⟨m, hm⟩ := k2; exact DataW.trod_lt m _ _ _ hm
  obtain ⟨l2, rfl, hr2, hc2, hm2, hw2⟩ := open_slice_arg h2 (opens27 (enc := enc) (W := W) (base := 0) (held := true))
  clear hA0 hval0 hsz0
  refine (Go.Proofs.Ytdjeekpgcjcffaa.Laws.busbarlaw11_FilesJoins a0 A1 c1 l1 A2 c2 l2 W hr1 hc1 hr2 hc2 hm1 hw1 hm2 hw2).mono fun e W' ⟨he, bel⟩ => ?_
  subst he
  exact ⟨_, rfl, _, _, _, [], _, [], hW', trodAll_mk1 (shut_bool Try.underlying4 _), (trodAll_cons_mk (shut_bool Try.underlying4 _) (trodAll_cons_mk (Below.trod laidOut (by kernel_rfl) (of_decide_eq_true (by kernel_rfl)) k1 bel lt1) (trodAll_cons_mk (Below.trod laidOut (by kernel_rfl) (of_decide_eq_true (by kernel_rfl)) k2 bel lt2) trodAll_mk0))), rfl, bel.frame _, fun h => by cases h⟩
theorem over : Rows.filesJoinsRow.holds Try.pinned (OpenSpec.ofChange Rows.filesJoinsSpec) :=
  OpenClaim.holds_of_wide 9 Try.f9 rfl rfl rfl rfl rfl rfl rfl ⟨rfl, rfl, rfl, rfl, rfl⟩ rfl rfl rfl rfl rfl (by kernel_rfl) Try.func9 (by kernel_rfl)
    (of_decide_eq_true (by kernel_rfl)) (by unfold Func.isWrapper; first | (rw [if_pos (by decide +kernel)]; kernel_rfl) | (rw [if_neg (by decide +kernel)]; exact ⟨rfl, rfl⟩))
    (fun os started H enc _ => lifted os started H enc)
theorem proved : Rows.FilesJoinsSaid := over
#print axioms proved
end Go.Proofs.Ytdjeekpgcjcffaa.filesJoins
namespace Go.Proofs.Ytdjeekpgcjcffaa
/-- The row, under a short name, for the claim. -/
theorem filesJoins_holds : Rows.FilesJoinsSaid := filesJoins.proved
end Go.Proofs.Ytdjeekpgcjcffaa
