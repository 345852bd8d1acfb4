/- DiagCuts: for every input the law returns true, and what came in reads as it did. Conditions: none. -/
import Derived.Test.YtalaochocmcbcaaRows
import Derived.Test.YtalaochocmcbcaaXDiagCuts
import Derived.WalkKit
import Derived.ProofKit
import Derived.OpenShut
import Derived.ShutString
import Derived.ChangeOld
import Derived.Below
import Derived.SizedLaws
set_option linter.unusedVariables false
set_option linter.unusedSimpArgs false
namespace Go.Proofs.Ytalaochocmcbcaa.diagCuts
open Go.ChangeShapes Go.WideShapes Go.ChangeAt Go.RowKit Go.Deep Go.Proofs.YtalaochocmcbcaaW.PrintWords Go.Proofs.Ytalaochocmcbcaa.Open Go.Proofs.Ytalaochocmcbcaa.P
open Go.ChangeMaps (open_string shut_string)
def gb (_ : Bool) : Prop := True
def gi_u8 (n : Int) : Prop := (Lit.int .u8 n).wf = true
theorem opens5 {H : Type} {enc : TypeId × Value → H} {W : World} {base : Nat} {held : Bool} : Opens enc Try.prog W base held 5 (Kd.int .u8) gi_u8 := opens_int Try.underlying5
def gi_u16 (n : Int) : Prop := (Lit.int .u16 n).wf = true
theorem opens24 {H : Type} {enc : TypeId × Value → H} {W : World} {base : Nat} {held : Bool} : Opens enc Try.prog W base held 24 (Kd.int .u16) gi_u16 := opens_int Try.underlying24
def gs24 (l : (List Int)) : Prop := l.length ≤ maxLen ∧ ∀ x ∈ l, gi_u16 x
theorem opens25 {H : Type} {enc : TypeId × Value → H} {W : World} {base : Nat} {held : Bool} : Opens enc Try.prog W base held 25 (Kd.slice 24 (Kd.int .u16)) gs24 := opens_slice Try.underlying25 (by kernel_rfl) opens24
def gs4 (l : (List Bool)) : Prop := l.length ≤ maxLen ∧ ∀ x ∈ l, gb x
theorem opens4 {H : Type} {enc : TypeId × Value → H} {W : World} {base : Nat} {held : Bool} : Opens enc Try.prog W base held 4 Kd.bool gb := opens_bool Try.underlying4
theorem opens26 {H : Type} {enc : TypeId × Value → H} {W : World} {base : Nat} {held : Bool} : Opens enc Try.prog W base held 26 (Kd.slice 4 Kd.bool) gs4 := opens_slice Try.underlying26 (by kernel_rfl) opens4
def gs5 (l : (List Int)) : Prop := l.length ≤ maxLen ∧ ∀ x ∈ l, gi_u8 x
theorem opens22 {H : Type} {enc : TypeId × Value → H} {W : World} {base : Nat} {held : Bool} : Opens enc Try.prog W base held 22 (Kd.slice 5 (Kd.int .u8)) gs5 := opens_slice Try.underlying22 (by kernel_rfl) opens5
def gt67 (x : S67) : Prop := gi_u16 x.f0 ∧ gi_u16 x.f1 ∧ gi_u16 x.f2 ∧ gs24 x.f3
def gs67 (l : (List S67)) : Prop := l.length ≤ maxLen ∧ ∀ x ∈ l, gt67 x
theorem opens67 {H : Type} {enc : TypeId × Value → H} {W : World} {base : Nat} {held : Bool} : Opens enc Try.prog W base held 67 k67 gt67 := by
  intro fuel cs x h
  obtain ⟨xs, n, _, _, hl, hlen, hf⟩ := DataW.trod_struct Try.underlying67 h
  replace hl : cs.length = 4 := hl.trans (by kernel_rfl)
  obtain ⟨c0, c1, c2, c3, rfl⟩ : ∃ c0 c1 c2 c3, cs = [c0, c1, c2, c3] := by
    match cs, hl with
    | [c0, c1, c2, c3], _ => exact ⟨c0, c1, c2, c3, rfl⟩
  obtain ⟨y0, k0_, g0⟩ := opens_at hf hlen (by kernel_rfl) 0 _ rfl c0 rfl (opens24 (enc := enc) (W := W) (base := base) (held := held))
  obtain ⟨y1, k1_, g1⟩ := opens_at hf hlen (by kernel_rfl) 1 _ rfl c1 rfl (opens24 (enc := enc) (W := W) (base := base) (held := held))
  obtain ⟨y2, k2_, g2⟩ := opens_at hf hlen (by kernel_rfl) 2 _ rfl c2 rfl (opens24 (enc := enc) (W := W) (base := base) (held := held))
  obtain ⟨y3, k3_, g3⟩ := opens_at hf hlen (by kernel_rfl) 3 _ rfl c3 rfl (opens25 (enc := enc) (W := W) (base := base) (held := held))
  injection (show [c0] = [_] from k0_) with e0 _
  subst e0
  injection (show [c1] = [_] from k1_) with e1 _
  subst e1
  injection (show [c2] = [_] from k2_) with e2 _
  subst e2
  obtain ⟨A3, d3, e3, l3, q3⟩ := k3_
  injection e3 with e3 _
  subst e3
  exact ⟨⟨y0, y1, y2, y3⟩, k67_mk W _ l3 q3, ⟨g0, g1, g2, g3⟩⟩
theorem opens27 {H : Type} {enc : TypeId × Value → H} {W : World} {base : Nat} {held : Bool} : Opens enc Try.prog W base held 27 (Kd.slice 67 k67) gs67 := opens_slice Try.underlying27 (by kernel_rfl) opens67
def gt69 (x : S69) : Prop := gi_u8 x.f0 ∧ gs5 x.f1
def gs69 (l : (List S69)) : Prop := l.length ≤ maxLen ∧ ∀ x ∈ l, gt69 x
theorem opens69 {H : Type} {enc : TypeId × Value → H} {W : World} {base : Nat} {held : Bool} : Opens enc Try.prog W base held 69 k69 gt69 := by
  intro fuel cs x h
  obtain ⟨xs, n, _, _, hl, hlen, hf⟩ := DataW.trod_struct Try.underlying69 h
  replace hl : cs.length = 2 := hl.trans (by kernel_rfl)
  obtain ⟨c0, c1, rfl⟩ : ∃ c0 c1, cs = [c0, c1] := by
    match cs, hl with
    | [c0, c1], _ => exact ⟨c0, c1, rfl⟩
  obtain ⟨y0, k0_, g0⟩ := opens_at hf hlen (by kernel_rfl) 0 _ rfl c0 rfl (opens5 (enc := enc) (W := W) (base := base) (held := held))
  obtain ⟨y1, k1_, g1⟩ := opens_at hf hlen (by kernel_rfl) 1 _ rfl c1 rfl (opens22 (enc := enc) (W := W) (base := base) (held := held))
  injection (show [c0] = [_] from k0_) with e0 _
  subst e0
  obtain ⟨A1, d1, e1, l1, q1⟩ := k1_
  injection e1 with e1 _
  subst e1
  exact ⟨⟨y0, y1⟩, k69_mk W _ l1 q1, ⟨g0, g1⟩⟩
theorem opens28 {H : Type} {enc : TypeId × Value → H} {W : World} {base : Nat} {held : Bool} : Opens enc Try.prog W base held 28 (Kd.slice 69 k69) gs69 := opens_slice Try.underlying28 (by kernel_rfl) opens69
theorem gu8_ok {n : Int} (h : (Lit.int .u8 n).wf = true) : Go.Proofs.Ytalaochocmcbcaa.Same.u8B n = true := by
  simp only [Lit.wf, IntKind.min, IntKind.max, IntKind.signed, IntKind.bits, Bool.and_eq_true, decide_eq_true_eq] at h
  simp at h
  unfold Go.Proofs.Ytalaochocmcbcaa.Same.u8B
  simp only [Bool.and_eq_true, decide_eq_true_eq]
  omega
theorem gu16_ok {n : Int} (h : (Lit.int .u16 n).wf = true) : Go.Proofs.Ytalaochocmcbcaa.Same.u16B n = true := by
  simp only [Lit.wf, IntKind.min, IntKind.max, IntKind.signed, IntKind.bits, Bool.and_eq_true, decide_eq_true_eq] at h
  simp at h
  unfold Go.Proofs.Ytalaochocmcbcaa.Same.u16B
  simp only [Bool.and_eq_true, decide_eq_true_eq]
  omega
theorem gu8_bd {n : Int} (h : (Lit.int .u8 n).wf = true) : 0 ≤ n ∧ n < 256 := by
  simp only [Lit.wf, IntKind.min, IntKind.max, IntKind.signed, IntKind.bits, Bool.and_eq_true, decide_eq_true_eq] at h
  simp at h
  omega
theorem gu16_bd {n : Int} (h : (Lit.int .u16 n).wf = true) : 0 ≤ n ∧ n < 65536 := by
  simp only [Lit.wf, IntKind.min, IntKind.max, IntKind.signed, IntKind.bits, Bool.and_eq_true, decide_eq_true_eq] at h
  simp at h
  omega
theorem open_msg {H : Type} {enc : TypeId × Value → H} {W : World} {base : Nat} {held : Bool} (fuel : Nat) (cs : List Value) (x : DataW H × List MemPlace) (h : DataW.trod enc Try.prog W base (fun _ => true) held fuel 30 cs = some x) :
    ∃ (m : Go.Proofs.Ytalaochocmcbcaa.Same.Msg) (A12 : Option Addr) (d12 : Nat) (A13 : Option Addr) (d13 : Nat) (A14 : Option Addr) (d14 : Nat) (A15 : Option Addr) (d15 : Nat) (A21 : Option Addr) (d21 : Nat), cs = [.int .u8 m.code, .int .u8 m.fail, .int .u16 m.addr, .int .u16 m.count, .int .u16 m.value, .int .u16 m.and_, .int .u16 m.or_, .int .u16 m.addr2, .int .u16 m.sub, .int .u16 m.status, .int .u16 m.events, .int .u16 m.messages, .slice A12 m.words.length d12, .slice A13 m.bits.length d13, .slice A14 m.data.length d14, .slice A15 m.recs.length d15, .int .u8 m.mei, .int .u8 m.kind, .int .u8 m.level, .int .u8 m.more, .int .u8 m.next, .slice A21 m.objects.length d21] ∧ Go.Proofs.Ytalaochocmcbcaa.Same.goodM m ∧ (Kd.C (Kd.int .u16) W A12 m.words.length m.words ∧ m.words.length ≤ d12) ∧ (Kd.C Kd.bool W A13 m.bits.length m.bits ∧ m.bits.length ≤ d13) ∧ (Kd.C (Kd.int .u8) W A14 m.data.length m.data ∧ m.data.length ≤ d14) ∧ (Kd.C k67 W A15 m.recs.length m.recs ∧ m.recs.length ≤ d15) ∧ (Kd.C k69 W A21 m.objects.length m.objects ∧ m.objects.length ≤ d21) := by
  obtain ⟨xs, n, _, _, hl, hlen, hf⟩ := DataW.trod_struct Try.underlying30 h
  replace hl : cs.length = 22 := hl.trans (by kernel_rfl)
  obtain ⟨c0, c1, c2, c3, c4, c5, c6, c7, c8, c9, c10, c11, c12, c13, c14, c15, c16, c17, c18, c19, c20, c21, rfl⟩ : ∃ c0 c1 c2 c3 c4 c5 c6 c7 c8 c9 c10 c11 c12 c13 c14 c15 c16 c17 c18 c19 c20 c21, cs = [c0, c1, c2, c3, c4, c5, c6, c7, c8, c9, c10, c11, c12, c13, c14, c15, c16, c17, c18, c19, c20, c21] := by
    match cs, hl with
    | [c0, c1, c2, c3, c4, c5, c6, c7, c8, c9, c10, c11, c12, c13, c14, c15, c16, c17, c18, c19, c20, c21], _ => exact ⟨c0, c1, c2, c3, c4, c5, c6, c7, c8, c9, c10, c11, c12, c13, c14, c15, c16, c17, c18, c19, c20, c21, rfl⟩
  obtain ⟨y0, k0_, g0⟩ := opens_at hf hlen (by kernel_rfl) 0 _ rfl c0 rfl (opens5 (enc := enc) (W := W) (base := base) (held := held))
  injection (show [c0] = [_] from k0_) with e0 _
  subst e0
  obtain ⟨y1, k1_, g1⟩ := opens_at hf hlen (by kernel_rfl) 1 _ rfl c1 rfl (opens5 (enc := enc) (W := W) (base := base) (held := held))
  injection (show [c1] = [_] from k1_) with e1 _
  subst e1
  obtain ⟨y2, k2_, g2⟩ := opens_at hf hlen (by kernel_rfl) 2 _ rfl c2 rfl (opens24 (enc := enc) (W := W) (base := base) (held := held))
  injection (show [c2] = [_] from k2_) with e2 _
  subst e2
  obtain ⟨y3, k3_, g3⟩ := opens_at hf hlen (by kernel_rfl) 3 _ rfl c3 rfl (opens24 (enc := enc) (W := W) (base := base) (held := held))
  injection (show [c3] = [_] from k3_) with e3 _
  subst e3
  obtain ⟨y4, k4_, g4⟩ := opens_at hf hlen (by kernel_rfl) 4 _ rfl c4 rfl (opens24 (enc := enc) (W := W) (base := base) (held := held))
  injection (show [c4] = [_] from k4_) with e4 _
  subst e4
  obtain ⟨y5, k5_, g5⟩ := opens_at hf hlen (by kernel_rfl) 5 _ rfl c5 rfl (opens24 (enc := enc) (W := W) (base := base) (held := held))
  injection (show [c5] = [_] from k5_) with e5 _
  subst e5
  obtain ⟨y6, k6_, g6⟩ := opens_at hf hlen (by kernel_rfl) 6 _ rfl c6 rfl (opens24 (enc := enc) (W := W) (base := base) (held := held))
  injection (show [c6] = [_] from k6_) with e6 _
  subst e6
  obtain ⟨y7, k7_, g7⟩ := opens_at hf hlen (by kernel_rfl) 7 _ rfl c7 rfl (opens24 (enc := enc) (W := W) (base := base) (held := held))
  injection (show [c7] = [_] from k7_) with e7 _
  subst e7
  obtain ⟨y8, k8_, g8⟩ := opens_at hf hlen (by kernel_rfl) 8 _ rfl c8 rfl (opens24 (enc := enc) (W := W) (base := base) (held := held))
  injection (show [c8] = [_] from k8_) with e8 _
  subst e8
  obtain ⟨y9, k9_, g9⟩ := opens_at hf hlen (by kernel_rfl) 9 _ rfl c9 rfl (opens24 (enc := enc) (W := W) (base := base) (held := held))
  injection (show [c9] = [_] from k9_) with e9 _
  subst e9
  obtain ⟨y10, k10_, g10⟩ := opens_at hf hlen (by kernel_rfl) 10 _ rfl c10 rfl (opens24 (enc := enc) (W := W) (base := base) (held := held))
  injection (show [c10] = [_] from k10_) with e10 _
  subst e10
  obtain ⟨y11, k11_, g11⟩ := opens_at hf hlen (by kernel_rfl) 11 _ rfl c11 rfl (opens24 (enc := enc) (W := W) (base := base) (held := held))
  injection (show [c11] = [_] from k11_) with e11 _
  subst e11
  obtain ⟨y12, k12_, g12⟩ := opens_at hf hlen (by kernel_rfl) 12 _ rfl c12 rfl (opens25 (enc := enc) (W := W) (base := base) (held := held))
  obtain ⟨A12, d12, e12, l12, q12⟩ := k12_
  injection e12 with e12 _
  subst e12
  obtain ⟨y13, k13_, g13⟩ := opens_at hf hlen (by kernel_rfl) 13 _ rfl c13 rfl (opens26 (enc := enc) (W := W) (base := base) (held := held))
  obtain ⟨A13, d13, e13, l13, q13⟩ := k13_
  injection e13 with e13 _
  subst e13
  obtain ⟨y14, k14_, g14⟩ := opens_at hf hlen (by kernel_rfl) 14 _ rfl c14 rfl (opens22 (enc := enc) (W := W) (base := base) (held := held))
  obtain ⟨A14, d14, e14, l14, q14⟩ := k14_
  injection e14 with e14 _
  subst e14
  obtain ⟨y15, k15_, g15⟩ := opens_at hf hlen (by kernel_rfl) 15 _ rfl c15 rfl (opens27 (enc := enc) (W := W) (base := base) (held := held))
  obtain ⟨A15, d15, e15, l15, q15⟩ := k15_
  injection e15 with e15 _
  subst e15
  obtain ⟨y16, k16_, g16⟩ := opens_at hf hlen (by kernel_rfl) 16 _ rfl c16 rfl (opens5 (enc := enc) (W := W) (base := base) (held := held))
  injection (show [c16] = [_] from k16_) with e16 _
  subst e16
  obtain ⟨y17, k17_, g17⟩ := opens_at hf hlen (by kernel_rfl) 17 _ rfl c17 rfl (opens5 (enc := enc) (W := W) (base := base) (held := held))
  injection (show [c17] = [_] from k17_) with e17 _
  subst e17
  obtain ⟨y18, k18_, g18⟩ := opens_at hf hlen (by kernel_rfl) 18 _ rfl c18 rfl (opens5 (enc := enc) (W := W) (base := base) (held := held))
  injection (show [c18] = [_] from k18_) with e18 _
  subst e18
  obtain ⟨y19, k19_, g19⟩ := opens_at hf hlen (by kernel_rfl) 19 _ rfl c19 rfl (opens5 (enc := enc) (W := W) (base := base) (held := held))
  injection (show [c19] = [_] from k19_) with e19 _
  subst e19
  obtain ⟨y20, k20_, g20⟩ := opens_at hf hlen (by kernel_rfl) 20 _ rfl c20 rfl (opens5 (enc := enc) (W := W) (base := base) (held := held))
  injection (show [c20] = [_] from k20_) with e20 _
  subst e20
  obtain ⟨y21, k21_, g21⟩ := opens_at hf hlen (by kernel_rfl) 21 _ rfl c21 rfl (opens28 (enc := enc) (W := W) (base := base) (held := held))
  obtain ⟨A21, d21, e21, l21, q21⟩ := k21_
  injection e21 with e21 _
  subst e21
  refine ⟨⟨y0, y1, y2, y3, y4, y5, y6, y7, y8, y9, y10, y11, y12, y13, y14, y15, y16, y17, y18, y19, y20, y21⟩, A12, d12, A13, d13, A14, d14, A15, d15, A21, d21, rfl, ?_, ⟨q12, l12⟩, ⟨q13, l13⟩, ⟨q14, l14⟩, ⟨q15, l15⟩, ⟨q21, l21⟩⟩
  refine ⟨?_, fun z hz => gu16_bd (g12.2 z hz), fun r hr => ⟨gu16_bd (g15.2 r hr).1, gu16_bd (g15.2 r hr).2.1, gu16_bd (g15.2 r hr).2.2.1, fun z hz => gu16_bd ((g15.2 r hr).2.2.2.2 z hz)⟩, fun o ho => gu8_bd (g21.2 o ho).1⟩
  simp only [Go.Proofs.Ytalaochocmcbcaa.Same.okM, Bool.and_eq_true]
  exact ⟨⟨⟨⟨⟨⟨⟨⟨⟨⟨⟨⟨⟨⟨⟨⟨⟨⟨gu8_ok g0, gu8_ok g1⟩, gu16_ok g2⟩, gu16_ok g3⟩, gu16_ok g4⟩, gu16_ok g5⟩, gu16_ok g6⟩, gu16_ok g7⟩, gu16_ok g8⟩, gu16_ok g9⟩, gu16_ok g10⟩, gu16_ok g11⟩, gu8_ok g16⟩, gu8_ok g17⟩, gu8_ok g18⟩, gu8_ok g19⟩, gu8_ok g20⟩, List.all_eq_true.2 fun z hz => gu8_ok (g14.2 z hz)⟩, List.all_eq_true.2 fun q hq => List.all_eq_true.2 fun z hz => gu8_ok ((g21.2 q hq).2.2 z hz)⟩
theorem own : ownKnob Try.prog.godebug = none := by kernel_rfl
theorem laidOut : laidOutB Try.prog = true := by kernel_rfl
set_option maxRecDepth 100000 in
theorem lifted (os : Os) (started : os.Started) (H : Type) (enc : TypeId × Value → H) :
    ReturnsInHanded {} Try.checked os 10 .any (Rows.diagCutsSpec.pre6 enc Try.prog Try.f10 Rows.diagCutsRow.domain false) (Rows.diagCutsSpec.post enc Try.prog Try.f10 false true false false) := by
  refine returnsInHanded_of_change_sized (C := Try.checked) own started (by kernel_rfl) Try.func10
    (ChangeSpec.witness6 (enc := enc) (C := Try.checked) false ⟨#[], #[.bool false, .agg #[.int .u8 0, .int .u8 0, .int .u16 0, .int .u16 0, .int .u16 0, .int .u16 0, .int .u16 0, .int .u16 0, .int .u16 0, .int .u16 0, .int .u16 0, .int .u16 0, .slice none 0 0, .slice none 0 0, .slice none 0 0, .slice none 0 0, .int .u8 0, .int .u8 0, .int .u8 0, .int .u8 0, .int .u8 0, .slice none 0 0], .int .u16 0, .int .u8 0], []⟩ 8 (by kernel_rfl) (by kernel_rfl) (by kernel_rfl) (by kernel_rfl)) ?_
  intro W base args ds gs before hval0 hW hcnd hsz0 _
  have hval : ∀ (j : Nat) t v, Try.f10.params[j]? = some t → args[j]? = some v → Value.okWide Try.prog W .any base t v := hval0
  have hW' := hW
  obtain ⟨p, q, hA0, hV, rfl, hfz, hnd⟩ := hW
  have hA : DataW.TrodAll enc Try.prog W 0 (fun _ => true) true Try.f10.params.toList args.toList ds p := hA0
  rw [Try.params10] at hA hval
  obtain ⟨v0, vs0, d0, ds0, p0, q0, hargs, rfl, rfl, h0, r0⟩ := trodAll_cons hA
  obtain ⟨v1, vs1, d1, ds1, p1, q1, rfl, rfl, rfl, h1, r1⟩ := trodAll_cons r0
  obtain ⟨v2, vs2, d2, ds2, p2, q2, rfl, rfl, rfl, h2, r2⟩ := trodAll_cons r1
  obtain ⟨v3, vs3, d3, ds3, p3, q3, rfl, rfl, rfl, h3, r3⟩ := trodAll_cons r2
  obtain ⟨rfl, rfl, rfl⟩ := trodAll_nil r3
  obtain rfl : args = #[v0, v1, v2, v3] := by cases args; simp_all
  obtain ⟨rfl, rfl⟩ := trodVars_none hV
  obtain ⟨a0, rfl, rfl, rfl⟩ := open_bool Try.underlying4 (hval 0 4 v0 rfl rfl) h0
  obtain ⟨cs1, rfl, hsz1⟩ := okWide_struct Try.underlying30 (hval 1 30 v1 rfl rfl)
  have k1 := h1
  have lt1 : ∀ x ∈ p1, x.block < W.heap.size := by obtain ⟨m, hm⟩ := k1; exact DataW.trod_lt m _ _ _ hm
  obtain ⟨fu1, hf1⟩ := h1
  obtain ⟨m1, A1_12, c1_12, A1_13, c1_13, A1_14, c1_14, A1_15, c1_15, A1_21, c1_21, hcs1, ok1, ⟨hr1_12, hc1_12⟩, ⟨hr1_13, hc1_13⟩, ⟨hr1_14, hc1_14⟩, ⟨hr1_15, hc1_15⟩, ⟨hr1_21, hc1_21⟩⟩ := open_msg (enc := enc) (W := W) (base := 0) (held := true) _ _ _ hf1
  obtain ⟨cs1⟩ := cs1
  obtain rfl : cs1 = _ := hcs1
  have hm1 : Go.Proofs.Ytalaochocmcbcaa.Same.IsMsg W _ m1 := ⟨A1_12, c1_12, A1_13, c1_13, A1_14, c1_14, A1_15, c1_15, A1_21, c1_21, rfl, ok1, ⟨hr1_12, hc1_12⟩, ⟨hr1_13, hc1_13⟩, ⟨hr1_14, hc1_14⟩, ⟨hr1_15, hc1_15⟩, ⟨hr1_21, hc1_21⟩⟩
  obtain ⟨a2, rfl, rfl, rfl, w2⟩ := open_int Try.underlying24 (hval 2 24 v2 rfl rfl) h2
  obtain ⟨a3, rfl, rfl, rfl, w3⟩ := open_int Try.underlying5 (hval 3 5 v3 rfl rfl) h3
  clear hA0 hval0 hsz0
  refine (Go.Proofs.Ytalaochocmcbcaa.Laws.busbarlaw10_DiagCuts a0 m1 _ a2 a3 W hm1 w2 w3).mono fun e W' ⟨he, bel⟩ => ?_
  subst he
  exact ⟨_, rfl, _, _, _, [], _, [], hW', trodAll_mk1 (shut_bool Try.underlying4 _), (trodAll_cons_mk (shut_bool Try.underlying4 _) (trodAll_cons_mk (Below.trod laidOut (by kernel_rfl) (of_decide_eq_true (by kernel_rfl)) k1 bel lt1) (trodAll_cons_mk (shut_int Try.underlying24 w2) (trodAll_cons_mk (shut_int Try.underlying5 w3) trodAll_mk0)))), rfl, bel.frame _, fun h => by cases h⟩
theorem over : Rows.diagCutsRow.holds Try.pinned (OpenSpec.ofChange Rows.diagCutsSpec) :=
  OpenClaim.holds_of_wide 10 Try.f10 rfl rfl rfl rfl rfl rfl rfl ⟨rfl, rfl, rfl, rfl, rfl⟩ rfl rfl rfl rfl rfl (by kernel_rfl) Try.func10 (by kernel_rfl)
    (of_decide_eq_true (by kernel_rfl)) (by unfold Func.isWrapper; first | (rw [if_pos (by decide +kernel)]; kernel_rfl) | (rw [if_neg (by decide +kernel)]; exact ⟨rfl, rfl⟩))
    (fun os started H enc _ => lifted os started H enc)
theorem proved : Rows.DiagCutsSaid := over
#print axioms proved
end Go.Proofs.Ytalaochocmcbcaa.diagCuts
namespace Go.Proofs.Ytalaochocmcbcaa
/-- The row, under a short name, for the claim. -/
theorem diagCuts_holds : Rows.DiagCutsSaid := diagCuts.proved
end Go.Proofs.Ytalaochocmcbcaa
