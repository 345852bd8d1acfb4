/- The reference's Same tells whether two messages are one (sameB): all ways together. Conditions: numbers of their kind. -/
import Derived.Test.YtbilolgiihegiaaRefSB
import Derived.Test.YtbilolgiihegiaaRefSE
set_option linter.unusedVariables false
set_option linter.unusedSimpArgs false
namespace Go.Proofs.Ytbilolgiihegiaa.Same
open Go.RowKit Go.Proofs.Ytbilolgiihegiaa.P Go.Proofs.Ytbilolgiihegiaa.E Go.Proofs.YtbilolgiihegiaaW.PrintWords Go.Proofs.YtbilolgiihegiaaW.PrintLast Go.Proofs.YtbilolgiihegiaaW.PrintMore
theorem refsame_any (x y : Msg) (Ax12 : Option Addr) (cx12 : Nat) (Ax13 : Option Addr) (cx13 : Nat) (Ax14 : Option Addr) (cx14 : Nat) (Ax15 : Option Addr) (cx15 : Nat) (Ax21 : Option Addr) (cx21 : Nat) (Ay12 : Option Addr) (cy12 : Nat) (Ay13 : Option Addr) (cy13 : Nat) (Ay14 : Option Addr) (cy14 : Nat) (Ay15 : Option Addr) (cy15 : Nat) (Ay21 : Option Addr) (cy21 : Nat) (w : World) (hrx12 : Kd.C (Kd.int .u16) w Ax12 x.words.length x.words) (hcx12 : x.words.length ≤ cx12) (hrx13 : Kd.C Kd.bool w Ax13 x.bits.length x.bits) (hcx13 : x.bits.length ≤ cx13) (hrx14 : Kd.C (Kd.int .u8) w Ax14 x.data.length x.data) (hcx14 : x.data.length ≤ cx14) (hrx15 : Kd.C k50 w Ax15 x.recs.length x.recs) (hcx15 : x.recs.length ≤ cx15) (hrx21 : Kd.C k52 w Ax21 x.objects.length x.objects) (hcx21 : x.objects.length ≤ cx21) (hry12 : Kd.C (Kd.int .u16) w Ay12 y.words.length y.words) (hcy12 : y.words.length ≤ cy12) (hry13 : Kd.C Kd.bool w Ay13 y.bits.length y.bits) (hcy13 : y.bits.length ≤ cy13) (hry14 : Kd.C (Kd.int .u8) w Ay14 y.data.length y.data) (hcy14 : y.data.length ≤ cy14) (hry15 : Kd.C k50 w Ay15 y.recs.length y.recs) (hcy15 : y.recs.length ≤ cy15) (hry21 : Kd.C k52 w Ay21 y.objects.length y.objects) (hcy21 : y.objects.length ≤ cy21) (okx : okM x = true) (oky : okM y = true) :
    Calls Try.prog 10 #[.agg #[.int .u8 x.code, .int .u8 x.fail, .int .u16 x.addr, .int .u16 x.count, .int .u16 x.value, .int .u16 x.and_, .int .u16 x.or_, .int .u16 x.addr2, .int .u16 x.sub, .int .u16 x.status, .int .u16 x.events, .int .u16 x.messages, .slice Ax12 x.words.length cx12, .slice Ax13 x.bits.length cx13, .slice Ax14 x.data.length cx14, .slice Ax15 x.recs.length cx15, .int .u8 x.mei, .int .u8 x.kind, .int .u8 x.level, .int .u8 x.more, .int .u8 x.next, .slice Ax21 x.objects.length cx21], .agg #[.int .u8 y.code, .int .u8 y.fail, .int .u16 y.addr, .int .u16 y.count, .int .u16 y.value, .int .u16 y.and_, .int .u16 y.or_, .int .u16 y.addr2, .int .u16 y.sub, .int .u16 y.status, .int .u16 y.events, .int .u16 y.messages, .slice Ay12 y.words.length cy12, .slice Ay13 y.bits.length cy13, .slice Ay14 y.data.length cy14, .slice Ay15 y.recs.length cy15, .int .u8 y.mei, .int .u8 y.kind, .int .u8 y.level, .int .u8 y.more, .int .u8 y.next, .slice Ay21 y.objects.length cy21]] w fun e w' => e = .returned (.bool (sameB x y)) ∧ Below w.heap.size w w' := by
  have kx := okx
  simp only [okM, Bool.and_eq_true] at kx
  obtain ⟨⟨_, dx⟩, ox⟩ := kx
  have ky := oky
  simp only [okM, Bool.and_eq_true] at ky
  obtain ⟨⟨_, dy⟩, oy⟩ := ky
  have ox_ : ∀ q ∈ x.objects, q.f1.all u8B = true := List.all_eq_true.1 ox
  have oy_ : ∀ q ∈ y.objects, q.f1.all u8B = true := List.all_eq_true.1 oy
  obtain ⟨k1, p1⟩ := (R01.words_ev x.words y.words hrx12.2.1).rounds
  obtain ⟨k2, p2⟩ := (R01.bools_ev x.bits y.bits hrx13.2.1).rounds
  have p3 := R01.same_eq (u8_bytes dx) (u8_bytes dy)
  cases hp : plainB x y with
  | false =>
    have hs : sameB x y = false := by unfold sameB; rw [hp]; rfl
    rw [hs]
    exact ref_diff x y Ax12 cx12 Ax13 cx13 Ax14 cx14 Ax15 cx15 Ax21 cx21 Ay12 cy12 Ay13 cy13 Ay14 cy14 Ay15 cy15 Ay21 cy21 w hp
  | true =>
    have hs : sameB x y = (x.words == y.words && x.bits == y.bits && x.data == y.data && listB recB x.recs y.recs && listB objB x.objects y.objects) := by
      unfold sameB
      rw [hp]; rfl
    rw [hs]
    unfold plainB at hp
    simp only [Bool.and_eq_true] at hp
    obtain ⟨⟨⟨⟨⟨⟨⟨⟨⟨⟨⟨⟨⟨⟨⟨⟨q0, q1⟩, q2⟩, q3⟩, q4⟩, q5⟩, q6⟩, q7⟩, q8⟩, q9⟩, q10⟩, q11⟩, q16⟩, q17⟩, q18⟩, q19⟩, q20⟩ := hp
    exact ref_eq x y Ax12 cx12 Ax13 cx13 Ax14 cx14 Ax15 cx15 Ax21 cx21 Ay12 cy12 Ay13 cy13 Ay14 cy14 Ay15 cy15 Ay21 cy21 w hrx12 hcx12 hrx13 hcx13 hrx14 hcx14 hrx15 hcx15 hrx21 hcx21 hry12 hcy12 hry13 hcy13 hry14 hcy14 hry15 hcy15 hry21 hcy21 (by simpa using q0) (by simpa using q1) (by simpa using q2) (by simpa using q3) (by simpa using q4) (by simpa using q5) (by simpa using q6) (by simpa using q7) (by simpa using q8) (by simpa using q9) (by simpa using q10) (by simpa using q11) (by simpa using q16) (by simpa using q17) (by simpa using q18) (by simpa using q19) (by simpa using q20) ox_ oy_ _ _ _ k1 k2 p1 p2 p3
end Go.Proofs.Ytbilolgiihegiaa.Same
