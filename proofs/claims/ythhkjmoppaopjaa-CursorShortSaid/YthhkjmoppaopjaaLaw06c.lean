/- CursorShort, walked. -/
import Derived.Test.YthhkjmoppaopjaaLaw06
import Derived.Test.YthhkjmoppaopjaaAct
set_option linter.unusedVariables false
set_option linter.unusedSimpArgs false
namespace Go.Proofs.Ythhkjmoppaopjaa.Laws
open Go.RowKit Go.Proofs.Ythhkjmoppaopjaa.P Go.Proofs.Ythhkjmoppaopjaa.E Go.Proofs.Ythhkjmoppaopjaa.Cur Go.Proofs.YthhkjmoppaopjaaW.PrintWords Go.Proofs.YthhkjmoppaopjaaW.PrintLast Go.Proofs.YthhkjmoppaopjaaW.PrintMore
theorem u8_wf_ {n : Int} (h : (Lit.int .u8 n).wf = true) : 0 ≤ n ∧ n < 256 := by
  simp only [Lit.wf, IntKind.min, IntKind.max, IntKind.signed, IntKind.bits, Bool.and_eq_true, decide_eq_true_eq] at h
  simp at h
  omega
theorem sb_Byte (lo hi g : Nat) (w : World) (h : At lo hi w g [] true 2) : Calls Try.prog 19 #[.pointer (some ⟨g, 0, none⟩)] w fun en w' => en = .returned (.int .u8 0) ∧ At lo hi w' g [] true 2 ∧ Upd g w w' := byte_short lo hi g [] true 2 w h (.inl rfl)
theorem sb_Word (lo hi g : Nat) (w : World) (h : At lo hi w g [] true 2) : Calls Try.prog 15 #[.pointer (some ⟨g, 0, none⟩)] w fun en w' => en = .returned (.int .u16 0) ∧ At lo hi w' g [] true 2 ∧ Upd g w w' := word_short lo hi g [] true 2 w h (by simp) (.inl rfl)
theorem sb_Bytes (lo hi g : Nat) (n : Int) (w : World) (h : At lo hi w g [] true 2) : Calls Try.prog 10 #[.pointer (some ⟨g, 0, none⟩), .int .i64 n] w fun en w' => en = .returned (.slice none 0 0) ∧ At lo hi w' g [] true 2 ∧ Upd g w w' := bytes_short lo hi g [] true 2 n w h (.inl rfl)
theorem sb_Words (lo hi g : Nat) (n : Int) (w : World) (h : At lo hi w g [] true 2) : Calls Try.prog 14 #[.pointer (some ⟨g, 0, none⟩), .int .i64 n] w fun en w' => ∃ A' c', en = .returned (.slice A' 0 c') ∧ At lo hi w' g [] true 2 ∧ Upd g w w' := words_short lo hi g [] true 2 n w h (by simp) (.inl rfl)

set_option maxHeartbeats 16000000 in
set_option maxRecDepth 100000 in
theorem short_long (A : Option Addr) (c : Nat) (l : List Int) (n : Int) (A2 : Option Addr) (c2 : Nat) (q : List S41) (w : World) (hr : Kd.C (Kd.int .u8) w A l.length l) (hc : l.length ≤ c) (hr2 : Kd.C k41 w A2 q.length q) (hc2 : q.length ≤ c2) (hl : 200 < l.length) :
    Calls Try.prog 6 #[.slice A l.length c, .int .u8 n, .slice A2 q.length c2] w fun en w' => en = .returned (.bool true) ∧ Below w.heap.size w w' := by
  have HB := Aside0.mk (Below.refl w.heap.size w)
  have c1 : decide ((l.length : Int) > 200) = true := decide_eq_true (by omega)
  have c2_ : decide ((200 : Int) < (l.length : Int)) = true := decide_eq_true (by omega)
  clear hr hr2
  go_enter Try.func6, Try.ntmps6
  go_wp2_with (go_at_call 8; refine (awake_any _).mono ?_; rintro en w1 ⟨rfl, b1⟩; have n0_ := Aside0.mk (HB.out.trans (b1.mono HB.out.size)); clear b1 HB; have HB := n0_; clear n0_)
  go_ret
  exact ⟨rfl, HB.out⟩
set_option maxHeartbeats 16000000 in
set_option maxRecDepth 100000 in
theorem short_many (A : Option Addr) (c : Nat) (l : List Int) (n : Int) (A2 : Option Addr) (c2 : Nat) (q : List S41) (w : World) (hr : Kd.C (Kd.int .u8) w A l.length l) (hc : l.length ≤ c) (hr2 : Kd.C k41 w A2 q.length q) (hc2 : q.length ≤ c2) (hl : ¬ 200 < l.length) (hq : 60 < q.length) :
    Calls Try.prog 6 #[.slice A l.length c, .int .u8 n, .slice A2 q.length c2] w fun en w' => en = .returned (.bool true) ∧ Below w.heap.size w w' := by
  have HB := Aside0.mk (Below.refl w.heap.size w)
  have c1 : decide ((l.length : Int) > 200) = false := decide_eq_false (by omega)
  have c2_ : decide ((200 : Int) < (l.length : Int)) = false := decide_eq_false (by omega)
  have d1 : decide ((q.length : Int) > 60) = true := decide_eq_true (by omega)
  have d2 : decide ((60 : Int) < (q.length : Int)) = true := decide_eq_true (by omega)
  clear hr hr2
  go_enter Try.func6, Try.ntmps6
  go_wp2_with (go_at_call 8; refine (awake_any _).mono ?_; rintro en w1 ⟨rfl, b1⟩; have n0_ := Aside0.mk (HB.out.trans (b1.mono HB.out.size)); clear b1 HB; have HB := n0_; clear n0_)
  go_ret
  exact ⟨rfl, HB.out⟩
set_option maxHeartbeats 16000000 in
set_option maxRecDepth 100000 in
theorem short_go (A : Option Addr) (c : Nat) (l : List Int) (n : Int) (A2 : Option Addr) (c2 : Nat) (q : List S41) (w : World) (hr : Kd.C (Kd.int .u8) w A l.length l) (hc : l.length ≤ c) (hr2 : Kd.C k41 w A2 q.length q) (hc2 : q.length ≤ c2) (hl : ¬ 200 < l.length) (hq : ¬ 60 < q.length) (h0 : 0 ≤ n) (h1 : n < 256) :
    Calls Try.prog 6 #[.slice A l.length c, .int .u8 n, .slice A2 q.length c2] w fun en w' => en = .returned (.bool true) ∧ Below w.heap.size w w' := by
  have HB := Aside0.mk (Below.refl w.heap.size w)
  have c1 : decide ((l.length : Int) > 200) = false := decide_eq_false (by omega)
  have c2_ : decide ((200 : Int) < (l.length : Int)) = false := decide_eq_false (by omega)
  have d1 : decide ((q.length : Int) > 60) = false := decide_eq_false (by omega)
  have d2 : decide ((60 : Int) < (q.length : Int)) = false := decide_eq_false (by omega)
  have c3 : wrap64 ((l.length : Int) + 1) = (l.length : Int) + 1 := wrap64_id (by omega) (by omega)
  have c4 : wrap64 ((l.length : Int) + 1 + n) = (l.length : Int) + 1 + n := wrap64_id (by omega) (by omega)
  have c5 : wrap64 n = n := wrap64_id (by omega) (by omega)
  have HN := Aside0.mk (fun W (hb : Below w.heap.size w W) => new_any A c l W (Kd.C_below hr hb) hc (by omega))
  have HQ := Aside0.mk hr2
  have HL := Aside0.mk (show (l.length : Int) < (l.length : Int) + 1 + n by omega)
  clear hr hr2
  have hu2 := Try.underlying41
  go_enter Try.func6, Try.ntmps6
  go_upto_region 4 with (go_at_call 8; refine (awake_any _).mono ?_; rintro en w1 ⟨rfl, b1⟩; have n0_ := Aside0.mk (HB.out.trans (b1.mono HB.out.size)); clear b1 HB; have HB := n0_; clear n0_)
  go_upto_region 7 with (go_at_call 9; refine (HN.out _ HB.out).mono ?_; rintro en w2 ⟨g, rfl, b1, b2, b3, b4⟩; have HG := Aside0.mk (Nat.le_trans HB.out.size b1); have HC := Aside0.mk b2; have n0_ := Aside0.mk (HB.out.trans (b3.mono HB.out.size)); clear b1 b2 b3 b4 HB HN; have HB := n0_; clear n0_)
  go_upto_region 8 with (go_at_call 10; with_reducible refine (bytes_over _ _ _ _ _ _ _ _ _ HC.out HL.out fstE_z).mono ?_; rintro en w3 ⟨rfl, b1, b2⟩; have n0_ := Aside0.mk b1; have n1_ := Aside0.mk (step_b HB.out HG.out b2); clear b1 b2 HC HB; have HC := n0_; have HB := n1_; clear n0_ n1_)
  go_upto_region 10 with (first | (go_at_call 12; with_reducible refine (short_any _ _ _ _ _ _ _ HC.out).mono ?_; rintro en w4 ⟨rfl, rfl⟩) | (go_at_call 13; with_reducible refine (left_any _ _ _ _ _ _ _ HC.out).mono ?_; rintro en w4 ⟨rfl, rfl⟩))
  go_wp2
  go_loopw [10] (fun i wr => ∃ j : Nat, j ≤ q.length ∧ i = .int .i64 j ∧ Aside0 (At w1.heap.size g wr g [] true 2) ∧ Aside0 (Below w.heap.size w wr)) (fun i _ => q.length - (intOf i).toNat)
  case atStart => exact ⟨0, Nat.zero_le _, rfl, HC, HB⟩
  case round =>
    obtain ⟨j, hj, rfl, HC2, HB2⟩ := hrel
    clear HC HB
    by_cases hlt : j < q.length
    · obtain ⟨adQ, rfl, x0, x1⟩ := at_T41 HQ.out (j : Int) (by omega) (by omega)
      rw [Int.toNat_natCast] at x1
      clear x0
      have k1 := Aside0.mk x1
      clear x1
      have z0 : (j : Int).toNat = j := Int.toNat_natCast j
      go_upto_region 14 with (go_at_call 19; with_reducible refine (sb_Byte _ _ _ _ HC2.out).mono ?_; rintro en w3 ⟨rfl, b1, b2⟩; have n0_ := Aside0.mk b1; have n1_ := Aside0.mk (step_b HB2.out HG.out b2); clear b1 b2 HC2 HB2; have HC2 := n0_; have HB2 := n1_; clear n0_ n1_)
      go_upto_region 15 with (go_at_call 15; with_reducible refine (sb_Word _ _ _ _ HC2.out).mono ?_; rintro en w3 ⟨rfl, b1, b2⟩; have n0_ := Aside0.mk b1; have n1_ := Aside0.mk (step_b HB2.out HG.out b2); clear b1 b2 HC2 HB2; have HC2 := n0_; have HB2 := n1_; clear n0_ n1_)
      have x1 := (HB2.out.cell (World.block_lt_of_cell? w _ k1.out)).trans k1.out
      go_upto_region 16 with (go_at_call 10; with_reducible refine (sb_Bytes _ _ _ _ _ HC2.out).mono ?_; rintro en w3 ⟨rfl, b1, b2⟩; have n0_ := Aside0.mk b1; have n1_ := Aside0.mk (step_b HB2.out HG.out b2); clear b1 b2 HC2 HB2; have HC2 := n0_; have HB2 := n1_; clear n0_ n1_)
      clear x1
      have x1 := (HB2.out.cell (World.block_lt_of_cell? w _ k1.out)).trans k1.out
      go_upto_region 17 with (go_at_call 14; with_reducible refine (sb_Words _ _ _ _ _ HC2.out).mono ?_; rintro en w3 ⟨A5, c5_, rfl, b1, b2⟩; have n0_ := Aside0.mk b1; have n1_ := Aside0.mk (step_b HB2.out HG.out b2); clear b1 b2 HC2 HB2; have HC2 := n0_; have HB2 := n1_; clear n0_ n1_)
      go_wp2_with (first | (go_at_call 12; with_reducible refine (short_any _ _ _ _ _ _ _ HC2.out).mono ?_; rintro en w4 ⟨rfl, rfl⟩) | (go_at_call 13; with_reducible refine (left_any _ _ _ _ _ _ _ HC2.out).mono ?_; rintro en w4 ⟨rfl, rfl⟩))
      go_roundw
      case rel => exact ⟨j + 1, by omega, by go_num, HC2, HB2⟩
      case measure => simp [intOf]; omega
    · go_wp2
      go_ret
      exact ⟨rfl, HB2.out⟩

theorem busbarlaw06_CursorShort (A : Option Addr) (c : Nat) (l : List Int) (n : Int) (A2 : Option Addr) (c2 : Nat) (q : List S41) (w : World) (hr : Kd.C (Kd.int .u8) w A l.length l) (hc : l.length ≤ c) (hr2 : Kd.C k41 w A2 q.length q) (hc2 : q.length ≤ c2) {p1 p2 p3 p4 : Prop} (_ : p1) (_ : p2) (wn : (Lit.int .u8 n).wf = true) (_ : p3) (_ : p4) :
    Calls Try.prog 6 #[.slice A l.length c, .int .u8 n, .slice A2 q.length c2] w fun en w' => en = .returned (.bool true) ∧ Below w.heap.size w w' := by
  obtain ⟨h0, h1⟩ := u8_wf_ wn
  by_cases hl : 200 < l.length
  · exact short_long A c l n A2 c2 q w hr hc hr2 hc2 hl
  by_cases hq : 60 < q.length
  · exact short_many A c l n A2 c2 q w hr hc hr2 hc2 hl hq
  · exact short_go A c l n A2 c2 q w hr hc hr2 hc2 hl hq h0 h1
end Go.Proofs.Ythhkjmoppaopjaa.Laws
