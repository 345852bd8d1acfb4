/- The reference's cursor: Byte, Words, Word, End. Conditions: bytes, not more than a million. -/
import Derived.Test.YthhkjmoppaopjaaRCur
set_option linter.unusedVariables false
set_option linter.unusedSimpArgs false
namespace Go.Proofs.Ythhkjmoppaopjaa.RCur
open Go.RowKit Go.Proofs.Ythhkjmoppaopjaa.P Go.Proofs.Ythhkjmoppaopjaa.E Go.Proofs.Ythhkjmoppaopjaa.Cur Go.Proofs.YthhkjmoppaopjaaW.PrintWords Go.Proofs.YthhkjmoppaopjaaW.PrintLast Go.Proofs.YthhkjmoppaopjaaW.PrintMore
theorem reftake_any (A : Option Addr) (c : Nat) (l : List Int) (w : World) (hr : Kd.C (Kd.int .u8) w A l.length l) (hc : l.length ≤ c) (hb : isBytes l) (hl : l.length ≤ 1000000) :
    Calls Try.prog 30 #[.slice A l.length c] w fun e w' => ∃ A' c', e = .returned (.slice A' (Take.words l).length c') ∧ (Take.words l).length ≤ c' ∧ Row16 w.heap.size w'.heap.size w' A' (Take.words l) ∧ Below w.heap.size w w' := by
  obtain ⟨k, hk⟩ := (Take.reftake_ev l hb hl).rounds
  refine (busbarref04_Take.calls k A c l _ w hr hc hk).mono ?_
  rintro e w' ⟨v, rfl, R, B⟩
  obtain ⟨A2, c2, rfl, h2, h3⟩ := Kd.R_reads R
  obtain ⟨_, h5, h6⟩ := row16_of_R R
  exact ⟨A2, c2, rfl, h5, h6, B⟩
theorem reftake_nil (w : World) : Calls Try.prog 30 #[.slice none 0 0] w fun e w' => ∃ A' c', e = .returned (.slice A' 0 c') ∧ Below w.heap.size w w' := by
  refine (reftake_any none 0 [] w (Kd.C_nil _ w) (Nat.le_refl _) (fun x hx => by cases hx) (by simp)).mono ?_
  rintro e w' ⟨A', c', rfl, _, _, h⟩
  exact ⟨A', c', rfl, h⟩
theorem bytes_short (hi g : Nat) (xs : List Int) (n : Nat) (s : Bool) (e m : Int) (w : World) (h : RAt hi w g xs n s e) (hm : s = true ∨ m < 0 ∨ (xs.length : Int) - n < m) :
    Calls Try.prog 22 #[.pointer (some ⟨g, 0, none⟩), .int .i64 m] w fun en w' => en = .returned (.slice none 0 0) ∧ RAt hi w' g xs xs.length true (fstE e 2) ∧ Upd g w w' := by
  cases s with
  | true => exact bytes_s hi g xs n e m w h
  | false =>
    by_cases c1 : m < 0
    · exact bytes_neg hi g xs n e m w h c1
    · exact bytes_over hi g xs n e m w h c1 (by rcases hm with h | h | h; cases h; exact absurd h c1; exact h)

set_option maxHeartbeats 8000000 in
set_option maxRecDepth 100000 in
theorem byte_ok (hi g : Nat) (xs : List Int) (n : Nat) (e : Int) (w : World) (h : RAt hi w g xs n false e) (hn : n < xs.length) :
    Calls Try.prog 20 #[.pointer (some ⟨g, 0, none⟩)] w fun en w' => en = .returned (.int .u8 (xs.getD n 0)) ∧ RAt hi w' g xs (n + 1) false e ∧ Upd g w w' := by
  have hL : (xs.drop n).take 1 = [xs.getD n 0] := by rw [drop_cons hn 0]; rfl
  have hB := bytes_ok hi g xs n e 1 w h (by omega)
  rw [hL] at hB
  have HB := Aside0.mk hB
  clear h hB hL
  generalize xs.getD n 0 = x at HB ⊢
  go_enter Try.func20, Try.ntmps20
  go_wp2_with (go_at_call 22; refine HB.out.mono ?_; rintro en w1 ⟨A', c', rfl, b1, b2, b3, b4⟩; obtain ⟨ad, rfl, q0⟩ := at_row b2 0 (by simp); rw [Addr.add_zero'] at q0; have q1 : w1.cell? ad = some (.int .u8 x) := q0; have N3 := Aside0.mk b3; have N4 := Aside0.mk b4; clear b1 b2 b3 b4 HB q0)
  go_ret
  exact ⟨rfl, N3.out, N4.out⟩
set_option maxHeartbeats 8000000 in
set_option maxRecDepth 100000 in
theorem byte_short (hi g : Nat) (xs : List Int) (n : Nat) (s : Bool) (e : Int) (w : World) (h : RAt hi w g xs n s e) (hs : s = true ∨ xs.length ≤ n) :
    Calls Try.prog 20 #[.pointer (some ⟨g, 0, none⟩)] w fun en w' => en = .returned (.int .u8 0) ∧ RAt hi w' g xs xs.length true (fstE e 2) ∧ Upd g w w' := by
  have HB := Aside0.mk (bytes_short hi g xs n s e 1 w h (by rcases hs with h | h; exact .inl h; exact .inr (.inr (by omega))))
  clear h
  go_enter Try.func20, Try.ntmps20
  go_wp2_with (go_at_call 22; refine HB.out.mono ?_; rintro en w1 ⟨rfl, b3, b4⟩; have N3 := Aside0.mk b3; have N4 := Aside0.mk b4; clear b3 b4 HB)
  go_ret
  exact ⟨rfl, N3.out, N4.out⟩
set_option maxHeartbeats 8000000 in
set_option maxRecDepth 100000 in
theorem words_neg (hi g : Nat) (xs : List Int) (n : Nat) (s : Bool) (e m : Int) (w : World) (h : RAt hi w g xs n s e) (hm : m < 0) :
    Calls Try.prog 26 #[.pointer (some ⟨g, 0, none⟩), .int .i64 m] w fun en w' => ∃ A' c', en = .returned (.slice A' 0 c') ∧ RAt hi w' g xs xs.length true (fstE e 2) ∧ Upd g w w' := by
  have HA := Aside0.mk h
  obtain ⟨h1, hn, hx, A, c, h2, h3, h4⟩ := h
  obtain ⟨⟨k0, k1, k2, k3⟩, f0, f1, f2, f3⟩ := cells4 h2
  clear h2 h4
  have hu1 := Try.underlying45
  have d1 : decide (m < 0) = true := decide_eq_true hm
  go_enter Try.func26, Try.ntmps26
  go_wp2_with (first | (go_at_call 22; refine (bytes_short hi g xs n s e _ _ HA.out (.inr (.inl (by decide)))).mono ?_; rintro en w1 ⟨rfl, b3, b4⟩; have N3 := Aside0.mk b3; have N4 := Aside0.mk b4; clear b3 b4) | (go_at_call 30; refine (reftake_nil _).mono ?_; rintro en w2 ⟨A2, c2_, rfl, d3⟩; have D3 := Aside0.mk d3; clear d3))
  go_ret
  have hN : RAt hi w2 g xs xs.length true (fstE e 2) := N3.out.below D3.out
  exact ⟨A2, c2_, rfl, hN, N4.out.trans (Upd.of_below D3.out)⟩
set_option maxHeartbeats 8000000 in
set_option maxRecDepth 100000 in
theorem words_over (hi g : Nat) (xs : List Int) (n : Nat) (s : Bool) (e m : Int) (w : World) (h : RAt hi w g xs n s e) (hm : ¬ m < 0) (ho : (xs.length : Int) < m) :
    Calls Try.prog 26 #[.pointer (some ⟨g, 0, none⟩), .int .i64 m] w fun en w' => ∃ A' c', en = .returned (.slice A' 0 c') ∧ RAt hi w' g xs xs.length true (fstE e 2) ∧ Upd g w w' := by
  have HA := Aside0.mk h
  obtain ⟨h1, hn, hx, A, c, h2, h3, h4⟩ := h
  obtain ⟨⟨k0, k1, k2, k3⟩, f0, f1, f2, f3⟩ := cells4 h2
  clear h2 h4
  have hu1 := Try.underlying45
  have d1 : decide (m < 0) = false := decide_eq_false hm
  have d2 : decide (m > (xs.length : Int)) = true := decide_eq_true ho
  have d3 : decide ((xs.length : Int) < m) = true := decide_eq_true ho
  go_enter Try.func26, Try.ntmps26
  go_wp2_with (first | (go_at_call 22; refine (bytes_short hi g xs n s e _ _ HA.out (.inr (.inl (by decide)))).mono ?_; rintro en w1 ⟨rfl, b3, b4⟩; have N3 := Aside0.mk b3; have N4 := Aside0.mk b4; clear b3 b4) | (go_at_call 30; refine (reftake_nil _).mono ?_; rintro en w2 ⟨A2, c2_, rfl, d3⟩; have D3 := Aside0.mk d3; clear d3))
  go_ret
  have hN : RAt hi w2 g xs xs.length true (fstE e 2) := N3.out.below D3.out
  exact ⟨A2, c2_, rfl, hN, N4.out.trans (Upd.of_below D3.out)⟩
set_option maxHeartbeats 8000000 in
set_option maxRecDepth 100000 in
theorem words_few (hi g : Nat) (xs : List Int) (n : Nat) (s : Bool) (e m : Int) (w : World) (h : RAt hi w g xs n s e) (hm : ¬ m < 0) (ho : ¬ (xs.length : Int) < m) (hs : s = true ∨ (xs.length : Int) - n < m + m) :
    Calls Try.prog 26 #[.pointer (some ⟨g, 0, none⟩), .int .i64 m] w fun en w' => ∃ A' c', en = .returned (.slice A' 0 c') ∧ RAt hi w' g xs xs.length true (fstE e 2) ∧ Upd g w w' := by
  have HA := Aside0.mk h
  obtain ⟨h1, hn, hx, A, c, h2, h3, h4⟩ := h
  obtain ⟨⟨k0, k1, k2, k3⟩, f0, f1, f2, f3⟩ := cells4 h2
  clear h2 h4
  have hu1 := Try.underlying45
  have d1 : decide (m < 0) = false := decide_eq_false hm
  have d2 : decide (m > (xs.length : Int)) = false := decide_eq_false ho
  have d3 : decide ((xs.length : Int) < m) = false := decide_eq_false ho
  have d4 : wrap64 (m + m) = m + m := wrap64_id (by omega) (by omega)
  have HS := Aside0.mk hs
  clear hs
  go_enter Try.func26, Try.ntmps26
  go_wp2_with (first | (go_at_call 22; refine (bytes_short hi g xs n s e _ _ HA.out (HS.out.elim .inl (fun h => .inr (.inr h)))).mono ?_; rintro en w1 ⟨rfl, b3, b4⟩; have N3 := Aside0.mk b3; have N4 := Aside0.mk b4; clear b3 b4) | (go_at_call 30; refine (reftake_nil _).mono ?_; rintro en w2 ⟨A2, c2_, rfl, d3⟩; have D3 := Aside0.mk d3; clear d3))
  go_ret
  have hN : RAt hi w2 g xs xs.length true (fstE e 2) := N3.out.below D3.out
  exact ⟨A2, c2_, rfl, hN, N4.out.trans (Upd.of_below D3.out)⟩
theorem words_short (hi g : Nat) (xs : List Int) (n : Nat) (s : Bool) (e m : Int) (w : World) (h : RAt hi w g xs n s e) (hm : s = true ∨ m < 0 ∨ (xs.length : Int) - n < 2 * m) :
    Calls Try.prog 26 #[.pointer (some ⟨g, 0, none⟩), .int .i64 m] w fun en w' => ∃ A' c', en = .returned (.slice A' 0 c') ∧ RAt hi w' g xs xs.length true (fstE e 2) ∧ Upd g w w' := by
  by_cases c1 : m < 0
  · exact words_neg hi g xs n s e m w h c1
  by_cases c2 : (xs.length : Int) < m
  · exact words_over hi g xs n s e m w h c1 c2
  · exact words_few hi g xs n s e m w h c1 c2 (by rcases hm with h | h | h; exact .inl h; exact absurd h c1; exact .inr (by omega))
set_option maxHeartbeats 8000000 in
set_option maxRecDepth 100000 in
theorem words_ok (hi g : Nat) (xs : List Int) (n : Nat) (e : Int) (m : Nat) (w : World) (h : RAt hi w g xs n false e) (hm : 2 * m ≤ xs.length - n) (hb : isBytes xs) :
    Calls Try.prog 26 #[.pointer (some ⟨g, 0, none⟩), .int .i64 m] w fun en w' => ∃ A' c', en = .returned (.slice A' (Take.words ((xs.drop n).take (2 * m))).length c') ∧ (Take.words ((xs.drop n).take (2 * m))).length ≤ c' ∧ Row16 w.heap.size w'.heap.size w' A' (Take.words ((xs.drop n).take (2 * m))) ∧ RAt hi w' g xs (n + 2 * m) false e ∧ Upd g w w' := by
  have hlen : ((xs.drop n).take (2 * m)).length ≤ 1000000 := by have := h.2.2.1; rw [List.length_take, List.length_drop]; omega
  have hbb : isBytes ((xs.drop n).take (2 * m)) := isBytes_take (isBytes_drop hb n) _
  have hB := bytes_ok hi g xs n e (2 * m) w h hm
  rw [show ((2 * m : Nat) : Int) = (m : Int) + (m : Int) by omega] at hB
  have HB := Aside0.mk hB
  have hT := fun (W : World) (A : Option Addr) (c : Nat) (hr : Kd.C (Kd.int .u8) W A ((xs.drop n).take (2 * m)).length ((xs.drop n).take (2 * m))) (hc : ((xs.drop n).take (2 * m)).length ≤ c) => reftake_any A c ((xs.drop n).take (2 * m)) W hr hc hbb hlen
  have HT := Aside0.mk hT
  clear hB hT hlen hbb
  have HA := Aside0.mk h
  obtain ⟨h1, hn, hx, A, c, h2, h3, h4⟩ := h
  obtain ⟨⟨k0, k1, k2, k3⟩, f0, f1, f2, f3⟩ := cells4 h2
  clear h2 h4
  have hu1 := Try.underlying45
  have d1 : decide ((m : Int) < 0) = false := decide_eq_false (by omega)
  have d2 : decide ((m : Int) > (xs.length : Int)) = false := decide_eq_false (by omega)
  have d3 : decide ((xs.length : Int) < (m : Int)) = false := decide_eq_false (by omega)
  have d4 : wrap64 ((m : Int) + (m : Int)) = (m : Int) + (m : Int) := wrap64_id (by omega) (by omega)
  have d5 : ¬ xs.length < m := by omega
  have d6 : decide (xs.length < m) = false := decide_eq_false d5
  clear hm
  generalize hws : Take.words ((xs.drop n).take (2 * m)) = ws at HT ⊢
  clear hws
  generalize (xs.drop n).take (2 * m) = bs at HT HB
  go_enter Try.func26, Try.ntmps26
  go_wp2_with (first | (go_at_call 22; refine HB.out.mono ?_; rintro en w1 ⟨A1, c1_, rfl, b1, b2, b3, b4⟩; have N1 := Aside0.mk b1; have N2 := Aside0.mk b2; have N3 := Aside0.mk b3; have N4 := Aside0.mk b4; clear b1 b2 b3 b4 HB) | (go_at_call 30; refine (HT.out w1 A1 c1_ N2.out.now N1.out).mono ?_; rintro en w2 ⟨A2, c2_, rfl, g1, g2, g3⟩; have D1 := Aside0.mk g1; have D2 := Aside0.mk g2; have D3 := Aside0.mk g3; clear g1 g2 g3))
  go_ret
  exact ⟨A2, c2_, rfl, D1.out, D2.out.wide N4.out.kept.1 (Nat.le_refl _), N3.out.below D3.out, N4.out.trans (Upd.of_below D3.out)⟩
set_option maxHeartbeats 8000000 in
set_option maxRecDepth 100000 in
theorem word_ok (hi g : Nat) (xs : List Int) (n : Nat) (e : Int) (w : World) (h : RAt hi w g xs n false e) (hn : n + 2 ≤ xs.length) (hb : isBytes xs) :
    Calls Try.prog 21 #[.pointer (some ⟨g, 0, none⟩)] w fun en w' => en = .returned (.int .u16 (xs.getD n 0 * 256 + xs.getD (n + 1) 0)) ∧ RAt hi w' g xs (n + 2) false e ∧ Upd g w w' := by
  have hL : Take.words ((xs.drop n).take (2 * 1)) = [xs.getD n 0 * 256 + xs.getD (n + 1) 0] := by rw [drop_cons (show n < xs.length by omega) 0, drop_cons (show n + 1 < xs.length by omega) 0]; exact words_two _ _ _
  have hB := words_ok hi g xs n e 1 w h (by omega) hb
  rw [hL] at hB
  have HB := Aside0.mk hB
  clear h hB hL
  generalize xs.getD n 0 * 256 + xs.getD (n + 1) 0 = x at HB ⊢
  go_enter Try.func21, Try.ntmps21
  go_wp2_with (go_at_call 26; refine HB.out.mono ?_; rintro en w1 ⟨A', c', rfl, b1, b2, b3, b4⟩; obtain ⟨ad, rfl, q0⟩ := at_row16 b2 0 (by simp); rw [Addr.add_zero'] at q0; have q1 : w1.cell? ad = some (.int .u16 x) := q0; have N3 := Aside0.mk b3; have N4 := Aside0.mk b4; clear b1 b2 b3 b4 HB q0)
  go_ret
  exact ⟨rfl, N3.out, N4.out⟩
set_option maxHeartbeats 8000000 in
set_option maxRecDepth 100000 in
theorem word_short (hi g : Nat) (xs : List Int) (n : Nat) (s : Bool) (e : Int) (w : World) (h : RAt hi w g xs n s e) (hs : s = true ∨ xs.length < n + 2) :
    Calls Try.prog 21 #[.pointer (some ⟨g, 0, none⟩)] w fun en w' => en = .returned (.int .u16 0) ∧ RAt hi w' g xs xs.length true (fstE e 2) ∧ Upd g w w' := by
  have HB := Aside0.mk (words_short hi g xs n s e 1 w h (by rcases hs with h | h; exact .inl h; exact .inr (.inr (by omega))))
  clear h
  go_enter Try.func21, Try.ntmps21
  go_wp2_with (go_at_call 26; refine HB.out.mono ?_; rintro en w1 ⟨A1, c1, rfl, b3, b4⟩; have N3 := Aside0.mk b3; have N4 := Aside0.mk b4; clear b3 b4 HB)
  go_ret
  exact ⟨rfl, N3.out, N4.out⟩
set_option maxHeartbeats 8000000 in
set_option maxRecDepth 100000 in
theorem end_any (hi g : Nat) (xs : List Int) (n : Nat) (s : Bool) (e : Int) (w : World) (h : RAt hi w g xs n s e) :
    Calls Try.prog 24 #[.pointer (some ⟨g, 0, none⟩)] w fun en w' => en = .returned (.tuple #[]) ∧ RAt hi w' g xs n s (if n = xs.length then e else fstE e 3) ∧ Upd g w w' := by
  have hn := h.2.1
  have HL := Aside0.mk (left_any hi g xs n s e w h)
  have HN : ∀ W, RAt hi W g xs n s e → Calls Try.prog 23 #[.pointer (some ⟨g, 0, none⟩), .bool (((xs.length : Int) - n) == 0), .int .i64 3] W fun en w' => en = .returned (.tuple #[]) ∧ RAt hi w' g xs n s (if n = xs.length then e else fstE e 3) ∧ Upd g W w' := by
    intro W hW
    by_cases hc : n = xs.length
    · rw [if_pos hc, show (((xs.length : Int) - n) == 0) = true from beq_iff_eq.2 (by omega)]
      exact need_met hi g xs n s e W hW 3
    · rw [if_neg hc, show (((xs.length : Int) - n) == 0) = false from beq_eq_false_iff_ne.2 (by omega)]
      exact need_any hi g xs n s e W hW 3
  generalize (if n = xs.length then e else fstE e 3) = E at HN ⊢
  have HNN := Aside0.mk HN
  clear HN h
  go_enter Try.func24, Try.ntmps24
  go_wp2_with (first | (go_at_call 27; refine HL.out.mono ?_; rintro en w1 ⟨rfl, b1, b2⟩; have N1 := Aside0.mk b1; have N2 := Aside0.mk b2; clear b1 b2 HL) | (go_at_call 23; refine (HNN.out _ N1.out).mono ?_; rintro en w2 ⟨rfl, b1, b2⟩; have N3 := Aside0.mk b1; have N4 := Aside0.mk b2; clear b1 b2 HNN))
  first
  | exact bodyPost_end (results_none rfl _ _ _) rfl ⟨rfl, N3.out, N2.out.trans N4.out⟩
  | exact bodyPost_ret (results_none rfl _ _ _) rfl ⟨rfl, N3.out, N2.out.trans N4.out⟩
end Go.Proofs.Ythhkjmoppaopjaa.RCur
