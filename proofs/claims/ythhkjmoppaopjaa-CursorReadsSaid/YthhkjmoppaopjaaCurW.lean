/- Words out of the cursor: what numbers, Words and Word answer. Conditions: bytes, not more than a million. -/
import Derived.Test.YthhkjmoppaopjaaCur
import Derived.Test.YthhkjmoppaopjaaTake
set_option linter.unusedVariables false
set_option linter.unusedSimpArgs false
namespace Go.Proofs.Ythhkjmoppaopjaa.Cur
open Go.RowKit Go.Proofs.Ythhkjmoppaopjaa.P Go.Proofs.Ythhkjmoppaopjaa.E Go.Proofs.YthhkjmoppaopjaaW.PrintWords Go.Proofs.YthhkjmoppaopjaaW.PrintLast Go.Proofs.YthhkjmoppaopjaaW.PrintMore
/-- A row of words, as Row. -/
def Row16 (lo hi : Nat) (w : World) (A : Option Addr) (xs : List Int) : Prop := ∀ W', Kept w W' (fun k => k < lo ∨ hi ≤ k) → Kd.C (Kd.int .u16) W' A xs.length xs
theorem Row16.now {lo hi : Nat} {w : World} {A : Option Addr} {xs : List Int} (h : Row16 lo hi w A xs) : Kd.C (Kd.int .u16) w A xs.length xs := h w (Kept.refl _ _)
theorem Row16.on {lo hi : Nat} {w w' : World} {A : Option Addr} {xs : List Int} (h : Row16 lo hi w A xs) (hk : Kept w w' (fun k => k < lo ∨ hi ≤ k)) : Row16 lo hi w' A xs := fun W' hk' => h W' (hk.then_ hk' (fun _ h2 => .inl h2))
theorem Row16.nil (lo hi : Nat) (w : World) : Row16 lo hi w none [] := fun W' _ => Kd.C_nil _ W'
theorem Row16.wide {lo hi lo' hi' : Nat} {w : World} {A : Option Addr} {xs : List Int} (h : Row16 lo hi w A xs) (h1 : lo' ≤ lo) (h2 : hi ≤ hi') : Row16 lo' hi' w A xs := fun W' hk => h W' (hk.mono fun k hk => by omega)
theorem row16_of_R {w1 : World} {e : Nat} {ok : Nat → Prop} {A : Option Addr} {n c lo : Nat} {xs : List Int} (h : Kd.R (Kd.int .u16) e w1 lo ok (.slice A n c) xs) : n = xs.length ∧ xs.length ≤ c ∧ Row16 lo w1.heap.size w1 A xs := by
  have h2 := Kd.R_reads' h
  obtain ⟨rfl, h3, _⟩ := h2
  exact ⟨rfl, h3, Kd.C_kept_own (Kd.R_bound h) (fun k hk => by omega)⟩
theorem at_row16 {lo hi : Nat} {w : World} {A : Option Addr} {xs : List Int} (h : Row16 lo hi w A xs) (i : Nat) (hi : i < xs.length) : ∃ ad, A = some ad ∧ w.cell? (ad.add i) = some (.int .u16 (xs.getD i 0)) := by
  obtain ⟨ad, e, h2⟩ := Kd.at_int h.now (i : Int) (by omega) (by omega)
  rw [Int.toNat_natCast] at h2
  refine ⟨ad, e, h2.trans ?_⟩
  simp [rd]
theorem take_any (A : Option Addr) (c : Nat) (l : List Int) (w : World) (hr : Kd.C (Kd.int .u8) w A l.length l) (hc : l.length ≤ c) (hb : isBytes l) (hl : l.length ≤ 1000000) :
    Calls Try.prog 31 #[.slice A l.length c] w fun e w' => ∃ A' c', e = .returned (.slice A' (Take.words l).length c') ∧ (Take.words l).length ≤ c' ∧ Row16 w.heap.size w'.heap.size w' A' (Take.words l) ∧ Below w.heap.size w w' := by
  obtain ⟨k, hk⟩ := (Take.take_ev l hb hl).rounds
  refine (word_Take.calls k A c l _ w hr hc hk).mono ?_
  rintro e w' ⟨v, rfl, R, B⟩
  obtain ⟨A2, c2, rfl, h2, h3⟩ := Kd.R_reads R
  obtain ⟨_, h5, h6⟩ := row16_of_R R
  exact ⟨A2, c2, rfl, h5, h6, B⟩
set_option maxHeartbeats 4000000 in
set_option maxRecDepth 100000 in
theorem numbers_neg (lo hi g : Nat) (xs : List Int) (s : Bool) (e n most : Int) (w : World) (h : At lo hi w g xs s e) (hn : n < 0 ∨ most < n) :
    Calls Try.prog 29 #[.func (.func 10) #[.pointer (some ⟨g, 0, none⟩)] #[], .int .i64 n, .int .i64 most] w fun en w' => en = .returned (.slice none 0 0) ∧ At lo hi w' g [] true (fstE e 2) ∧ Upd g w w' := by
  have HB := Aside0.mk (bytes_short lo hi g xs s e (-1) w h (.inr (.inl (by decide))))
  clear h
  by_cases c1 : n < 0
  · go_enter Try.func29, Try.ntmps29
    go_wp2_with (go_at_call 10; refine HB.out.mono ?_; rintro en w1 ⟨rfl, b3, b4⟩; have N3 := Aside0.mk b3; have N4 := Aside0.mk b4; clear b3 b4 HB)
    go_ret
    exact ⟨rfl, N3.out, N4.out⟩
  · have c2 : most < n := hn.resolve_left c1
    have c3 : decide (n > most) = true := decide_eq_true c2
    go_enter Try.func29, Try.ntmps29
    go_wp2_with (go_at_call 10; refine HB.out.mono ?_; rintro en w1 ⟨rfl, b3, b4⟩; have N3 := Aside0.mk b3; have N4 := Aside0.mk b4; clear b3 b4 HB)
    go_ret
    exact ⟨rfl, N3.out, N4.out⟩
set_option maxHeartbeats 4000000 in
set_option maxRecDepth 100000 in
theorem numbers_few (lo hi g : Nat) (xs : List Int) (s : Bool) (e : Int) (m most : Nat) (w : World) (h : At lo hi w g xs s e) (hm : m ≤ most) (hmost : most ≤ 1000000) (hs : s = true ∨ xs.length < 2 * m) :
    Calls Try.prog 29 #[.func (.func 10) #[.pointer (some ⟨g, 0, none⟩)] #[], .int .i64 m, .int .i64 most] w fun en w' => ∃ A' c', en = .returned (.slice A' 0 c') ∧ At lo hi w' g [] true (fstE e 2) ∧ Upd g w w' := by
  have HB := Aside0.mk (bytes_short lo hi g xs s e ((2 * m : Nat) : Int) w h (by rcases hs with h | h; exact .inl h; exact .inr (.inr (by omega))))
  clear h
  have c1 : decide ((m : Int) < 0) = false := decide_eq_false (by omega)
  have c2 : decide ((m : Int) > (most : Int)) = false := decide_eq_false (by omega)
  have c4 : decide ((most : Int) < (m : Int)) = false := decide_eq_false (by omega)
  have c3 : wrap64 (2 * (m : Int)) = ((2 * m : Nat) : Int) := by rw [wrap64_id (by omega) (by omega)]; omega
  have hT := fun W : World => take_any none 0 [] W (Kd.C_nil _ W) (Nat.le_refl _) (fun x hx => by cases hx) (by simp)
  have HT := Aside0.mk hT
  clear hT
  go_enter Try.func29, Try.ntmps29
  go_wp2_with (first | (go_at_call 10; refine HB.out.mono ?_; rintro en w1 ⟨rfl, b3, b4⟩; have N3 := Aside0.mk b3; have N4 := Aside0.mk b4; clear b3 b4 HB) | (go_at_call 31; refine (HT.out w1).mono ?_; rintro en w2 ⟨A2, c2_, rfl, d1, d2, d3⟩; have D2 := Aside0.mk d2; have D3 := Aside0.mk d3; clear d1 d2 d3))
  go_ret
  have hN : At lo hi w2 g [] true (fstE e 2) := N3.out.below D3.out
  exact ⟨A2, c2_, rfl, hN, N4.out.trans (Upd.of_below D3.out)⟩
set_option maxHeartbeats 4000000 in
set_option maxRecDepth 100000 in
theorem numbers_ok (lo hi g : Nat) (xs : List Int) (e : Int) (m most : Nat) (w : World) (h : At lo hi w g xs false e) (hm : m ≤ most) (hmost : most ≤ 1000000) (hs : 2 * m ≤ xs.length) (hl : xs.length ≤ 1000000) (hb : isBytes xs) :
    Calls Try.prog 29 #[.func (.func 10) #[.pointer (some ⟨g, 0, none⟩)] #[], .int .i64 m, .int .i64 most] w fun en w' => ∃ A' c', en = .returned (.slice A' (Take.words (xs.take (2 * m))).length c') ∧ (Take.words (xs.take (2 * m))).length ≤ c' ∧ Row16 w.heap.size w'.heap.size w' A' (Take.words (xs.take (2 * m))) ∧ At lo hi w' g (xs.drop (2 * m)) false e ∧ Upd g w w' := by
  have HB := Aside0.mk (bytes_ok lo hi g xs e (2 * m) w h hs hl)
  clear h
  have c1 : decide ((m : Int) < 0) = false := decide_eq_false (by omega)
  have c2 : decide ((m : Int) > (most : Int)) = false := decide_eq_false (by omega)
  have c4 : decide ((most : Int) < (m : Int)) = false := decide_eq_false (by omega)
  have c3 : wrap64 (2 * (m : Int)) = ((2 * m : Nat) : Int) := by rw [wrap64_id (by omega) (by omega)]; omega
  have hT := fun (W : World) (A : Option Addr) (c : Nat) (hr : Kd.C (Kd.int .u8) W A (xs.take (2 * m)).length (xs.take (2 * m))) (hc : (xs.take (2 * m)).length ≤ c) => take_any A c (xs.take (2 * m)) W hr hc (isBytes_take hb _) (by rw [List.length_take]; omega)
  have HT := Aside0.mk hT
  clear hT
  generalize hws : Take.words (xs.take (2 * m)) = ws at *
  clear hws
  generalize xs.take (2 * m) = bs at *
  go_enter Try.func29, Try.ntmps29
  go_wp2_with (first | (go_at_call 10; refine HB.out.mono ?_; rintro en w1 ⟨A1, c1_, rfl, b1, b2, b3, b4⟩; have N1 := Aside0.mk b1; have N2 := Aside0.mk b2; have N3 := Aside0.mk b3; have N4 := Aside0.mk b4; clear b1 b2 b3 b4 HB) | (go_at_call 31; refine (HT.out w1 A1 c1_ N2.out.now N1.out).mono ?_; rintro en w2 ⟨A2, c2_, rfl, d1, d2, d3⟩; have D1 := Aside0.mk d1; have D2 := Aside0.mk d2; have D3 := Aside0.mk d3; clear d1 d2 d3))
  go_ret
  exact ⟨A2, c2_, rfl, D1.out, D2.out.wide N4.out.kept.1 (Nat.le_refl _), N3.out.below D3.out, N4.out.trans (Upd.of_below D3.out)⟩
set_option maxHeartbeats 4000000 in
set_option maxRecDepth 100000 in
theorem words_short (lo hi g : Nat) (xs : List Int) (s : Bool) (e n : Int) (w : World) (h : At lo hi w g xs s e) (hl : xs.length ≤ 1000000) (hn : s = true ∨ n < 0 ∨ (xs.length : Int) < 2 * n) :
    Calls Try.prog 14 #[.pointer (some ⟨g, 0, none⟩), .int .i64 n] w fun en w' => ∃ A' c', en = .returned (.slice A' 0 c') ∧ At lo hi w' g [] true (fstE e 2) ∧ Upd g w w' := by
  have hN : Calls Try.prog 29 #[.func (.func 10) #[.pointer (some ⟨g, 0, none⟩)] #[], .int .i64 n, .int .i64 xs.length] w fun en w' => ∃ A' c', en = .returned (.slice A' 0 c') ∧ At lo hi w' g [] true (fstE e 2) ∧ Upd g w w' := by
    by_cases c1 : n < 0 ∨ (xs.length : Int) < n
    · exact (numbers_neg lo hi g xs s e n xs.length w h c1).mono fun en w' hh => ⟨none, 0, hh⟩
    · obtain ⟨m, rfl⟩ : ∃ m : Nat, n = m := ⟨n.toNat, by omega⟩
      exact numbers_few lo hi g xs s e m xs.length w h (by omega) hl (by rcases hn with h | h | h; exact .inl h; omega; exact .inr (by omega))
  have HN := Aside0.mk hN
  clear hN hn
  obtain ⟨h1, A, c, h2, h3, h4⟩ := h
  obtain ⟨k0, k1, k2, f0, f1, f2⟩ := cells_of h2
  clear h2 h4
  have hu1 := Try.underlying50
  go_enter Try.func14, Try.ntmps14
  go_wp2_with (go_at_call 29; refine HN.out.mono ?_; rintro en w1 ⟨A1, c1, rfl, b3, b4⟩; have N3 := Aside0.mk b3; have N4 := Aside0.mk b4; clear b3 b4 HN)
  go_ret
  exact ⟨A1, c1, rfl, N3.out, N4.out⟩
set_option maxHeartbeats 4000000 in
set_option maxRecDepth 100000 in
theorem words_ok (lo hi g : Nat) (xs : List Int) (e : Int) (m : Nat) (w : World) (h : At lo hi w g xs false e) (hs : 2 * m ≤ xs.length) (hl : xs.length ≤ 1000000) (hb : isBytes xs) :
    Calls Try.prog 14 #[.pointer (some ⟨g, 0, none⟩), .int .i64 m] w fun en w' => ∃ A' c', en = .returned (.slice A' (Take.words (xs.take (2 * m))).length c') ∧ (Take.words (xs.take (2 * m))).length ≤ c' ∧ Row16 w.heap.size w'.heap.size w' A' (Take.words (xs.take (2 * m))) ∧ At lo hi w' g (xs.drop (2 * m)) false e ∧ Upd g w w' := by
  have HN := Aside0.mk (numbers_ok lo hi g xs e m xs.length w h (by omega) hl hs hl hb)
  generalize Take.words (xs.take (2 * m)) = ws at *
  obtain ⟨h1, A, c, h2, h3, h4⟩ := h
  obtain ⟨k0, k1, k2, f0, f1, f2⟩ := cells_of h2
  clear h2 h4 hs
  have hu1 := Try.underlying50
  go_enter Try.func14, Try.ntmps14
  go_wp2_with (go_at_call 29; refine HN.out.mono ?_; rintro en w1 ⟨A1, c1, rfl, b1, b2, b3, b4⟩; have N1 := Aside0.mk b1; have N2 := Aside0.mk b2; have N3 := Aside0.mk b3; have N4 := Aside0.mk b4; clear b1 b2 b3 b4 HN)
  go_ret
  exact ⟨A1, c1, rfl, N1.out, N2.out, N3.out, N4.out⟩
theorem words_two (a b : Int) (t : List Int) : Take.words ((a :: b :: t).take (2 * 1)) = [a * 256 + b] := by
  simp [Take.words, Take.pre, Take.wordAt, List.range_succ]
set_option maxHeartbeats 4000000 in
set_option maxRecDepth 100000 in
theorem word_ok (lo hi g : Nat) (a b : Int) (xs : List Int) (e : Int) (w : World) (h : At lo hi w g (a :: b :: xs) false e) (hl : (a :: b :: xs).length ≤ 1000000) (hb : isBytes (a :: b :: xs)) :
    Calls Try.prog 15 #[.pointer (some ⟨g, 0, none⟩)] w fun en w' => en = .returned (.int .u16 (a * 256 + b)) ∧ At lo hi w' g xs false e ∧ Upd g w w' := by
  have hB := words_ok lo hi g (a :: b :: xs) e 1 w h (by simp) hl hb
  rw [words_two] at hB
  have HB := Aside0.mk hB
  clear h hB
  go_enter Try.func15, Try.ntmps15
  go_wp2_with (go_at_call 14; refine HB.out.mono ?_; rintro en w1 ⟨A', c', rfl, b1, b2, b3, b4⟩; obtain ⟨ad, rfl, q0⟩ := at_row16 b2 0 (by simp); have N3 := Aside0.mk b3; have N4 := Aside0.mk b4; clear b1 b2 b3 b4 HB)
  have q1 : w1.cell? ad = some (.int .u16 (a * 256 + b)) := by have := q0; rw [Addr.add_zero'] at this; exact this
  clear q0
  go_loopw [8] (fun i wr => i = .int .i64 0 ∧ wr = w1) (fun i _ => 0)
  case atStart => exact ⟨rfl, rfl⟩
  case round =>
    obtain ⟨rfl, rfl⟩ := hrel
    go_wp2
    go_ret
    exact ⟨rfl, N3.out, N4.out⟩
set_option maxHeartbeats 4000000 in
set_option maxRecDepth 100000 in
theorem word_short (lo hi g : Nat) (xs : List Int) (s : Bool) (e : Int) (w : World) (h : At lo hi w g xs s e) (hl : xs.length ≤ 1000000) (hs : s = true ∨ xs.length < 2) :
    Calls Try.prog 15 #[.pointer (some ⟨g, 0, none⟩)] w fun en w' => en = .returned (.int .u16 0) ∧ At lo hi w' g [] true (fstE e 2) ∧ Upd g w w' := by
  have HB := Aside0.mk (words_short lo hi g xs s e 1 w h hl (by rcases hs with h | h; exact .inl h; exact .inr (.inr (by omega))))
  clear h
  go_enter Try.func15, Try.ntmps15
  go_wp2_with (go_at_call 14; refine HB.out.mono ?_; rintro en w1 ⟨A', c', rfl, b3, b4⟩; have N3 := Aside0.mk b3; have N4 := Aside0.mk b4; clear b3 b4 HB)
  go_loopw [8] (fun i wr => i = .int .i64 0 ∧ wr = w1) (fun i _ => 0)
  case atStart => exact ⟨rfl, rfl⟩
  case round =>
    obtain ⟨rfl, rfl⟩ := hrel
    go_wp2
    go_ret
    exact ⟨rfl, N3.out, N4.out⟩
end Go.Proofs.Ythhkjmoppaopjaa.Cur
