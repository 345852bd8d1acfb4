/- What the laws of this chapter rest on, part 3: what the functions that they reach answer, each shown once. Conditions: what each theorem states. (Merged by a program of this session, wip/tools/merge.py, out of its own texts and of the words that the kit's print wrote for this seat, cut to those that are used.) -/
import Derived.Maps.OwnOps
import Derived.Maps.Views
import Derived.Deep.CutRange
import Derived.Test.YtalaochocmcbcaaMB
set_option linter.unusedVariables false
set_option linter.unusedSimpArgs false
set_option maxHeartbeats 16000000
set_option maxRecDepth 100000
section
namespace Go.Proofs.Ytalaochocmcbcaa.Take
open Go.RowKit Go.Proofs.Ytalaochocmcbcaa.P Go.Proofs.Ytalaochocmcbcaa.E Go.Proofs.YtalaochocmcbcaaW.PrintWords Go.Proofs.YtalaochocmcbcaaW.PrintLast Go.Proofs.YtalaochocmcbcaaW.PrintMore
def wordAt (l : List Int) (j : Nat) : Int := l.getD (2 * j) 0 * 256 + l.getD (2 * j + 1) 0
def pre (l : List Int) (j : Nat) : List Int := (List.range j).map (wordAt l)
theorem pre_succ (l : List Int) (j : Nat) : pre l (j + 1) = pre l j ++ [wordAt l j] := by unfold pre; rw [List.range_succ, List.map_append]; rfl
theorem pre_length (l : List Int) (j : Nat) : (pre l j).length = j := by simp [pre]
def words (l : List Int) : List Int := if l.length % 2 = 0 then pre l (l.length / 2) else []
theorem wrap16 {x : Int} (h0 : 0 ≤ x) (h1 : x < 65536) : IntKind.u16.wrap x = x := by simp [IntKind.wrap, IntKind.bits, IntKind.signed]; omega
theorem join (a b : Int) (ha : 0 ≤ a ∧ a < 256) (hb : 0 ≤ b ∧ b < 256) : Go.bits .or .u16 (IntKind.u16.wrap ((IntKind.u16.wrap a) * 256)) (IntKind.u16.wrap b) = a * 256 + b := by
  rw [wrap16 ha.1 (by omega), wrap16 hb.1 (by omega), wrap16 (by omega) (by omega)]
  exact bits_join .u16 16 (by decide) (fun n h0 h1 => by simp [IntKind.wrap, IntKind.bits, IntKind.signed]; omega) 8 (a * 256) b (by omega) (by omega) (by omega) hb.1 (by omega) (by omega)
theorem rd_at (l : List Int) (i : Nat) : rd l (i : Int) = l.getD i 0 := by simp [rd]
theorem loop (l : List Int) (hb : isBytes l) (hl : l.length ≤ 1000000) (he : l.length % 2 = 0) (d : Nat) : ∀ j, j + d = l.length / 2 → Ev (fun k => word_Take.l0 k l (pre l j) ((2 * j : Nat) : Int)) (pre l (l.length / 2)) := by
  induction d with
  | zero =>
    intro j hj
    have c : ¬ ((2 * j : Nat) : Int) < (l.length : Int) := by omega
    refine Ev.step (f := fun _ => some (pre l j)) (fun k => ?_) (ret (by rw [← hj]; rfl))
    simp only [word_Take.l0]
    rw [if_neg c]
  | succ d ih =>
    intro j hj
    have c1 : ((2 * j : Nat) : Int) < (l.length : Int) := by omega
    have c2 : (0 : Int) ≤ ((2 * j : Nat) : Int) := by omega
    have d1 : ((2 * j : Nat) : Int) + 1 = ((2 * j + 1 : Nat) : Int) := by omega
    have d2 : ((2 * j : Nat) : Int) + 2 = ((2 * (j + 1) : Nat) : Int) := by omega
    have e1 : -9223372036854775808 ≤ ((2 * j + 1 : Nat) : Int) := by omega
    have e2 : ((2 * j + 1 : Nat) : Int) < 9223372036854775808 := by omega
    have e3 : -9223372036854775808 ≤ ((2 * (j + 1) : Nat) : Int) := by omega
    have e4 : ((2 * (j + 1) : Nat) : Int) < 9223372036854775808 := by omega
    have c3 : (0 : Int) ≤ ((2 * j + 1 : Nat) : Int) := by omega
    have c4 : ((2 * j + 1 : Nat) : Int) < (l.length : Int) := by omega
    have c5 : (pre l j).length < 70368744177664 := by rw [pre_length]; omega
    refine Ev.step (f := fun k => word_Take.l0 k l (pre l (j + 1)) ((2 * (j + 1) : Nat) : Int)) (fun k => ?_) (ih (j + 1) (by omega))
    simp only [word_Take.l0]
    rw [d1, d2, wrap64_id e1 e2, wrap64_id e3 e4, if_pos c1, if_pos c2, if_pos c3, if_pos c4, if_pos c5, rd_at, rd_at, join _ _ (isBytes_rd hb _) (isBytes_rd hb _), pre_succ]; rfl
theorem take_ev (l : List Int) (hb : isBytes l) (hl : l.length ≤ 1000000) : Ev (fun k => word_Take.f k l) (words l) := by
  unfold word_Take.f words
  by_cases he : l.length % 2 = 0
  · rw [if_pos he]
    exact pos (by omega) (loop l hb hl he (l.length / 2) 0 (by omega))
  · rw [if_neg he]
    exact neg (by omega) (ret rfl)
end Go.Proofs.Ytalaochocmcbcaa.Take
end
section
namespace Go.Proofs.Ytalaochocmcbcaa.Cur
open Go.RowKit Go.Proofs.Ytalaochocmcbcaa.P Go.Proofs.Ytalaochocmcbcaa.E Go.Proofs.YtalaochocmcbcaaW.PrintWords Go.Proofs.YtalaochocmcbcaaW.PrintLast Go.Proofs.YtalaochocmcbcaaW.PrintMore
def Row16 (lo hi : Nat) (w : World) (A : Option Addr) (xs : List Int) : Prop := ∀ W', Kept w W' (fun k => k < lo ∨ hi ≤ k) → Kd.C (Kd.int .u16) W' A xs.length xs
theorem Row16.now {lo hi : Nat} {w : World} {A : Option Addr} {xs : List Int} (h : Row16 lo hi w A xs) : Kd.C (Kd.int .u16) w A xs.length xs := h w (Kept.refl _ _)
theorem Row16.on {lo hi : Nat} {w w' : World} {A : Option Addr} {xs : List Int} (h : Row16 lo hi w A xs) (hk : Kept w w' (fun k => k < lo ∨ hi ≤ k)) : Row16 lo hi w' A xs := fun W' hk' => h W' (hk.then_ hk' (fun _ h2 => .inl h2))
theorem Row16.wide {lo hi lo' hi' : Nat} {w : World} {A : Option Addr} {xs : List Int} (h : Row16 lo hi w A xs) (h1 : lo' ≤ lo) (h2 : hi ≤ hi') : Row16 lo' hi' w A xs := fun W' hk => h W' (hk.mono fun k hk => by omega)
theorem row16_of_R {w1 : World} {e : Nat} {ok : Nat → Prop} {A : Option Addr} {n c lo : Nat} {xs : List Int} (h : Kd.R (Kd.int .u16) e w1 lo ok (.slice A n c) xs) : n = xs.length ∧ xs.length ≤ c ∧ Row16 lo w1.heap.size w1 A xs := by
  have h2 := Kd.R_reads' h
  obtain ⟨rfl, h3, _⟩ := h2
  exact ⟨rfl, h3, Kd.C_kept_own (Kd.R_bound h) (fun k hk => by omega)⟩
theorem at_row16 {lo hi : Nat} {w : World} {A : Option Addr} {xs : List Int} (h : Row16 lo hi w A xs) (i : Nat) (hi : i < xs.length) : ∃ ad, A = some ad ∧ w.cell? (ad.add i) = some (.int .u16 (xs.getD i 0)) := by
  obtain ⟨ad, e, h2⟩ := Kd.at_int h.now (i : Int) (by omega) (by omega)
  rw [Int.toNat_natCast] at h2
  refine ⟨ad, e, h2.trans ?_⟩
  simp [rd]
theorem take_any (A : Option Addr) (c : Nat) (l : List Int) (w : World) (hr : Kd.C (Kd.int .u8) w A l.length l) (hc : l.length ≤ c) (hb : isBytes l) (hl : l.length ≤ 1000000) :
    Calls Try.prog 63 #[.slice A l.length c] w fun e w' => ∃ A' c', e = .returned (.slice A' (Take.words l).length c') ∧ (Take.words l).length ≤ c' ∧ Row16 w.heap.size w'.heap.size w' A' (Take.words l) ∧ Below w.heap.size w w' := by
  obtain ⟨k, hk⟩ := (Take.take_ev l hb hl).rounds
  refine (word_Take.calls k A c l _ w hr hc hk).mono ?_
  rintro e w' ⟨v, rfl, R, B⟩
  obtain ⟨A2, c2, rfl, h2, h3⟩ := Kd.R_reads R
  obtain ⟨_, h5, h6⟩ := row16_of_R R
  exact ⟨A2, c2, rfl, h5, h6, B⟩
theorem numbers_neg (lo hi g : Nat) (xs : List Int) (s : Bool) (e n most : Int) (w : World) (h : At lo hi w g xs s e) (hn : n < 0 ∨ most < n) :
    Calls Try.prog 59 #[.func (.func 47) #[.pointer (some ⟨g, 0, none⟩)] #[], .int .i64 n, .int .i64 most] w fun en w' => en = .returned (.slice none 0 0) ∧ At lo hi w' g [] true (fstE e 2) ∧ Upd g w w' := by
  have HB := Aside0.mk (bytes_short lo hi g xs s e (-1) w h (.inr (.inl (by decide))))
  clear h
  by_cases c1 : n < 0
  · go_enter Try.func59, Try.ntmps59
    go_wp2_with (go_at_call 47; refine HB.out.mono ?_; rintro en w1 ⟨rfl, b3, b4⟩; have N3 := Aside0.mk b3; have N4 := Aside0.mk b4; clear b3 b4 HB)
    go_ret
    exact ⟨rfl, N3.out, N4.out⟩
  · have c2 : most < n := hn.resolve_left c1
    have c3 : decide (n > most) = true := decide_eq_true c2
    go_enter Try.func59, Try.ntmps59
    go_wp2_with (go_at_call 47; refine HB.out.mono ?_; rintro en w1 ⟨rfl, b3, b4⟩; have N3 := Aside0.mk b3; have N4 := Aside0.mk b4; clear b3 b4 HB)
    go_ret
    exact ⟨rfl, N3.out, N4.out⟩
theorem numbers_few (lo hi g : Nat) (xs : List Int) (s : Bool) (e : Int) (m most : Nat) (w : World) (h : At lo hi w g xs s e) (hm : m ≤ most) (hmost : most ≤ 1000000) (hs : s = true ∨ xs.length < 2 * m) :
    Calls Try.prog 59 #[.func (.func 47) #[.pointer (some ⟨g, 0, none⟩)] #[], .int .i64 m, .int .i64 most] w fun en w' => ∃ A' c', en = .returned (.slice A' 0 c') ∧ At lo hi w' g [] true (fstE e 2) ∧ Upd g w w' := by
  have HB := Aside0.mk (bytes_short lo hi g xs s e ((2 * m : Nat) : Int) w h (by rcases hs with h | h; exact .inl h; exact .inr (.inr (by omega))))
  clear h
  have c1 : decide ((m : Int) < 0) = false := decide_eq_false (by omega)
  have c2 : decide ((m : Int) > (most : Int)) = false := decide_eq_false (by omega)
  have c4 : decide ((most : Int) < (m : Int)) = false := decide_eq_false (by omega)
  have c3 : wrap64 (2 * (m : Int)) = ((2 * m : Nat) : Int) := by rw [wrap64_id (by omega) (by omega)]; omega
  have hT := fun W : World => take_any none 0 [] W (Kd.C_nil _ W) (Nat.le_refl _) (fun x hx => by cases hx) (by simp)
  have HT := Aside0.mk hT
  clear hT
  go_enter Try.func59, Try.ntmps59
  go_wp2_with (first | (go_at_call 47; refine HB.out.mono ?_; rintro en w1 ⟨rfl, b3, b4⟩; have N3 := Aside0.mk b3; have N4 := Aside0.mk b4; clear b3 b4 HB) | (go_at_call 63; refine (HT.out w1).mono ?_; rintro en w2 ⟨A2, c2_, rfl, d1, d2, d3⟩; have D2 := Aside0.mk d2; have D3 := Aside0.mk d3; clear d1 d2 d3))
  go_ret
  have hN : At lo hi w2 g [] true (fstE e 2) := N3.out.below D3.out
  exact ⟨A2, c2_, rfl, hN, N4.out.trans (Upd.of_below D3.out)⟩
theorem numbers_ok (lo hi g : Nat) (xs : List Int) (e : Int) (m most : Nat) (w : World) (h : At lo hi w g xs false e) (hm : m ≤ most) (hmost : most ≤ 1000000) (hs : 2 * m ≤ xs.length) (hl : xs.length ≤ 1000000) (hb : isBytes xs) :
    Calls Try.prog 59 #[.func (.func 47) #[.pointer (some ⟨g, 0, none⟩)] #[], .int .i64 m, .int .i64 most] w fun en w' => ∃ A' c', en = .returned (.slice A' (Take.words (xs.take (2 * m))).length c') ∧ (Take.words (xs.take (2 * m))).length ≤ c' ∧ Row16 w.heap.size w'.heap.size w' A' (Take.words (xs.take (2 * m))) ∧ At lo hi w' g (xs.drop (2 * m)) false e ∧ Upd g w w' := by
  have HB := Aside0.mk (bytes_ok lo hi g xs e (2 * m) w h hs hl)
  clear h
  have c1 : decide ((m : Int) < 0) = false := decide_eq_false (by omega)
  have c2 : decide ((m : Int) > (most : Int)) = false := decide_eq_false (by omega)
  have c4 : decide ((most : Int) < (m : Int)) = false := decide_eq_false (by omega)
  have c3 : wrap64 (2 * (m : Int)) = ((2 * m : Nat) : Int) := by rw [wrap64_id (by omega) (by omega)]; omega
  have hT := fun (W : World) (A : Option Addr) (c : Nat) (hr : Kd.C (Kd.int .u8) W A (xs.take (2 * m)).length (xs.take (2 * m))) (hc : (xs.take (2 * m)).length ≤ c) => take_any A c (xs.take (2 * m)) W hr hc (isBytes_take hb _) (by rw [List.length_take]; omega)
  have HT := Aside0.mk hT
  clear hT
  generalize hws : Take.words (xs.take (2 * m)) = ws at *
  clear hws
  generalize xs.take (2 * m) = bs at *
  go_enter Try.func59, Try.ntmps59
  go_wp2_with (first | (go_at_call 47; refine HB.out.mono ?_; rintro en w1 ⟨A1, c1_, rfl, b1, b2, b3, b4⟩; have N1 := Aside0.mk b1; have N2 := Aside0.mk b2; have N3 := Aside0.mk b3; have N4 := Aside0.mk b4; clear b1 b2 b3 b4 HB) | (go_at_call 63; refine (HT.out w1 A1 c1_ N2.out.now N1.out).mono ?_; rintro en w2 ⟨A2, c2_, rfl, d1, d2, d3⟩; have D1 := Aside0.mk d1; have D2 := Aside0.mk d2; have D3 := Aside0.mk d3; clear d1 d2 d3))
  go_ret
  exact ⟨A2, c2_, rfl, D1.out, D2.out.wide N4.out.kept.1 (Nat.le_refl _), N3.out.below D3.out, N4.out.trans (Upd.of_below D3.out)⟩
theorem words_short (lo hi g : Nat) (xs : List Int) (s : Bool) (e n : Int) (w : World) (h : At lo hi w g xs s e) (hl : xs.length ≤ 1000000) (hn : s = true ∨ n < 0 ∨ (xs.length : Int) < 2 * n) :
    Calls Try.prog 42 #[.pointer (some ⟨g, 0, none⟩), .int .i64 n] w fun en w' => ∃ A' c', en = .returned (.slice A' 0 c') ∧ At lo hi w' g [] true (fstE e 2) ∧ Upd g w w' := by
  have hN : Calls Try.prog 59 #[.func (.func 47) #[.pointer (some ⟨g, 0, none⟩)] #[], .int .i64 n, .int .i64 xs.length] w fun en w' => ∃ A' c', en = .returned (.slice A' 0 c') ∧ At lo hi w' g [] true (fstE e 2) ∧ Upd g w w' := by
    by_cases c1 : n < 0 ∨ (xs.length : Int) < n
    · exact (numbers_neg lo hi g xs s e n xs.length w h c1).mono fun en w' hh => ⟨none, 0, hh⟩
    · obtain ⟨m, rfl⟩ : ∃ m : Nat, n = m := ⟨n.toNat, by omega⟩
      exact numbers_few lo hi g xs s e m xs.length w h (by omega) hl (by rcases hn with h | h | h; exact .inl h; omega; exact .inr (by omega))
  have HN := Aside0.mk hN
  clear hN hn
  obtain ⟨h1, A, c, h2, h3, h4⟩ := h
  obtain ⟨k0, k1, k2, f0, f1, f2⟩ := cells_of h2
  clear h2 h4
  have hu1 := Try.underlying73
  go_enter Try.func42, Try.ntmps42
  go_wp2_with (go_at_call 59; refine HN.out.mono ?_; rintro en w1 ⟨A1, c1, rfl, b3, b4⟩; have N3 := Aside0.mk b3; have N4 := Aside0.mk b4; clear b3 b4 HN)
  go_ret
  exact ⟨A1, c1, rfl, N3.out, N4.out⟩
theorem words_ok (lo hi g : Nat) (xs : List Int) (e : Int) (m : Nat) (w : World) (h : At lo hi w g xs false e) (hs : 2 * m ≤ xs.length) (hl : xs.length ≤ 1000000) (hb : isBytes xs) :
    Calls Try.prog 42 #[.pointer (some ⟨g, 0, none⟩), .int .i64 m] w fun en w' => ∃ A' c', en = .returned (.slice A' (Take.words (xs.take (2 * m))).length c') ∧ (Take.words (xs.take (2 * m))).length ≤ c' ∧ Row16 w.heap.size w'.heap.size w' A' (Take.words (xs.take (2 * m))) ∧ At lo hi w' g (xs.drop (2 * m)) false e ∧ Upd g w w' := by
  have HN := Aside0.mk (numbers_ok lo hi g xs e m xs.length w h (by omega) hl hs hl hb)
  generalize Take.words (xs.take (2 * m)) = ws at *
  obtain ⟨h1, A, c, h2, h3, h4⟩ := h
  obtain ⟨k0, k1, k2, f0, f1, f2⟩ := cells_of h2
  clear h2 h4 hs
  have hu1 := Try.underlying73
  go_enter Try.func42, Try.ntmps42
  go_wp2_with (go_at_call 59; refine HN.out.mono ?_; rintro en w1 ⟨A1, c1, rfl, b1, b2, b3, b4⟩; have N1 := Aside0.mk b1; have N2 := Aside0.mk b2; have N3 := Aside0.mk b3; have N4 := Aside0.mk b4; clear b1 b2 b3 b4 HN)
  go_ret
  exact ⟨A1, c1, rfl, N1.out, N2.out, N3.out, N4.out⟩
theorem words_two (a b : Int) (t : List Int) : Take.words ((a :: b :: t).take (2 * 1)) = [a * 256 + b] := by
  simp [Take.words, Take.pre, Take.wordAt, List.range_succ]
theorem word_ok (lo hi g : Nat) (a b : Int) (xs : List Int) (e : Int) (w : World) (h : At lo hi w g (a :: b :: xs) false e) (hl : (a :: b :: xs).length ≤ 1000000) (hb : isBytes (a :: b :: xs)) :
    Calls Try.prog 39 #[.pointer (some ⟨g, 0, none⟩)] w fun en w' => en = .returned (.int .u16 (a * 256 + b)) ∧ At lo hi w' g xs false e ∧ Upd g w w' := by
  have hB := words_ok lo hi g (a :: b :: xs) e 1 w h (by simp) hl hb
  rw [words_two] at hB
  have HB := Aside0.mk hB
  clear h hB
  go_enter Try.func39, Try.ntmps39
  go_wp2_with (go_at_call 42; refine HB.out.mono ?_; rintro en w1 ⟨A', c', rfl, b1, b2, b3, b4⟩; obtain ⟨ad, rfl, q0⟩ := at_row16 b2 0 (by simp); have N3 := Aside0.mk b3; have N4 := Aside0.mk b4; clear b1 b2 b3 b4 HB)
  have q1 : w1.cell? ad = some (.int .u16 (a * 256 + b)) := by have := q0; rw [Addr.add_zero'] at this; exact this
  clear q0
  go_loopw [8] (fun i wr => i = .int .i64 0 ∧ wr = w1) (fun i _ => 0)
  case atStart => exact ⟨rfl, rfl⟩
  case round =>
    obtain ⟨rfl, rfl⟩ := hrel
    go_wp2
    go_ret
    exact ⟨rfl, N3.out, N4.out⟩
theorem word_short (lo hi g : Nat) (xs : List Int) (s : Bool) (e : Int) (w : World) (h : At lo hi w g xs s e) (hl : xs.length ≤ 1000000) (hs : s = true ∨ xs.length < 2) :
    Calls Try.prog 39 #[.pointer (some ⟨g, 0, none⟩)] w fun en w' => en = .returned (.int .u16 0) ∧ At lo hi w' g [] true (fstE e 2) ∧ Upd g w w' := by
  have HB := Aside0.mk (words_short lo hi g xs s e 1 w h hl (by rcases hs with h | h; exact .inl h; exact .inr (.inr (by omega))))
  clear h
  go_enter Try.func39, Try.ntmps39
  go_wp2_with (go_at_call 42; refine HB.out.mono ?_; rintro en w1 ⟨A', c', rfl, b3, b4⟩; have N3 := Aside0.mk b3; have N4 := Aside0.mk b4; clear b3 b4 HB)
  go_loopw [8] (fun i wr => i = .int .i64 0 ∧ wr = w1) (fun i _ => 0)
  case atStart => exact ⟨rfl, rfl⟩
  case round =>
    obtain ⟨rfl, rfl⟩ := hrel
    go_wp2
    go_ret
    exact ⟨rfl, N3.out, N4.out⟩
end Go.Proofs.Ytalaochocmcbcaa.Cur
end
section
namespace Go.Proofs.Ytalaochocmcbcaa.RCur
open Go.RowKit Go.Proofs.Ytalaochocmcbcaa.P Go.Proofs.Ytalaochocmcbcaa.E Go.Proofs.Ytalaochocmcbcaa.Cur Go.Proofs.YtalaochocmcbcaaW.PrintWords Go.Proofs.YtalaochocmcbcaaW.PrintLast Go.Proofs.YtalaochocmcbcaaW.PrintMore
def RAt (hi : Nat) (w : World) (g : Nat) (xs : List Int) (n : Nat) (s : Bool) (e : Int) : Prop :=
  hi ≤ g ∧ n ≤ xs.length ∧ xs.length ≤ 1000000 ∧ ∃ A c, w.heap[g]? = some (.cells #[.slice A xs.length c, .int .i64 n, .bool s, .int .i64 e] 56 (0, 0)) ∧ xs.length ≤ c ∧ Row 0 hi w A xs
theorem cells4 {w : World} {g : Nat} {t : TypeId} {v0 v1 v2 v3 : Value} (h : w.heap[g]? = some (.cells #[v0, v1, v2, v3] t (0, 0))) : (w.cell? ⟨g, 0, none⟩ = some v0 ∧ w.cell? ⟨g, 1, none⟩ = some v1 ∧ w.cell? ⟨g, 2, none⟩ = some v2 ∧ w.cell? ⟨g, 3, none⟩ = some v3) ∧ w.frozen? ⟨g, 0, none⟩ = false ∧ w.frozen? ⟨g, 1, none⟩ = false ∧ w.frozen? ⟨g, 2, none⟩ = false ∧ w.frozen? ⟨g, 3, none⟩ = false :=
  ⟨⟨blk_cell h 0, blk_cell h 1, blk_cell h 2, blk_cell h 3⟩, blk_frozen h 0, blk_frozen h 1, blk_frozen h 2, blk_frozen h 3⟩
def bm (n m : Nat) : Array Bool := ⟨(List.range n).map fun i => m.testBit i⟩
theorem need_set (hi g : Nat) (xs : List Int) (n : Nat) (s : Bool) (f : Int) (w : World) (h : RAt hi w g xs n s 0) :
    Calls Try.prog 26 #[.pointer (some ⟨g, 0, none⟩), .bool false, .int .i64 f] w fun en w' => en = .returned (.tuple #[]) ∧ RAt hi w' g xs n s f ∧ Upd g w w' := by
  obtain ⟨h1, hn, hx, A, c, h2, h3, h4⟩ := h
  obtain ⟨⟨k0, k1, k2, k3⟩, f0, f1, f2, f3⟩ := cells4 h2
  have H2 := Aside0.mk h2
  have H4 := Aside0.mk h4
  clear h2 h4
  have hu1 := Try.underlying56
  go_enter Try.func26, Try.ntmps26
  go_wp2
  first
  | exact bodyPost_end (results_none rfl _ _ _) rfl ⟨rfl, ⟨h1, hn, hx, A, c, blk_put H2.out 3 _ rfl, h3, H4.out.on ((Upd.set w g 3 _).kept.mono (fun k hk => .inr (by omega)))⟩, Upd.set _ _ _ _⟩
  | exact bodyPost_ret (results_none rfl _ _ _) rfl ⟨rfl, ⟨h1, hn, hx, A, c, blk_put H2.out 3 _ rfl, h3, H4.out.on ((Upd.set w g 3 _).kept.mono (fun k hk => .inr (by omega)))⟩, Upd.set _ _ _ _⟩
theorem need_keep (hi g : Nat) (xs : List Int) (n : Nat) (s : Bool) (e : Int) (w : World) (h : RAt hi w g xs n s e) (f : Int) (he : e ≠ 0) :
    Calls Try.prog 26 #[.pointer (some ⟨g, 0, none⟩), .bool false, .int .i64 f] w fun en w' => en = .returned (.tuple #[]) ∧ RAt hi w' g xs n s e ∧ Upd g w w' := by
  have e1 : (e == 0) = false := beq_eq_false_iff_ne.2 he
  have e2 : (e != 0) = true := bne_iff_ne.2 he
  clear he
  obtain ⟨h1, hn, hx, A, c, h2, h3, h4⟩ := h
  obtain ⟨⟨k0, k1, k2, k3⟩, f0, f1, f2, f3⟩ := cells4 h2
  have H2 := Aside0.mk h2
  have H4 := Aside0.mk h4
  clear h2 h4
  have hu1 := Try.underlying56
  go_enter Try.func26, Try.ntmps26
  go_wp2
  exact bodyPost_ret (results_none rfl _ _ _) rfl ⟨rfl, ⟨h1, hn, hx, A, c, H2.out, h3, H4.out⟩, Upd.refl _ _⟩
theorem need_any (hi g : Nat) (xs : List Int) (n : Nat) (s : Bool) (e : Int) (w : World) (h : RAt hi w g xs n s e) (f : Int) :
    Calls Try.prog 26 #[.pointer (some ⟨g, 0, none⟩), .bool false, .int .i64 f] w fun en w' => en = .returned (.tuple #[]) ∧ RAt hi w' g xs n s (fstE e f) ∧ Upd g w w' := by
  by_cases he : e = 0
  · subst he
    exact need_set hi g xs n s f w h
  · have := need_keep hi g xs n s e w h f he
    rw [show fstE e f = e from if_neg he]
    exact this
def rbytes.T1 : Bool × List (List Nat × List Nat) := (true, [([], []), ([0], [0]), ([1], [1]), ([2], [2]), ([3], [3]), ([4], [4]), ([5, 4], [4, 5]), ([4, 6], [4, 6]), ([7, 4], [7]), ([8], [8]), ([8], [8]), ([10, 8], [8, 10]), ([11, 8], [8, 11]), ([12, 8], [8, 12]), ([13, 8], [8, 13]), ([8], [8]), ([15, 8], [8, 15]), ([16, 8], [8, 16]), ([17, 8], [8, 17]), ([14, 18, 8], [8, 14, 18]), ([9, 19, 8], [8, 9, 19]), ([8, 20], [8, 20])])
def rbytes.B1 : List Nat := [0, 1, 3, 7, 15, 31, 63, 127, 255, 511, 511, 1535, 3583, 7679, 15871, 511, 33279, 98815, 229887, 523775, 1048575, 2097151]
theorem rbytes.tab1 : rtab .any (opsOf Try.f31 1) = rbytes.T1 := by kernel_rfl
theorem rbytes.bits1 : waitsOk rbytes.T1.2 rbytes.B1 = true := by kernel_rfl
def rbytes.T7 : Bool × List (List Nat × List Nat) := (true, [([], []), ([0], [0]), ([1], [1]), ([2], [2]), ([], []), ([4], [4]), ([5], [5]), ([6], [6]), ([], []), ([7, 8], [7, 8]), ([], []), ([10], [10]), ([11], [11]), ([12], [12]), ([3, 9, 13], [3, 9, 13]), ([14, 0, 1, 2, 3, 4, 5, 6, 7, 8, 9, 10, 11, 12, 13, 14], [14])])
def rbytes.B7 : List Nat := [0, 1, 3, 7, 0, 16, 48, 112, 0, 496, 0, 1024, 3072, 7168, 16383, 32767]
theorem rbytes.tab7 : rtab .any (opsOf Try.f31 7) = rbytes.T7 := by kernel_rfl
theorem rbytes.bits7 : waitsOk rbytes.T7.2 rbytes.B7 = true := by kernel_rfl
theorem bytes_s (hi g : Nat) (xs : List Int) (n : Nat) (e m : Int) (w : World) (h : RAt hi w g xs n true e)  :
    Calls Try.prog 31 #[.pointer (some ⟨g, 0, none⟩), .int .i64 m] w fun en w' => en = .returned (.slice none 0 0) ∧ RAt hi w' g xs xs.length true (fstE e 2) ∧ Upd g w w' := by
  obtain ⟨h1, hn, hx, A, c, h2, h3, h4⟩ := h
  obtain ⟨⟨k0, k1, k2, k3⟩, f0, f1, f2, f3⟩ := cells4 h2
  have H2 := Aside0.mk h2
  have H4 := Aside0.mk h4
  clear h2 h4
  have hu1 := Try.underlying56
  have c1 : wrap64 ((xs.length : Int) - (n : Int)) = (xs.length : Int) - (n : Int) := wrap64_id (by omega) (by omega)
  have FIN := Aside0.mk (fun (W : World) (hW : RAt hi W g xs xs.length true e) => need_any hi g xs xs.length true e W hW 2)
  go_enter Try.func31, Try.ntmps31
  go_wp2
  refine start_ (n := 22) (S := fun w' => w'.cell? ⟨g, 0, none⟩ = some (.slice A xs.length c) ∧ w'.cell? ⟨g, 1, none⟩ = some (.int .i64 n) ∧ w'.cell? ⟨g, 2, none⟩ = some (.bool true) ∧ Aside0 (w'.heap[g]? = some (.cells #[.slice A xs.length c, .int .i64 n, .bool true, .int .i64 e] 56 (0, 0))) ∧ Aside0 (Upd g w w')) (ds := []) (bm 22 0) (by as_aux_lemma => kernel_rfl) rfl (by as_aux_lemma => kernel_rfl) ⟨k0, k1, k2, (Aside0.mk H2.out), (Aside0.mk ⟨rfl, rfl, rfl, (Kept.refl _ _).drew⟩)⟩ (fun hHeld => ?_)
  refine with_tabW rbytes.tab1 rbytes.bits1 (fun HT_ HW_ => ?_)
  refine pure_ (i := 0) (N := some 5) (v := ?_) (a' := ?_) (bm 22 1) rfl rfl (any_of HT_.out (by as_aux_lemma => kernel_rfl)) (fun _ _ _ h => h) (Or.inl ⟨by rfl, ?_⟩) ?_ ?_
  rotate_left
  · intro w'
    go_simp
    with_reducible rfl
  rotate_left
  · simp only [Act.put, List.setIfInBounds_toArray, List.set_cons_zero, List.set_cons_succ, i64_w, i32_w]
    rfl
  refine pure_ (i := 1) (N := some 6) (v := ?_) (a' := ?_) (bm 22 3) rfl rfl (any_of HT_.out (by as_aux_lemma => kernel_rfl)) (fun _ _ _ h => h) (Or.inl ⟨by rfl, ?_⟩) ?_ ?_
  rotate_left
  · intro w'
    go_simp
    with_reducible rfl
  rotate_left
  · simp only [Act.put, List.setIfInBounds_toArray, List.set_cons_zero, List.set_cons_succ, i64_w, i32_w]
    rfl
  refine pure_ (i := 2) (N := some 7) (v := ?_) (a' := ?_) (bm 22 7) rfl rfl (any_of HT_.out (by as_aux_lemma => kernel_rfl)) (fun _ _ _ h => h) (Or.inl ⟨by rfl, ?_⟩) ?_ ?_
  rotate_left
  · intro w'
    go_simp
    with_reducible rfl
  rotate_left
  · simp only [Act.put, List.setIfInBounds_toArray, List.set_cons_zero, List.set_cons_succ, i64_w, i32_w]
    rfl
  refine take_ (i := 3) (N := some 8) (v := ?_) (a' := ?_) (bm 22 15) rfl rfl (take_ofW HT_.out HW_.out (by as_aux_lemma => kernel_rfl)) (fun _ _ _ h => h) (Or.inl ⟨by rfl, ?_⟩) hHeld ?_ ?_
  rotate_left
  · rintro w' ⟨s0, s1, s2, s3, s4⟩
    go_simp
    with_reducible rfl
  rotate_left
  · simp only [Act.put, List.setIfInBounds_toArray, List.set_cons_zero, List.set_cons_succ, i64_w, i32_w]
    rfl
  refine pure_ (i := 4) (N := some 9) (v := ?_) (a' := ?_) (bm 22 31) rfl rfl (any_of HT_.out (by as_aux_lemma => kernel_rfl)) (fun _ _ _ h => h) (Or.inl ⟨by rfl, ?_⟩) ?_ ?_
  rotate_left
  · intro w'
    go_simp
    with_reducible rfl
  rotate_left
  · simp only [Act.put, List.setIfInBounds_toArray, List.set_cons_zero, List.set_cons_succ, i64_w, i32_w]
    rfl
  refine pure_ (i := 5) (N := some 10) (v := undef) (a' := ?_) (bm 22 63) rfl rfl (any_of HT_.out (by as_aux_lemma => kernel_rfl)) (fun _ _ _ h => h) (Or.inr ⟨by rfl, rfl⟩) ?_ ?_
  rotate_left
  · simp only [Act.put, List.setIfInBounds_toArray, List.set_cons_zero, List.set_cons_succ, i64_w, i32_w]
    rfl
  refine pure_ (i := 6) (N := some 11) (v := undef) (a' := ?_) (bm 22 127) rfl rfl (any_of HT_.out (by as_aux_lemma => kernel_rfl)) (fun _ _ _ h => h) (Or.inr ⟨by rfl, rfl⟩) ?_ ?_
  rotate_left
  · simp only [Act.put, List.setIfInBounds_toArray, List.set_cons_zero, List.set_cons_succ, i64_w, i32_w]
    rfl
  refine pure_ (i := 7) (N := some 12) (v := ?_) (a' := ?_) (bm 22 255) rfl rfl (any_of HT_.out (by as_aux_lemma => kernel_rfl)) (fun _ _ _ h => h) (Or.inl ⟨by rfl, ?_⟩) ?_ ?_
  rotate_left
  · intro w'
    go_simp
    with_reducible rfl
  rotate_left
  · simp only [Act.put, List.setIfInBounds_toArray, List.set_cons_zero, List.set_cons_succ, i64_w, i32_w]
    rfl
  refine pure_ (i := 8) (N := some 13) (v := ?_) (a' := ?_) (bm 22 511) rfl rfl (any_of HT_.out (by as_aux_lemma => kernel_rfl)) (fun _ _ _ h => h) (Or.inl ⟨by rfl, ?_⟩) ?_ ?_
  rotate_left
  · intro w'
    go_simp
    with_reducible rfl
  rotate_left
  · simp only [Act.put, List.setIfInBounds_toArray, List.set_cons_zero, List.set_cons_succ, i64_w, i32_w]
    rfl
  refine pure_ (i := 9) (N := some 14) (v := undef) (a' := ?_) (bm 22 1023) rfl rfl (any_of HT_.out (by as_aux_lemma => kernel_rfl)) (fun _ _ _ h => h) (Or.inr ⟨by rfl, rfl⟩) ?_ ?_
  rotate_left
  · simp only [Act.put, List.setIfInBounds_toArray, List.set_cons_zero, List.set_cons_succ, i64_w, i32_w]
    rfl
  refine pure_ (i := 10) (N := some 15) (v := undef) (a' := ?_) (bm 22 2047) rfl rfl (any_of HT_.out (by as_aux_lemma => kernel_rfl)) (fun _ _ _ h => h) (Or.inr ⟨by rfl, rfl⟩) ?_ ?_
  rotate_left
  · simp only [Act.put, List.setIfInBounds_toArray, List.set_cons_zero, List.set_cons_succ, i64_w, i32_w]
    rfl
  refine pure_ (i := 11) (N := some 16) (v := undef) (a' := ?_) (bm 22 4095) rfl rfl (any_of HT_.out (by as_aux_lemma => kernel_rfl)) (fun _ _ _ h => h) (Or.inr ⟨by rfl, rfl⟩) ?_ ?_
  rotate_left
  · simp only [Act.put, List.setIfInBounds_toArray, List.set_cons_zero, List.set_cons_succ, i64_w, i32_w]
    rfl
  refine pure_ (i := 12) (N := some 17) (v := undef) (a' := ?_) (bm 22 8191) rfl rfl (any_of HT_.out (by as_aux_lemma => kernel_rfl)) (fun _ _ _ h => h) (Or.inr ⟨by rfl, rfl⟩) ?_ ?_
  rotate_left
  · simp only [Act.put, List.setIfInBounds_toArray, List.set_cons_zero, List.set_cons_succ, i64_w, i32_w]
    rfl
  refine pure_ (i := 13) (N := some 18) (v := undef) (a' := ?_) (bm 22 16383) rfl rfl (any_of HT_.out (by as_aux_lemma => kernel_rfl)) (fun _ _ _ h => h) (Or.inr ⟨by rfl, rfl⟩) ?_ ?_
  rotate_left
  · simp only [Act.put, List.setIfInBounds_toArray, List.set_cons_zero, List.set_cons_succ, i64_w, i32_w]
    rfl
  refine pure_ (i := 14) (N := some 19) (v := undef) (a' := ?_) (bm 22 32767) rfl rfl (any_of HT_.out (by as_aux_lemma => kernel_rfl)) (fun _ _ _ h => h) (Or.inr ⟨by rfl, rfl⟩) ?_ ?_
  rotate_left
  · simp only [Act.put, List.setIfInBounds_toArray, List.set_cons_zero, List.set_cons_succ, i64_w, i32_w]
    rfl
  refine pure_ (i := 15) (N := some 20) (v := undef) (a' := ?_) (bm 22 65535) rfl rfl (any_of HT_.out (by as_aux_lemma => kernel_rfl)) (fun _ _ _ h => h) (Or.inr ⟨by rfl, rfl⟩) ?_ ?_
  rotate_left
  · simp only [Act.put, List.setIfInBounds_toArray, List.set_cons_zero, List.set_cons_succ, i64_w, i32_w]
    rfl
  refine pure_ (i := 16) (N := some 21) (v := undef) (a' := ?_) (bm 22 131071) rfl rfl (any_of HT_.out (by as_aux_lemma => kernel_rfl)) (fun _ _ _ h => h) (Or.inr ⟨by rfl, rfl⟩) ?_ ?_
  rotate_left
  · simp only [Act.put, List.setIfInBounds_toArray, List.set_cons_zero, List.set_cons_succ, i64_w, i32_w]
    rfl
  refine pure_ (i := 17) (N := some 22) (v := undef) (a' := ?_) (bm 22 262143) rfl rfl (any_of HT_.out (by as_aux_lemma => kernel_rfl)) (fun _ _ _ h => h) (Or.inr ⟨by rfl, rfl⟩) ?_ ?_
  rotate_left
  · simp only [Act.put, List.setIfInBounds_toArray, List.set_cons_zero, List.set_cons_succ, i64_w, i32_w]
    rfl
  refine pure_ (i := 18) (N := some 23) (v := undef) (a' := ?_) (bm 22 524287) rfl rfl (any_of HT_.out (by as_aux_lemma => kernel_rfl)) (fun _ _ _ h => h) (Or.inr ⟨by rfl, rfl⟩) ?_ ?_
  rotate_left
  · simp only [Act.put, List.setIfInBounds_toArray, List.set_cons_zero, List.set_cons_succ, i64_w, i32_w]
    rfl
  refine pure_ (i := 19) (N := some 24) (v := undef) (a' := ?_) (bm 22 1048575) rfl rfl (any_of HT_.out (by as_aux_lemma => kernel_rfl)) (fun _ _ _ h => h) (Or.inr ⟨by rfl, rfl⟩) ?_ ?_
  rotate_left
  · simp only [Act.put, List.setIfInBounds_toArray, List.set_cons_zero, List.set_cons_succ, i64_w, i32_w]
    rfl
  refine pure_ (i := 20) (N := some 25) (v := undef) (a' := ?_) (bm 22 2097151) rfl rfl (any_of HT_.out (by as_aux_lemma => kernel_rfl)) (fun _ _ _ h => h) (Or.inr ⟨by rfl, rfl⟩) ?_ ?_
  rotate_left
  · simp only [Act.put, List.setIfInBounds_toArray, List.set_cons_zero, List.set_cons_succ, i64_w, i32_w]
    rfl
  refine pure_ (i := 21) (N := some 26) (v := ?_) (a' := ?_) (bm 22 4194303) rfl rfl (any_of HT_.out (by as_aux_lemma => kernel_rfl)) (fun _ _ _ h => h) (Or.inl ⟨by rfl, ?_⟩) ?_ ?_
  rotate_left
  · intro w'
    go_simp
    with_reducible rfl
  rotate_left
  · simp only [Act.put, List.setIfInBounds_toArray, List.set_cons_zero, List.set_cons_succ, i64_w, i32_w]
    rfl
  refine done_ (done_of HT_.out (by as_aux_lemma => kernel_rfl)) ?_
  have hb := hHeld.2.2.2.1.out
  have hU := hHeld.2.2.2.2.out
  obtain ⟨⟨q0, q1, q2, q3⟩, p0, p1, p2, p3⟩ := cells4 hb
  clear hHeld
  generalize World.drew w = wd at *
  have HS := Aside0.mk (fun (W : World) (hW : W = (wd.setCell ⟨g, 2, none⟩ (.bool true)).setCell ⟨g, 1, none⟩ (.int .i64 xs.length)) => (by
    subst hW
    exact ⟨h1, Nat.le_refl _, hx, A, c, blk_put (blk_put hb 2 _ rfl) 1 _ rfl, h3, H4.out.on ((hU.trans ((Upd.set _ _ _ _).trans (Upd.set _ _ _ _))).kept.mono (fun k hk => .inr (by omega)))⟩ : RAt hi W g xs xs.length true e))
  have HU := Aside0.mk (hU.trans ((Upd.set wd g 2 (.bool true)).trans (Upd.set _ g 1 (.int .i64 xs.length))))
  clear hb hU
  go_wp2_with (go_at_call 26; refine (FIN.out _ ?hw).mono ?_; (case hw => exact HS.out _ rfl); rintro en w2 ⟨rfl, b1, b2⟩; have N1 := Aside0.mk b1; have N2 := Aside0.mk b2; clear b1 b2)
  go_ret
  exact ⟨rfl, N1.out, HU.out.trans N2.out⟩
theorem bytes_neg (hi g : Nat) (xs : List Int) (n : Nat) (e m : Int) (w : World) (h : RAt hi w g xs n false e) (hm : m < 0) :
    Calls Try.prog 31 #[.pointer (some ⟨g, 0, none⟩), .int .i64 m] w fun en w' => en = .returned (.slice none 0 0) ∧ RAt hi w' g xs xs.length true (fstE e 2) ∧ Upd g w w' := by
  obtain ⟨h1, hn, hx, A, c, h2, h3, h4⟩ := h
  obtain ⟨⟨k0, k1, k2, k3⟩, f0, f1, f2, f3⟩ := cells4 h2
  have H2 := Aside0.mk h2
  have H4 := Aside0.mk h4
  clear h2 h4
  have hu1 := Try.underlying56
  have d1 : decide (m < 0) = true := decide_eq_true hm
  have c1 : wrap64 ((xs.length : Int) - (n : Int)) = (xs.length : Int) - (n : Int) := wrap64_id (by omega) (by omega)
  have FIN := Aside0.mk (fun (W : World) (hW : RAt hi W g xs xs.length true e) => need_any hi g xs xs.length true e W hW 2)
  go_enter Try.func31, Try.ntmps31
  go_wp2
  refine start_ (n := 22) (S := fun w' => w'.cell? ⟨g, 0, none⟩ = some (.slice A xs.length c) ∧ w'.cell? ⟨g, 1, none⟩ = some (.int .i64 n) ∧ w'.cell? ⟨g, 2, none⟩ = some (.bool false) ∧ Aside0 (w'.heap[g]? = some (.cells #[.slice A xs.length c, .int .i64 n, .bool false, .int .i64 e] 56 (0, 0))) ∧ Aside0 (Upd g w w')) (ds := []) (bm 22 0) (by as_aux_lemma => kernel_rfl) rfl (by as_aux_lemma => kernel_rfl) ⟨k0, k1, k2, (Aside0.mk H2.out), (Aside0.mk ⟨rfl, rfl, rfl, (Kept.refl _ _).drew⟩)⟩ (fun hHeld => ?_)
  refine with_tabW rbytes.tab1 rbytes.bits1 (fun HT_ HW_ => ?_)
  refine pure_ (i := 0) (N := some 5) (v := ?_) (a' := ?_) (bm 22 1) rfl rfl (any_of HT_.out (by as_aux_lemma => kernel_rfl)) (fun _ _ _ h => h) (Or.inl ⟨by rfl, ?_⟩) ?_ ?_
  rotate_left
  · intro w'
    go_simp
    with_reducible rfl
  rotate_left
  · simp only [Act.put, List.setIfInBounds_toArray, List.set_cons_zero, List.set_cons_succ, i64_w, i32_w]
    rfl
  refine pure_ (i := 1) (N := some 6) (v := ?_) (a' := ?_) (bm 22 3) rfl rfl (any_of HT_.out (by as_aux_lemma => kernel_rfl)) (fun _ _ _ h => h) (Or.inl ⟨by rfl, ?_⟩) ?_ ?_
  rotate_left
  · intro w'
    go_simp
    with_reducible rfl
  rotate_left
  · simp only [Act.put, List.setIfInBounds_toArray, List.set_cons_zero, List.set_cons_succ, i64_w, i32_w]
    rfl
  refine pure_ (i := 2) (N := some 7) (v := ?_) (a' := ?_) (bm 22 7) rfl rfl (any_of HT_.out (by as_aux_lemma => kernel_rfl)) (fun _ _ _ h => h) (Or.inl ⟨by rfl, ?_⟩) ?_ ?_
  rotate_left
  · intro w'
    go_simp
    with_reducible rfl
  rotate_left
  · simp only [Act.put, List.setIfInBounds_toArray, List.set_cons_zero, List.set_cons_succ, i64_w, i32_w]
    rfl
  refine take_ (i := 3) (N := some 8) (v := ?_) (a' := ?_) (bm 22 15) rfl rfl (take_ofW HT_.out HW_.out (by as_aux_lemma => kernel_rfl)) (fun _ _ _ h => h) (Or.inl ⟨by rfl, ?_⟩) hHeld ?_ ?_
  rotate_left
  · rintro w' ⟨s0, s1, s2, s3, s4⟩
    go_simp
    with_reducible rfl
  rotate_left
  · simp only [Act.put, List.setIfInBounds_toArray, List.set_cons_zero, List.set_cons_succ, i64_w, i32_w]
    rfl
  refine pure_ (i := 4) (N := some 9) (v := ?_) (a' := ?_) (bm 22 31) rfl rfl (any_of HT_.out (by as_aux_lemma => kernel_rfl)) (fun _ _ _ h => h) (Or.inl ⟨by rfl, ?_⟩) ?_ ?_
  rotate_left
  · intro w'
    go_simp
    with_reducible rfl
  rotate_left
  · simp only [Act.put, List.setIfInBounds_toArray, List.set_cons_zero, List.set_cons_succ, i64_w, i32_w]
    rfl
  refine pure_ (i := 5) (N := some 10) (v := ?_) (a' := ?_) (bm 22 63) rfl rfl (any_of HT_.out (by as_aux_lemma => kernel_rfl)) (fun _ _ _ h => h) (Or.inl ⟨by rfl, ?_⟩) ?_ ?_
  rotate_left
  · intro w'
    go_simp
    with_reducible rfl
  rotate_left
  · simp only [Act.put, List.setIfInBounds_toArray, List.set_cons_zero, List.set_cons_succ, i64_w, i32_w]
    rfl
  refine pure_ (i := 6) (N := some 11) (v := ?_) (a' := ?_) (bm 22 127) rfl rfl (any_of HT_.out (by as_aux_lemma => kernel_rfl)) (fun _ _ _ h => h) (Or.inl ⟨by rfl, ?_⟩) ?_ ?_
  rotate_left
  · intro w'
    go_simp
    with_reducible rfl
  rotate_left
  · simp only [Act.put, List.setIfInBounds_toArray, List.set_cons_zero, List.set_cons_succ, i64_w, i32_w]
    rfl
  refine pure_ (i := 7) (N := some 12) (v := ?_) (a' := ?_) (bm 22 255) rfl rfl (any_of HT_.out (by as_aux_lemma => kernel_rfl)) (fun _ _ _ h => h) (Or.inl ⟨by rfl, ?_⟩) ?_ ?_
  rotate_left
  · intro w'
    go_simp
    with_reducible rfl
  rotate_left
  · simp only [Act.put, List.setIfInBounds_toArray, List.set_cons_zero, List.set_cons_succ, i64_w, i32_w]
    rfl
  refine pure_ (i := 8) (N := some 13) (v := ?_) (a' := ?_) (bm 22 511) rfl rfl (any_of HT_.out (by as_aux_lemma => kernel_rfl)) (fun _ _ _ h => h) (Or.inl ⟨by rfl, ?_⟩) ?_ ?_
  rotate_left
  · intro w'
    go_simp
    with_reducible rfl
  rotate_left
  · simp only [Act.put, List.setIfInBounds_toArray, List.set_cons_zero, List.set_cons_succ, i64_w, i32_w]
    rfl
  refine pure_ (i := 9) (N := some 14) (v := undef) (a' := ?_) (bm 22 1023) rfl rfl (any_of HT_.out (by as_aux_lemma => kernel_rfl)) (fun _ _ _ h => h) (Or.inr ⟨by rfl, rfl⟩) ?_ ?_
  rotate_left
  · simp only [Act.put, List.setIfInBounds_toArray, List.set_cons_zero, List.set_cons_succ, i64_w, i32_w]
    rfl
  refine pure_ (i := 10) (N := some 15) (v := undef) (a' := ?_) (bm 22 2047) rfl rfl (any_of HT_.out (by as_aux_lemma => kernel_rfl)) (fun _ _ _ h => h) (Or.inr ⟨by rfl, rfl⟩) ?_ ?_
  rotate_left
  · simp only [Act.put, List.setIfInBounds_toArray, List.set_cons_zero, List.set_cons_succ, i64_w, i32_w]
    rfl
  refine pure_ (i := 11) (N := some 16) (v := undef) (a' := ?_) (bm 22 4095) rfl rfl (any_of HT_.out (by as_aux_lemma => kernel_rfl)) (fun _ _ _ h => h) (Or.inr ⟨by rfl, rfl⟩) ?_ ?_
  rotate_left
  · simp only [Act.put, List.setIfInBounds_toArray, List.set_cons_zero, List.set_cons_succ, i64_w, i32_w]
    rfl
  refine pure_ (i := 12) (N := some 17) (v := undef) (a' := ?_) (bm 22 8191) rfl rfl (any_of HT_.out (by as_aux_lemma => kernel_rfl)) (fun _ _ _ h => h) (Or.inr ⟨by rfl, rfl⟩) ?_ ?_
  rotate_left
  · simp only [Act.put, List.setIfInBounds_toArray, List.set_cons_zero, List.set_cons_succ, i64_w, i32_w]
    rfl
  refine pure_ (i := 13) (N := some 18) (v := undef) (a' := ?_) (bm 22 16383) rfl rfl (any_of HT_.out (by as_aux_lemma => kernel_rfl)) (fun _ _ _ h => h) (Or.inr ⟨by rfl, rfl⟩) ?_ ?_
  rotate_left
  · simp only [Act.put, List.setIfInBounds_toArray, List.set_cons_zero, List.set_cons_succ, i64_w, i32_w]
    rfl
  refine pure_ (i := 14) (N := some 19) (v := undef) (a' := ?_) (bm 22 32767) rfl rfl (any_of HT_.out (by as_aux_lemma => kernel_rfl)) (fun _ _ _ h => h) (Or.inr ⟨by rfl, rfl⟩) ?_ ?_
  rotate_left
  · simp only [Act.put, List.setIfInBounds_toArray, List.set_cons_zero, List.set_cons_succ, i64_w, i32_w]
    rfl
  refine pure_ (i := 15) (N := some 20) (v := undef) (a' := ?_) (bm 22 65535) rfl rfl (any_of HT_.out (by as_aux_lemma => kernel_rfl)) (fun _ _ _ h => h) (Or.inr ⟨by rfl, rfl⟩) ?_ ?_
  rotate_left
  · simp only [Act.put, List.setIfInBounds_toArray, List.set_cons_zero, List.set_cons_succ, i64_w, i32_w]
    rfl
  refine pure_ (i := 16) (N := some 21) (v := undef) (a' := ?_) (bm 22 131071) rfl rfl (any_of HT_.out (by as_aux_lemma => kernel_rfl)) (fun _ _ _ h => h) (Or.inr ⟨by rfl, rfl⟩) ?_ ?_
  rotate_left
  · simp only [Act.put, List.setIfInBounds_toArray, List.set_cons_zero, List.set_cons_succ, i64_w, i32_w]
    rfl
  refine pure_ (i := 17) (N := some 22) (v := undef) (a' := ?_) (bm 22 262143) rfl rfl (any_of HT_.out (by as_aux_lemma => kernel_rfl)) (fun _ _ _ h => h) (Or.inr ⟨by rfl, rfl⟩) ?_ ?_
  rotate_left
  · simp only [Act.put, List.setIfInBounds_toArray, List.set_cons_zero, List.set_cons_succ, i64_w, i32_w]
    rfl
  refine pure_ (i := 18) (N := some 23) (v := undef) (a' := ?_) (bm 22 524287) rfl rfl (any_of HT_.out (by as_aux_lemma => kernel_rfl)) (fun _ _ _ h => h) (Or.inr ⟨by rfl, rfl⟩) ?_ ?_
  rotate_left
  · simp only [Act.put, List.setIfInBounds_toArray, List.set_cons_zero, List.set_cons_succ, i64_w, i32_w]
    rfl
  refine pure_ (i := 19) (N := some 24) (v := undef) (a' := ?_) (bm 22 1048575) rfl rfl (any_of HT_.out (by as_aux_lemma => kernel_rfl)) (fun _ _ _ h => h) (Or.inr ⟨by rfl, rfl⟩) ?_ ?_
  rotate_left
  · simp only [Act.put, List.setIfInBounds_toArray, List.set_cons_zero, List.set_cons_succ, i64_w, i32_w]
    rfl
  refine pure_ (i := 20) (N := some 25) (v := undef) (a' := ?_) (bm 22 2097151) rfl rfl (any_of HT_.out (by as_aux_lemma => kernel_rfl)) (fun _ _ _ h => h) (Or.inr ⟨by rfl, rfl⟩) ?_ ?_
  rotate_left
  · simp only [Act.put, List.setIfInBounds_toArray, List.set_cons_zero, List.set_cons_succ, i64_w, i32_w]
    rfl
  refine pure_ (i := 21) (N := some 26) (v := ?_) (a' := ?_) (bm 22 4194303) rfl rfl (any_of HT_.out (by as_aux_lemma => kernel_rfl)) (fun _ _ _ h => h) (Or.inl ⟨by rfl, ?_⟩) ?_ ?_
  rotate_left
  · intro w'
    go_simp
    with_reducible rfl
  rotate_left
  · simp only [Act.put, List.setIfInBounds_toArray, List.set_cons_zero, List.set_cons_succ, i64_w, i32_w]
    rfl
  refine done_ (done_of HT_.out (by as_aux_lemma => kernel_rfl)) ?_
  have hb := hHeld.2.2.2.1.out
  have hU := hHeld.2.2.2.2.out
  obtain ⟨⟨q0, q1, q2, q3⟩, p0, p1, p2, p3⟩ := cells4 hb
  clear hHeld
  generalize World.drew w = wd at *
  have HS := Aside0.mk (fun (W : World) (hW : W = (wd.setCell ⟨g, 2, none⟩ (.bool true)).setCell ⟨g, 1, none⟩ (.int .i64 xs.length)) => (by
    subst hW
    exact ⟨h1, Nat.le_refl _, hx, A, c, blk_put (blk_put hb 2 _ rfl) 1 _ rfl, h3, H4.out.on ((hU.trans ((Upd.set _ _ _ _).trans (Upd.set _ _ _ _))).kept.mono (fun k hk => .inr (by omega)))⟩ : RAt hi W g xs xs.length true e))
  have HU := Aside0.mk (hU.trans ((Upd.set wd g 2 (.bool true)).trans (Upd.set _ g 1 (.int .i64 xs.length))))
  clear hb hU
  go_wp2_with (go_at_call 26; refine (FIN.out _ ?hw).mono ?_; (case hw => exact HS.out _ rfl); rintro en w2 ⟨rfl, b1, b2⟩; have N1 := Aside0.mk b1; have N2 := Aside0.mk b2; clear b1 b2)
  go_ret
  exact ⟨rfl, N1.out, HU.out.trans N2.out⟩
theorem bytes_over (hi g : Nat) (xs : List Int) (n : Nat) (e m : Int) (w : World) (h : RAt hi w g xs n false e) (hm : ¬ m < 0) (ho : (xs.length : Int) - n < m) :
    Calls Try.prog 31 #[.pointer (some ⟨g, 0, none⟩), .int .i64 m] w fun en w' => en = .returned (.slice none 0 0) ∧ RAt hi w' g xs xs.length true (fstE e 2) ∧ Upd g w w' := by
  obtain ⟨h1, hn, hx, A, c, h2, h3, h4⟩ := h
  obtain ⟨⟨k0, k1, k2, k3⟩, f0, f1, f2, f3⟩ := cells4 h2
  have H2 := Aside0.mk h2
  have H4 := Aside0.mk h4
  clear h2 h4
  have hu1 := Try.underlying56
  have d1 : decide (m < 0) = false := decide_eq_false hm
  have d2 : decide (m > (xs.length : Int) - (n : Int)) = true := decide_eq_true ho
  have d3 : decide ((xs.length : Int) - (n : Int) < m) = true := decide_eq_true ho
  have c1 : wrap64 ((xs.length : Int) - (n : Int)) = (xs.length : Int) - (n : Int) := wrap64_id (by omega) (by omega)
  have FIN := Aside0.mk (fun (W : World) (hW : RAt hi W g xs xs.length true e) => need_any hi g xs xs.length true e W hW 2)
  go_enter Try.func31, Try.ntmps31
  go_wp2
  refine start_ (n := 22) (S := fun w' => w'.cell? ⟨g, 0, none⟩ = some (.slice A xs.length c) ∧ w'.cell? ⟨g, 1, none⟩ = some (.int .i64 n) ∧ w'.cell? ⟨g, 2, none⟩ = some (.bool false) ∧ Aside0 (w'.heap[g]? = some (.cells #[.slice A xs.length c, .int .i64 n, .bool false, .int .i64 e] 56 (0, 0))) ∧ Aside0 (Upd g w w')) (ds := []) (bm 22 0) (by as_aux_lemma => kernel_rfl) rfl (by as_aux_lemma => kernel_rfl) ⟨k0, k1, k2, (Aside0.mk H2.out), (Aside0.mk ⟨rfl, rfl, rfl, (Kept.refl _ _).drew⟩)⟩ (fun hHeld => ?_)
  refine with_tabW rbytes.tab1 rbytes.bits1 (fun HT_ HW_ => ?_)
  refine pure_ (i := 0) (N := some 5) (v := ?_) (a' := ?_) (bm 22 1) rfl rfl (any_of HT_.out (by as_aux_lemma => kernel_rfl)) (fun _ _ _ h => h) (Or.inl ⟨by rfl, ?_⟩) ?_ ?_
  rotate_left
  · intro w'
    go_simp
    with_reducible rfl
  rotate_left
  · simp only [Act.put, List.setIfInBounds_toArray, List.set_cons_zero, List.set_cons_succ, i64_w, i32_w]
    rfl
  refine pure_ (i := 1) (N := some 6) (v := ?_) (a' := ?_) (bm 22 3) rfl rfl (any_of HT_.out (by as_aux_lemma => kernel_rfl)) (fun _ _ _ h => h) (Or.inl ⟨by rfl, ?_⟩) ?_ ?_
  rotate_left
  · intro w'
    go_simp
    with_reducible rfl
  rotate_left
  · simp only [Act.put, List.setIfInBounds_toArray, List.set_cons_zero, List.set_cons_succ, i64_w, i32_w]
    rfl
  refine pure_ (i := 2) (N := some 7) (v := ?_) (a' := ?_) (bm 22 7) rfl rfl (any_of HT_.out (by as_aux_lemma => kernel_rfl)) (fun _ _ _ h => h) (Or.inl ⟨by rfl, ?_⟩) ?_ ?_
  rotate_left
  · intro w'
    go_simp
    with_reducible rfl
  rotate_left
  · simp only [Act.put, List.setIfInBounds_toArray, List.set_cons_zero, List.set_cons_succ, i64_w, i32_w]
    rfl
  refine take_ (i := 3) (N := some 8) (v := ?_) (a' := ?_) (bm 22 15) rfl rfl (take_ofW HT_.out HW_.out (by as_aux_lemma => kernel_rfl)) (fun _ _ _ h => h) (Or.inl ⟨by rfl, ?_⟩) hHeld ?_ ?_
  rotate_left
  · rintro w' ⟨s0, s1, s2, s3, s4⟩
    go_simp
    with_reducible rfl
  rotate_left
  · simp only [Act.put, List.setIfInBounds_toArray, List.set_cons_zero, List.set_cons_succ, i64_w, i32_w]
    rfl
  refine pure_ (i := 4) (N := some 9) (v := ?_) (a' := ?_) (bm 22 31) rfl rfl (any_of HT_.out (by as_aux_lemma => kernel_rfl)) (fun _ _ _ h => h) (Or.inl ⟨by rfl, ?_⟩) ?_ ?_
  rotate_left
  · intro w'
    go_simp
    with_reducible rfl
  rotate_left
  · simp only [Act.put, List.setIfInBounds_toArray, List.set_cons_zero, List.set_cons_succ, i64_w, i32_w]
    rfl
  refine pure_ (i := 5) (N := some 10) (v := ?_) (a' := ?_) (bm 22 63) rfl rfl (any_of HT_.out (by as_aux_lemma => kernel_rfl)) (fun _ _ _ h => h) (Or.inl ⟨by rfl, ?_⟩) ?_ ?_
  rotate_left
  · intro w'
    go_simp
    with_reducible rfl
  rotate_left
  · simp only [Act.put, List.setIfInBounds_toArray, List.set_cons_zero, List.set_cons_succ, i64_w, i32_w]
    rfl
  refine pure_ (i := 6) (N := some 11) (v := ?_) (a' := ?_) (bm 22 127) rfl rfl (any_of HT_.out (by as_aux_lemma => kernel_rfl)) (fun _ _ _ h => h) (Or.inl ⟨by rfl, ?_⟩) ?_ ?_
  rotate_left
  · intro w'
    go_simp
    with_reducible rfl
  rotate_left
  · simp only [Act.put, List.setIfInBounds_toArray, List.set_cons_zero, List.set_cons_succ, i64_w, i32_w]
    rfl
  refine pure_ (i := 7) (N := some 12) (v := ?_) (a' := ?_) (bm 22 255) rfl rfl (any_of HT_.out (by as_aux_lemma => kernel_rfl)) (fun _ _ _ h => h) (Or.inl ⟨by rfl, ?_⟩) ?_ ?_
  rotate_left
  · intro w'
    go_simp
    with_reducible rfl
  rotate_left
  · simp only [Act.put, List.setIfInBounds_toArray, List.set_cons_zero, List.set_cons_succ, i64_w, i32_w]
    rfl
  refine pure_ (i := 8) (N := some 13) (v := ?_) (a' := ?_) (bm 22 511) rfl rfl (any_of HT_.out (by as_aux_lemma => kernel_rfl)) (fun _ _ _ h => h) (Or.inl ⟨by rfl, ?_⟩) ?_ ?_
  rotate_left
  · intro w'
    go_simp
    with_reducible rfl
  rotate_left
  · simp only [Act.put, List.setIfInBounds_toArray, List.set_cons_zero, List.set_cons_succ, i64_w, i32_w]
    rfl
  refine pure_ (i := 9) (N := some 14) (v := ?_) (a' := ?_) (bm 22 1023) rfl rfl (any_of HT_.out (by as_aux_lemma => kernel_rfl)) (fun _ _ _ h => h) (Or.inl ⟨by rfl, ?_⟩) ?_ ?_
  rotate_left
  · intro w'
    go_simp
    with_reducible rfl
  rotate_left
  · simp only [Act.put, List.setIfInBounds_toArray, List.set_cons_zero, List.set_cons_succ, i64_w, i32_w]
    rfl
  refine pure_ (i := 10) (N := some 15) (v := ?_) (a' := ?_) (bm 22 2047) rfl rfl (any_of HT_.out (by as_aux_lemma => kernel_rfl)) (fun _ _ _ h => h) (Or.inl ⟨by rfl, ?_⟩) ?_ ?_
  rotate_left
  · intro w'
    go_simp
    with_reducible rfl
  rotate_left
  · simp only [Act.put, List.setIfInBounds_toArray, List.set_cons_zero, List.set_cons_succ, i64_w, i32_w]
    rfl
  refine pure_ (i := 11) (N := some 16) (v := ?_) (a' := ?_) (bm 22 4095) rfl rfl (any_of HT_.out (by as_aux_lemma => kernel_rfl)) (fun _ _ _ h => h) (Or.inl ⟨by rfl, ?_⟩) ?_ ?_
  rotate_left
  · intro w'
    go_simp
    with_reducible rfl
  rotate_left
  · simp only [Act.put, List.setIfInBounds_toArray, List.set_cons_zero, List.set_cons_succ, i64_w, i32_w]
    rfl
  refine pure_ (i := 12) (N := some 17) (v := ?_) (a' := ?_) (bm 22 8191) rfl rfl (any_of HT_.out (by as_aux_lemma => kernel_rfl)) (fun _ _ _ h => h) (Or.inl ⟨by rfl, ?_⟩) ?_ ?_
  rotate_left
  · intro w'
    go_simp
    with_reducible rfl
  rotate_left
  · simp only [Act.put, List.setIfInBounds_toArray, List.set_cons_zero, List.set_cons_succ, i64_w, i32_w]
    rfl
  refine pure_ (i := 15) (N := some 20) (v := ?_) (a' := ?_) (bm 22 40959) rfl rfl (any_of HT_.out (by as_aux_lemma => kernel_rfl)) (fun _ _ _ h => h) (Or.inl ⟨by rfl, ?_⟩) ?_ ?_
  rotate_left
  · intro w'
    go_simp
    with_reducible rfl
  rotate_left
  · simp only [Act.put, List.setIfInBounds_toArray, List.set_cons_zero, List.set_cons_succ, i64_w, i32_w]
    rfl
  refine pure_ (i := 16) (N := some 21) (v := ?_) (a' := ?_) (bm 22 106495) rfl rfl (any_of HT_.out (by as_aux_lemma => kernel_rfl)) (fun _ _ _ h => h) (Or.inl ⟨by rfl, ?_⟩) ?_ ?_
  rotate_left
  · intro w'
    go_simp
    with_reducible rfl
  rotate_left
  · simp only [Act.put, List.setIfInBounds_toArray, List.set_cons_zero, List.set_cons_succ, i64_w, i32_w]
    rfl
  refine pure_ (i := 17) (N := some 22) (v := ?_) (a' := ?_) (bm 22 237567) rfl rfl (any_of HT_.out (by as_aux_lemma => kernel_rfl)) (fun _ _ _ h => h) (Or.inl ⟨by rfl, ?_⟩) ?_ ?_
  rotate_left
  · intro w'
    go_simp
    with_reducible rfl
  rotate_left
  · simp only [Act.put, List.setIfInBounds_toArray, List.set_cons_zero, List.set_cons_succ, i64_w, i32_w]
    rfl
  refine take_ (i := 13) (N := some 18) (v := ?_) (a' := ?_) (bm 22 245759) rfl rfl (take_ofW HT_.out HW_.out (by as_aux_lemma => kernel_rfl)) (fun _ _ _ h => h) (Or.inl ⟨by rfl, ?_⟩) hHeld ?_ ?_
  rotate_left
  · rintro w' ⟨s0, s1, s2, s3, s4⟩
    go_simp
    with_reducible rfl
  rotate_left
  · simp only [Act.put, List.setIfInBounds_toArray, List.set_cons_zero, List.set_cons_succ, i64_w, i32_w]
    rfl
  refine pure_ (i := 14) (N := some 19) (v := ?_) (a' := ?_) (bm 22 262143) rfl rfl (any_of HT_.out (by as_aux_lemma => kernel_rfl)) (fun _ _ _ h => h) (Or.inl ⟨by rfl, ?_⟩) ?_ ?_
  rotate_left
  · intro w'
    go_simp
    with_reducible rfl
  rotate_left
  · simp only [Act.put, List.setIfInBounds_toArray, List.set_cons_zero, List.set_cons_succ, i64_w, i32_w]
    rfl
  refine take_ (i := 18) (N := some 23) (v := ?_) (a' := ?_) (bm 22 524287) rfl rfl (take_ofW HT_.out HW_.out (by as_aux_lemma => kernel_rfl)) (fun _ _ _ h => h) (Or.inl ⟨by rfl, ?_⟩) hHeld ?_ ?_
  rotate_left
  · rintro w' ⟨s0, s1, s2, s3, s4⟩
    go_simp
    with_reducible rfl
  rotate_left
  · simp only [Act.put, List.setIfInBounds_toArray, List.set_cons_zero, List.set_cons_succ, i64_w, i32_w]
    rfl
  refine pure_ (i := 19) (N := some 24) (v := ?_) (a' := ?_) (bm 22 1048575) rfl rfl (any_of HT_.out (by as_aux_lemma => kernel_rfl)) (fun _ _ _ h => h) (Or.inl ⟨by rfl, ?_⟩) ?_ ?_
  rotate_left
  · intro w'
    go_simp
    with_reducible rfl
  rotate_left
  · simp only [Act.put, List.setIfInBounds_toArray, List.set_cons_zero, List.set_cons_succ, i64_w, i32_w]
    rfl
  refine pure_ (i := 20) (N := some 25) (v := ?_) (a' := ?_) (bm 22 2097151) rfl rfl (any_of HT_.out (by as_aux_lemma => kernel_rfl)) (fun _ _ _ h => h) (Or.inl ⟨by rfl, ?_⟩) ?_ ?_
  rotate_left
  · intro w'
    go_simp
    with_reducible rfl
  rotate_left
  · simp only [Act.put, List.setIfInBounds_toArray, List.set_cons_zero, List.set_cons_succ, i64_w, i32_w]
    rfl
  refine pure_ (i := 21) (N := some 26) (v := ?_) (a' := ?_) (bm 22 4194303) rfl rfl (any_of HT_.out (by as_aux_lemma => kernel_rfl)) (fun _ _ _ h => h) (Or.inl ⟨by rfl, ?_⟩) ?_ ?_
  rotate_left
  · intro w'
    go_simp
    with_reducible rfl
  rotate_left
  · simp only [Act.put, List.setIfInBounds_toArray, List.set_cons_zero, List.set_cons_succ, i64_w, i32_w]
    rfl
  refine done_ (done_of HT_.out (by as_aux_lemma => kernel_rfl)) ?_
  have hb := hHeld.2.2.2.1.out
  have hU := hHeld.2.2.2.2.out
  obtain ⟨⟨q0, q1, q2, q3⟩, p0, p1, p2, p3⟩ := cells4 hb
  clear hHeld
  generalize World.drew w = wd at *
  have HS := Aside0.mk (fun (W : World) (hW : W = (wd.setCell ⟨g, 2, none⟩ (.bool true)).setCell ⟨g, 1, none⟩ (.int .i64 xs.length)) => (by
    subst hW
    exact ⟨h1, Nat.le_refl _, hx, A, c, blk_put (blk_put hb 2 _ rfl) 1 _ rfl, h3, H4.out.on ((hU.trans ((Upd.set _ _ _ _).trans (Upd.set _ _ _ _))).kept.mono (fun k hk => .inr (by omega)))⟩ : RAt hi W g xs xs.length true e))
  have HU := Aside0.mk (hU.trans ((Upd.set wd g 2 (.bool true)).trans (Upd.set _ g 1 (.int .i64 xs.length))))
  clear hb hU
  go_wp2_with (go_at_call 26; refine (FIN.out _ ?hw).mono ?_; (case hw => exact HS.out _ rfl); rintro en w2 ⟨rfl, b1, b2⟩; have N1 := Aside0.mk b1; have N2 := Aside0.mk b2; clear b1 b2)
  go_ret
  exact ⟨rfl, N1.out, HU.out.trans N2.out⟩
theorem bytes_ok (hi g : Nat) (xs : List Int) (n : Nat) (e : Int) (m : Nat) (w : World) (h : RAt hi w g xs n false e) (hm : m ≤ xs.length - n) :
    Calls Try.prog 31 #[.pointer (some ⟨g, 0, none⟩), .int .i64 m] w fun en w' => ∃ A' c', en = .returned (.slice A' ((xs.drop n).take m).length c') ∧ ((xs.drop n).take m).length ≤ c' ∧ Row 0 hi w' A' ((xs.drop n).take m) ∧ RAt hi w' g xs (n + m) false e ∧ Upd g w w' := by
  obtain ⟨h1, hn, hx, A, c, h2, h3, h4⟩ := h
  obtain ⟨⟨k0, k1, k2, k3⟩, f0, f1, f2, f3⟩ := cells4 h2
  have H2 := Aside0.mk h2
  have H4 := Aside0.mk h4
  clear h2 h4
  have hu1 := Try.underlying56
  have c1 : wrap64 ((xs.length : Int) - (n : Int)) = (xs.length : Int) - (n : Int) := wrap64_id (by omega) (by omega)
  have d1 : decide ((m : Int) < 0) = false := decide_eq_false (by omega)
  have d2 : decide ((m : Int) > (xs.length : Int) - (n : Int)) = false := decide_eq_false (by omega)
  have d3 : decide ((xs.length : Int) - (n : Int) < (m : Int)) = false := decide_eq_false (by omega)
  have c2 : wrap64 ((n : Int) + (m : Int)) = (n : Int) + (m : Int) := wrap64_id (by omega) (by omega)
  have c3 : wrap64 ((n : Int) + (m : Int) - (m : Int)) = (n : Int) := by rw [wrap64_id (by omega) (by omega)]; omega
  have c5 : wrap64 (n : Int) = (n : Int) := wrap64_id (by omega) (by omega)
  have c4 : (n : Int) + (m : Int) - (m : Int) = (n : Int) := by omega
  clear c3
  obtain ⟨i, hi1, hi2⟩ := u8_info
  have cut := cut_mid 22 5 .i64 .i64 Try.underlying22 hi1 1 hi2 A xs.length c (n : Int) ((n : Int) + (m : Int)) (by omega) (by omega) (by omega) h3
  have hl : ((xs.drop n).take m).length = m := by rw [List.length_take, List.length_drop]; omega
  have hZt : ((n : Int) + (m : Int)).toNat = n + m := by omega
  have hZm : n + m - n = m := by omega
  rw [hZt, Int.toNat_natCast, hZm] at cut
  obtain ⟨A2, hA2⟩ : ∃ A2, A2 = if c = n then A else A.map fun x => x.add (n * 1) := ⟨_, rfl⟩
  rw [← hA2] at cut
  have HR : ∀ W', Kept w W' (fun k => k < 0 ∨ hi ≤ k) → Kd.C (Kd.int .u8) W' A2 ((xs.drop n).take m).length ((xs.drop n).take m) := fun W' hk => Kd.C_take (by have := Kd.C_drop (H4.out W' hk) hn h3; rw [hA2]; exact this) (by rw [List.length_drop]; omega)
  have HRR := Aside0.mk HR
  have hcn : m ≤ c - n := by omega
  clear HR hA2 hi1 hZm hZt
  rw [hl]
  go_enter Try.func31, Try.ntmps31
  go_wp2
  refine start_ (n := 22) (S := fun w' => w'.cell? ⟨g, 0, none⟩ = some (.slice A xs.length c) ∧ w'.cell? ⟨g, 1, none⟩ = some (.int .i64 n) ∧ w'.cell? ⟨g, 2, none⟩ = some (.bool false) ∧ Aside0 (w'.heap[g]? = some (.cells #[.slice A xs.length c, .int .i64 n, .bool false, .int .i64 e] 56 (0, 0))) ∧ Aside0 (Upd g w w')) (ds := []) (bm 22 0) (by as_aux_lemma => kernel_rfl) rfl (by as_aux_lemma => kernel_rfl) ⟨k0, k1, k2, (Aside0.mk H2.out), (Aside0.mk ⟨rfl, rfl, rfl, (Kept.refl _ _).drew⟩)⟩ (fun hHeld => ?_)
  refine with_tabW rbytes.tab1 rbytes.bits1 (fun HT_ HW_ => ?_)
  refine pure_ (i := 0) (N := some 5) (v := ?_) (a' := ?_) (bm 22 1) rfl rfl (any_of HT_.out (by as_aux_lemma => kernel_rfl)) (fun _ _ _ h => h) (Or.inl ⟨by rfl, ?_⟩) ?_ ?_
  rotate_left
  · intro w'
    go_simp
    with_reducible rfl
  rotate_left
  · simp only [Act.put, List.setIfInBounds_toArray, List.set_cons_zero, List.set_cons_succ, i64_w, i32_w]
    rfl
  refine pure_ (i := 1) (N := some 6) (v := ?_) (a' := ?_) (bm 22 3) rfl rfl (any_of HT_.out (by as_aux_lemma => kernel_rfl)) (fun _ _ _ h => h) (Or.inl ⟨by rfl, ?_⟩) ?_ ?_
  rotate_left
  · intro w'
    go_simp
    with_reducible rfl
  rotate_left
  · simp only [Act.put, List.setIfInBounds_toArray, List.set_cons_zero, List.set_cons_succ, i64_w, i32_w]
    rfl
  refine pure_ (i := 2) (N := some 7) (v := ?_) (a' := ?_) (bm 22 7) rfl rfl (any_of HT_.out (by as_aux_lemma => kernel_rfl)) (fun _ _ _ h => h) (Or.inl ⟨by rfl, ?_⟩) ?_ ?_
  rotate_left
  · intro w'
    go_simp
    with_reducible rfl
  rotate_left
  · simp only [Act.put, List.setIfInBounds_toArray, List.set_cons_zero, List.set_cons_succ, i64_w, i32_w]
    rfl
  refine take_ (i := 3) (N := some 8) (v := ?_) (a' := ?_) (bm 22 15) rfl rfl (take_ofW HT_.out HW_.out (by as_aux_lemma => kernel_rfl)) (fun _ _ _ h => h) (Or.inl ⟨by rfl, ?_⟩) hHeld ?_ ?_
  rotate_left
  · rintro w' ⟨s0, s1, s2, s3, s4⟩
    go_simp
    with_reducible rfl
  rotate_left
  · simp only [Act.put, List.setIfInBounds_toArray, List.set_cons_zero, List.set_cons_succ, i64_w, i32_w]
    rfl
  refine pure_ (i := 4) (N := some 9) (v := ?_) (a' := ?_) (bm 22 31) rfl rfl (any_of HT_.out (by as_aux_lemma => kernel_rfl)) (fun _ _ _ h => h) (Or.inl ⟨by rfl, ?_⟩) ?_ ?_
  rotate_left
  · intro w'
    go_simp
    with_reducible rfl
  rotate_left
  · simp only [Act.put, List.setIfInBounds_toArray, List.set_cons_zero, List.set_cons_succ, i64_w, i32_w]
    rfl
  refine pure_ (i := 5) (N := some 10) (v := ?_) (a' := ?_) (bm 22 63) rfl rfl (any_of HT_.out (by as_aux_lemma => kernel_rfl)) (fun _ _ _ h => h) (Or.inl ⟨by rfl, ?_⟩) ?_ ?_
  rotate_left
  · intro w'
    go_simp
    with_reducible rfl
  rotate_left
  · simp only [Act.put, List.setIfInBounds_toArray, List.set_cons_zero, List.set_cons_succ, i64_w, i32_w]
    rfl
  refine pure_ (i := 6) (N := some 11) (v := ?_) (a' := ?_) (bm 22 127) rfl rfl (any_of HT_.out (by as_aux_lemma => kernel_rfl)) (fun _ _ _ h => h) (Or.inl ⟨by rfl, ?_⟩) ?_ ?_
  rotate_left
  · intro w'
    go_simp
    with_reducible rfl
  rotate_left
  · simp only [Act.put, List.setIfInBounds_toArray, List.set_cons_zero, List.set_cons_succ, i64_w, i32_w]
    rfl
  refine pure_ (i := 7) (N := some 12) (v := ?_) (a' := ?_) (bm 22 255) rfl rfl (any_of HT_.out (by as_aux_lemma => kernel_rfl)) (fun _ _ _ h => h) (Or.inl ⟨by rfl, ?_⟩) ?_ ?_
  rotate_left
  · intro w'
    go_simp
    with_reducible rfl
  rotate_left
  · simp only [Act.put, List.setIfInBounds_toArray, List.set_cons_zero, List.set_cons_succ, i64_w, i32_w]
    rfl
  refine pure_ (i := 8) (N := some 13) (v := ?_) (a' := ?_) (bm 22 511) rfl rfl (any_of HT_.out (by as_aux_lemma => kernel_rfl)) (fun _ _ _ h => h) (Or.inl ⟨by rfl, ?_⟩) ?_ ?_
  rotate_left
  · intro w'
    go_simp
    with_reducible rfl
  rotate_left
  · simp only [Act.put, List.setIfInBounds_toArray, List.set_cons_zero, List.set_cons_succ, i64_w, i32_w]
    rfl
  refine pure_ (i := 9) (N := some 14) (v := ?_) (a' := ?_) (bm 22 1023) rfl rfl (any_of HT_.out (by as_aux_lemma => kernel_rfl)) (fun _ _ _ h => h) (Or.inl ⟨by rfl, ?_⟩) ?_ ?_
  rotate_left
  · intro w'
    go_simp
    with_reducible rfl
  rotate_left
  · simp only [Act.put, List.setIfInBounds_toArray, List.set_cons_zero, List.set_cons_succ, i64_w, i32_w]
    rfl
  refine pure_ (i := 10) (N := some 15) (v := ?_) (a' := ?_) (bm 22 2047) rfl rfl (any_of HT_.out (by as_aux_lemma => kernel_rfl)) (fun _ _ _ h => h) (Or.inl ⟨by rfl, ?_⟩) ?_ ?_
  rotate_left
  · intro w'
    go_simp
    with_reducible rfl
  rotate_left
  · simp only [Act.put, List.setIfInBounds_toArray, List.set_cons_zero, List.set_cons_succ, i64_w, i32_w]
    rfl
  refine pure_ (i := 11) (N := some 16) (v := ?_) (a' := ?_) (bm 22 4095) rfl rfl (any_of HT_.out (by as_aux_lemma => kernel_rfl)) (fun _ _ _ h => h) (Or.inl ⟨by rfl, ?_⟩) ?_ ?_
  rotate_left
  · intro w'
    go_simp
    with_reducible rfl
  rotate_left
  · simp only [Act.put, List.setIfInBounds_toArray, List.set_cons_zero, List.set_cons_succ, i64_w, i32_w]
    rfl
  refine pure_ (i := 12) (N := some 17) (v := ?_) (a' := ?_) (bm 22 8191) rfl rfl (any_of HT_.out (by as_aux_lemma => kernel_rfl)) (fun _ _ _ h => h) (Or.inl ⟨by rfl, ?_⟩) ?_ ?_
  rotate_left
  · intro w'
    go_simp
    with_reducible rfl
  rotate_left
  · simp only [Act.put, List.setIfInBounds_toArray, List.set_cons_zero, List.set_cons_succ, i64_w, i32_w]
    rfl
  refine pure_ (i := 15) (N := some 20) (v := ?_) (a' := ?_) (bm 22 40959) rfl rfl (any_of HT_.out (by as_aux_lemma => kernel_rfl)) (fun _ _ _ h => h) (Or.inl ⟨by rfl, ?_⟩) ?_ ?_
  rotate_left
  · intro w'
    go_simp
    with_reducible rfl
  rotate_left
  · simp only [Act.put, List.setIfInBounds_toArray, List.set_cons_zero, List.set_cons_succ, i64_w, i32_w]
    rfl
  refine pure_ (i := 16) (N := some 21) (v := ?_) (a' := ?_) (bm 22 106495) rfl rfl (any_of HT_.out (by as_aux_lemma => kernel_rfl)) (fun _ _ _ h => h) (Or.inl ⟨by rfl, ?_⟩) ?_ ?_
  rotate_left
  · intro w'
    go_simp
    with_reducible rfl
  rotate_left
  · simp only [Act.put, List.setIfInBounds_toArray, List.set_cons_zero, List.set_cons_succ, i64_w, i32_w]
    rfl
  refine pure_ (i := 17) (N := some 22) (v := ?_) (a' := ?_) (bm 22 237567) rfl rfl (any_of HT_.out (by as_aux_lemma => kernel_rfl)) (fun _ _ _ h => h) (Or.inl ⟨by rfl, ?_⟩) ?_ ?_
  rotate_left
  · intro w'
    go_simp
    with_reducible rfl
  rotate_left
  · simp only [Act.put, List.setIfInBounds_toArray, List.set_cons_zero, List.set_cons_succ, i64_w, i32_w]
    rfl
  refine take_ (i := 13) (N := some 18) (v := ?_) (a' := ?_) (bm 22 245759) rfl rfl (take_ofW HT_.out HW_.out (by as_aux_lemma => kernel_rfl)) (fun _ _ _ h => h) (Or.inl ⟨by rfl, ?_⟩) hHeld ?_ ?_
  rotate_left
  · rintro w' ⟨s0, s1, s2, s3, s4⟩
    go_simp
    with_reducible rfl
  rotate_left
  · simp only [Act.put, List.setIfInBounds_toArray, List.set_cons_zero, List.set_cons_succ, i64_w, i32_w]
    rfl
  refine pure_ (i := 14) (N := some 19) (v := ?_) (a' := ?_) (bm 22 262143) rfl rfl (any_of HT_.out (by as_aux_lemma => kernel_rfl)) (fun _ _ _ h => h) (Or.inl ⟨by rfl, ?_⟩) ?_ ?_
  rotate_left
  · intro w'
    go_simp
    with_reducible rfl
  rotate_left
  · simp only [Act.put, List.setIfInBounds_toArray, List.set_cons_zero, List.set_cons_succ, i64_w, i32_w]
    rfl
  refine take_ (i := 18) (N := some 23) (v := ?_) (a' := ?_) (bm 22 524287) rfl rfl (take_ofW HT_.out HW_.out (by as_aux_lemma => kernel_rfl)) (fun _ _ _ h => h) (Or.inl ⟨by rfl, ?_⟩) hHeld ?_ ?_
  rotate_left
  · rintro w' ⟨s0, s1, s2, s3, s4⟩
    go_simp
    with_reducible rfl
  rotate_left
  · simp only [Act.put, List.setIfInBounds_toArray, List.set_cons_zero, List.set_cons_succ, i64_w, i32_w]
    rfl
  refine pure_ (i := 19) (N := some 24) (v := ?_) (a' := ?_) (bm 22 1048575) rfl rfl (any_of HT_.out (by as_aux_lemma => kernel_rfl)) (fun _ _ _ h => h) (Or.inl ⟨by rfl, ?_⟩) ?_ ?_
  rotate_left
  · intro w'
    go_simp
    with_reducible rfl
  rotate_left
  · simp only [Act.put, List.setIfInBounds_toArray, List.set_cons_zero, List.set_cons_succ, i64_w, i32_w]
    rfl
  refine pure_ (i := 20) (N := some 25) (v := ?_) (a' := ?_) (bm 22 2097151) rfl rfl (any_of HT_.out (by as_aux_lemma => kernel_rfl)) (fun _ _ _ h => h) (Or.inl ⟨by rfl, ?_⟩) ?_ ?_
  rotate_left
  · intro w'
    go_simp
    with_reducible rfl
  rotate_left
  · simp only [Act.put, List.setIfInBounds_toArray, List.set_cons_zero, List.set_cons_succ, i64_w, i32_w]
    rfl
  refine pure_ (i := 21) (N := some 26) (v := ?_) (a' := ?_) (bm 22 4194303) rfl rfl (any_of HT_.out (by as_aux_lemma => kernel_rfl)) (fun _ _ _ h => h) (Or.inl ⟨by rfl, ?_⟩) ?_ ?_
  rotate_left
  · intro w'
    go_simp
    with_reducible rfl
  rotate_left
  · simp only [Act.put, List.setIfInBounds_toArray, List.set_cons_zero, List.set_cons_succ, i64_w, i32_w]
    rfl
  refine done_ (done_of HT_.out (by as_aux_lemma => kernel_rfl)) ?_
  have hb := hHeld.2.2.2.1.out
  have hU := hHeld.2.2.2.2.out
  obtain ⟨⟨q0, q1, q2, q3⟩, p0, p1, p2, p3⟩ := cells4 hb
  clear hHeld
  clear hb hU
  go_wp2
  have hb2 : (w.setCell ⟨g, 1, none⟩ (.int .i64 ((n : Int) + (m : Int)))).heap[g]? = some (.cells #[.slice A xs.length c, .int .i64 ((n : Int) + (m : Int)), .bool false, .int .i64 e] 56 (0, 0)) := blk_put H2.out 1 _ rfl
  have hU2 := Upd.set w g 1 (.int .i64 ((n : Int) + (m : Int)))
  obtain ⟨⟨r0, r1, r2, r3⟩, _⟩ := cells4 hb2
  refine start_ (n := 16) (S := fun w' => w'.cell? ⟨g, 0, none⟩ = some (.slice A xs.length c) ∧ w'.cell? ⟨g, 1, none⟩ = some (.int .i64 ((n : Int) + (m : Int))) ∧ w'.cell? ⟨g, 2, none⟩ = some (.bool false) ∧ Aside0 (w'.heap[g]? = some (.cells #[.slice A xs.length c, .int .i64 ((n : Int) + (m : Int)), .bool false, .int .i64 e] 56 (0, 0))) ∧ Aside0 (Upd g w w')) (ds := []) (bm 16 0) (by as_aux_lemma => kernel_rfl) rfl (by as_aux_lemma => kernel_rfl) ⟨r0, r1, r2, (Aside0.mk hb2), (Aside0.mk ⟨hU2.os, hU2.tape, hU2.output, hU2.kept⟩)⟩ (fun hHeld => ?_)
  refine with_tabW rbytes.tab7 rbytes.bits7 (fun HT_ HW_ => ?_)
  refine pure_ (i := 0) (N := some 49) (v := ?_) (a' := ?_) (bm 16 1) rfl rfl (any_of HT_.out (by as_aux_lemma => kernel_rfl)) (fun _ _ _ h => h) (Or.inl ⟨by rfl, ?_⟩) ?_ ?_
  rotate_left
  · intro w'
    go_simp
    with_reducible rfl
  rotate_left
  · simp only [Act.put, List.setIfInBounds_toArray, List.set_cons_zero, List.set_cons_succ, i64_w, i32_w]
    rfl
  refine pure_ (i := 1) (N := some 50) (v := ?_) (a' := ?_) (bm 16 3) rfl rfl (any_of HT_.out (by as_aux_lemma => kernel_rfl)) (fun _ _ _ h => h) (Or.inl ⟨by rfl, ?_⟩) ?_ ?_
  rotate_left
  · intro w'
    go_simp
    with_reducible rfl
  rotate_left
  · simp only [Act.put, List.setIfInBounds_toArray, List.set_cons_zero, List.set_cons_succ, i64_w, i32_w]
    rfl
  refine pure_ (i := 2) (N := some 51) (v := ?_) (a' := ?_) (bm 16 7) rfl rfl (any_of HT_.out (by as_aux_lemma => kernel_rfl)) (fun _ _ _ h => h) (Or.inl ⟨by rfl, ?_⟩) ?_ ?_
  rotate_left
  · intro w'
    go_simp
    with_reducible rfl
  rotate_left
  · simp only [Act.put, List.setIfInBounds_toArray, List.set_cons_zero, List.set_cons_succ, i64_w, i32_w]
    rfl
  refine pure_ (i := 4) (N := some 53) (v := ?_) (a' := ?_) (bm 16 23) rfl rfl (any_of HT_.out (by as_aux_lemma => kernel_rfl)) (fun _ _ _ h => h) (Or.inl ⟨by rfl, ?_⟩) ?_ ?_
  rotate_left
  · intro w'
    go_simp
    with_reducible rfl
  rotate_left
  · simp only [Act.put, List.setIfInBounds_toArray, List.set_cons_zero, List.set_cons_succ, i64_w, i32_w]
    rfl
  refine pure_ (i := 5) (N := some 54) (v := ?_) (a' := ?_) (bm 16 55) rfl rfl (any_of HT_.out (by as_aux_lemma => kernel_rfl)) (fun _ _ _ h => h) (Or.inl ⟨by rfl, ?_⟩) ?_ ?_
  rotate_left
  · intro w'
    go_simp
    with_reducible rfl
  rotate_left
  · simp only [Act.put, List.setIfInBounds_toArray, List.set_cons_zero, List.set_cons_succ, i64_w, i32_w]
    rfl
  refine pure_ (i := 6) (N := some 55) (v := ?_) (a' := ?_) (bm 16 119) rfl rfl (any_of HT_.out (by as_aux_lemma => kernel_rfl)) (fun _ _ _ h => h) (Or.inl ⟨by rfl, ?_⟩) ?_ ?_
  rotate_left
  · intro w'
    go_simp
    with_reducible rfl
  rotate_left
  · simp only [Act.put, List.setIfInBounds_toArray, List.set_cons_zero, List.set_cons_succ, i64_w, i32_w]
    rfl
  refine pure_ (i := 8) (N := some 57) (v := ?_) (a' := ?_) (bm 16 375) rfl rfl (any_of HT_.out (by as_aux_lemma => kernel_rfl)) (fun _ _ _ h => h) (Or.inl ⟨by rfl, ?_⟩) ?_ ?_
  rotate_left
  · intro w'
    go_simp
    with_reducible rfl
  rotate_left
  · simp only [Act.put, List.setIfInBounds_toArray, List.set_cons_zero, List.set_cons_succ, i64_w, i32_w]
    rfl
  refine pure_ (i := 10) (N := some 59) (v := ?_) (a' := ?_) (bm 16 1399) rfl rfl (any_of HT_.out (by as_aux_lemma => kernel_rfl)) (fun _ _ _ h => h) (Or.inl ⟨by rfl, ?_⟩) ?_ ?_
  rotate_left
  · intro w'
    go_simp
    with_reducible rfl
  rotate_left
  · simp only [Act.put, List.setIfInBounds_toArray, List.set_cons_zero, List.set_cons_succ, i64_w, i32_w]
    rfl
  refine pure_ (i := 11) (N := some 60) (v := ?_) (a' := ?_) (bm 16 3447) rfl rfl (any_of HT_.out (by as_aux_lemma => kernel_rfl)) (fun _ _ _ h => h) (Or.inl ⟨by rfl, ?_⟩) ?_ ?_
  rotate_left
  · intro w'
    go_simp
    with_reducible rfl
  rotate_left
  · simp only [Act.put, List.setIfInBounds_toArray, List.set_cons_zero, List.set_cons_succ, i64_w, i32_w]
    rfl
  refine pure_ (i := 12) (N := some 61) (v := ?_) (a' := ?_) (bm 16 7543) rfl rfl (any_of HT_.out (by as_aux_lemma => kernel_rfl)) (fun _ _ _ h => h) (Or.inl ⟨by rfl, ?_⟩) ?_ ?_
  rotate_left
  · intro w'
    go_simp
    with_reducible rfl
  rotate_left
  · simp only [Act.put, List.setIfInBounds_toArray, List.set_cons_zero, List.set_cons_succ, i64_w, i32_w]
    rfl
  refine take_ (i := 3) (N := some 52) (v := ?_) (a' := ?_) (bm 16 7551) rfl rfl (take_ofW HT_.out HW_.out (by as_aux_lemma => kernel_rfl)) (fun _ _ _ h => h) (Or.inl ⟨by rfl, ?_⟩) hHeld ?_ ?_
  rotate_left
  · rintro w' ⟨s0, s1, s2, s3, s4⟩
    go_simp
    with_reducible rfl
  rotate_left
  · simp only [Act.put, List.setIfInBounds_toArray, List.set_cons_zero, List.set_cons_succ, i64_w, i32_w]
    rfl
  refine take_ (i := 7) (N := some 56) (v := ?_) (a' := ?_) (bm 16 7679) rfl rfl (take_ofW HT_.out HW_.out (by as_aux_lemma => kernel_rfl)) (fun _ _ _ h => h) (Or.inl ⟨by rfl, ?_⟩) hHeld ?_ ?_
  rotate_left
  · rintro w' ⟨s0, s1, s2, s3, s4⟩
    go_simp
    with_reducible rfl
  rotate_left
  · simp only [Act.put, List.setIfInBounds_toArray, List.set_cons_zero, List.set_cons_succ, i64_w, i32_w]
    rfl
  refine pure_ (i := 9) (N := some 58) (v := ?_) (a' := ?_) (bm 16 8191) rfl rfl (any_of HT_.out (by as_aux_lemma => kernel_rfl)) (fun _ _ _ h => h) (Or.inl ⟨by rfl, ?_⟩) ?_ ?_
  rotate_left
  · intro w'
    go_simp
    with_reducible rfl
  rotate_left
  · simp only [Act.put, List.setIfInBounds_toArray, List.set_cons_zero, List.set_cons_succ, i64_w, i32_w]
    rfl
  refine take_ (i := 13) (N := some 62) (v := ?_) (a' := ?_) (bm 16 16383) rfl rfl (take_ofW HT_.out HW_.out (by as_aux_lemma => kernel_rfl)) (fun _ _ _ h => h) (Or.inl ⟨by rfl, ?_⟩) hHeld ?_ ?_
  rotate_left
  · rintro w' ⟨s0, s1, s2, s3, s4⟩
    go_simp
    with_reducible rfl
  rotate_left
  · simp only [Act.put, List.setIfInBounds_toArray, List.set_cons_zero, List.set_cons_succ, i64_w, i32_w]
    rfl
  refine pure_ (i := 14) (N := some 63) (v := ?_) (a' := ?_) (bm 16 32767) rfl rfl (any_of HT_.out (by as_aux_lemma => kernel_rfl)) (fun _ _ _ h => h) (Or.inl ⟨by rfl, ?_⟩) ?_ ?_
  rotate_left
  · intro w'
    go_simp
    with_reducible rfl
  rotate_left
  · simp only [Act.put, List.setIfInBounds_toArray, List.set_cons_zero, List.set_cons_succ, i64_w, i32_w]
    rfl
  refine pure_ (i := 15) (N := some 4) (v := ?_) (a' := ?_) (bm 16 65535) rfl rfl (any_of HT_.out (by as_aux_lemma => kernel_rfl)) (fun _ _ _ h => h) (Or.inl ⟨by rfl, ?_⟩) ?_ ?_
  rotate_left
  · intro w'
    go_simp
    with_reducible rfl
  rotate_left
  · simp only [Act.put, List.setIfInBounds_toArray, List.set_cons_zero, List.set_cons_succ, i64_w, i32_w]
    rfl
  refine done_ (done_of HT_.out (by as_aux_lemma => kernel_rfl)) ?_
  go_wp2
  go_ret
  have hK := hHeld.2.2.2.2.out
  refine ⟨A2, c - n, rfl, hcn, fun W' hk => HRR.out W' ((hK.kept.mono (fun k hk => .inr (by omega))).then_ hk (fun _ h2 => .inl h2)), ⟨h1, by omega, hx, A, c, ?_, h3, H4.out.on (hK.kept.mono (fun k hk => .inr (by omega)))⟩, hK⟩
  rw [Int.natCast_add]
  exact hHeld.2.2.2.1.out
end Go.Proofs.Ytalaochocmcbcaa.RCur
end
section
namespace Go.Proofs.Ytalaochocmcbcaa.RCur
open Go.RowKit Go.Proofs.Ytalaochocmcbcaa.P Go.Proofs.Ytalaochocmcbcaa.E Go.Proofs.Ytalaochocmcbcaa.Cur Go.Proofs.YtalaochocmcbcaaW.PrintWords Go.Proofs.YtalaochocmcbcaaW.PrintLast Go.Proofs.YtalaochocmcbcaaW.PrintMore
theorem bytes_short (hi g : Nat) (xs : List Int) (n : Nat) (s : Bool) (e m : Int) (w : World) (h : RAt hi w g xs n s e) (hm : s = true ∨ m < 0 ∨ (xs.length : Int) - n < m) :
    Calls Try.prog 31 #[.pointer (some ⟨g, 0, none⟩), .int .i64 m] w fun en w' => en = .returned (.slice none 0 0) ∧ RAt hi w' g xs xs.length true (fstE e 2) ∧ Upd g w w' := by
  cases s with
  | true => exact bytes_s hi g xs n e m w h
  | false =>
    by_cases c1 : m < 0
    · exact bytes_neg hi g xs n e m w h c1
    · exact bytes_over hi g xs n e m w h c1 (by rcases hm with h | h | h; cases h; exact absurd h c1; exact h)
theorem byte_ok (hi g : Nat) (xs : List Int) (n : Nat) (e : Int) (w : World) (h : RAt hi w g xs n false e) (hn : n < xs.length) :
    Calls Try.prog 30 #[.pointer (some ⟨g, 0, none⟩)] w fun en w' => en = .returned (.int .u8 (xs.getD n 0)) ∧ RAt hi w' g xs (n + 1) false e ∧ Upd g w w' := by
  have hL : (xs.drop n).take 1 = [xs.getD n 0] := by rw [drop_cons hn 0]; rfl
  have hB := bytes_ok hi g xs n e 1 w h (by omega)
  rw [hL] at hB
  have HB := Aside0.mk hB
  clear h hB hL
  generalize xs.getD n 0 = x at HB ⊢
  go_enter Try.func30, Try.ntmps30
  go_wp2_with (go_at_call 31; refine HB.out.mono ?_; rintro en w1 ⟨A', c', rfl, b1, b2, b3, b4⟩; obtain ⟨ad, rfl, q0⟩ := at_row b2 0 (by simp); rw [Addr.add_zero'] at q0; have q1 : w1.cell? ad = some (.int .u8 x) := q0; have N3 := Aside0.mk b3; have N4 := Aside0.mk b4; clear b1 b2 b3 b4 HB q0)
  go_ret
  exact ⟨rfl, N3.out, N4.out⟩
theorem byte_short (hi g : Nat) (xs : List Int) (n : Nat) (s : Bool) (e : Int) (w : World) (h : RAt hi w g xs n s e) (hs : s = true ∨ xs.length ≤ n) :
    Calls Try.prog 30 #[.pointer (some ⟨g, 0, none⟩)] w fun en w' => en = .returned (.int .u8 0) ∧ RAt hi w' g xs xs.length true (fstE e 2) ∧ Upd g w w' := by
  have HB := Aside0.mk (bytes_short hi g xs n s e 1 w h (by rcases hs with h | h; exact .inl h; exact .inr (.inr (by omega))))
  clear h
  go_enter Try.func30, Try.ntmps30
  go_wp2_with (go_at_call 31; refine HB.out.mono ?_; rintro en w1 ⟨rfl, b3, b4⟩; have N3 := Aside0.mk b3; have N4 := Aside0.mk b4; clear b3 b4 HB)
  go_ret
  exact ⟨rfl, N3.out, N4.out⟩
end Go.Proofs.Ytalaochocmcbcaa.RCur
end
section
namespace Go.Proofs.Ytalaochocmcbcaa.Cu
open Go.RowKit Go.Proofs.Ytalaochocmcbcaa.E Go.Proofs.Ytalaochocmcbcaa.Cur Go.Proofs.Ytalaochocmcbcaa.RCur Go.Proofs.YtalaochocmcbcaaW.PrintWords Go.Proofs.YtalaochocmcbcaaW.PrintLast Go.Proofs.YtalaochocmcbcaaW.PrintMore
structure Cu where
  xs : List Int
  s : Bool
  e : Int
def Cu.good (c : Cu) : Prop := isBytes c.xs ∧ c.xs.length ≤ 1000000 ∧ (c.s = true → c.xs = [])
def Cu.fail (c : Cu) : Cu := ⟨[], true, fstE c.e 2⟩
def Cu.okB (c : Cu) (n : Int) : Bool := !c.s && decide (0 ≤ n) && decide (n ≤ (c.xs.length : Int))
def Cu.bytesV (c : Cu) (n : Int) : List Int := if c.okB n = true then c.xs.take n.toNat else []
def Cu.bytesS (c : Cu) (n : Int) : Cu := if c.okB n = true then ⟨c.xs.drop n.toNat, c.s, c.e⟩ else c.fail
def Cu.byteV (c : Cu) : Int := (c.bytesV 1).headD 0
def Cu.byteS (c : Cu) : Cu := c.bytesS 1
def Cu.need (c : Cu) (ok : Bool) (f : Int) : Cu := ⟨c.xs, c.s, if c.e = 0 ∧ ok = false then f else c.e⟩
def Cu.fin (c : Cu) : Cu := c.need (decide (c.xs = [])) 3
theorem Cu.good_fail (c : Cu) : c.fail.good := by
  refine ⟨?_, ?_, ?_⟩
  · intro x h; cases h
  · simp [Cu.fail]
  · intro _; rfl
theorem Cu.good_need {c : Cu} (h : c.good) (ok : Bool) (f : Int) : (c.need ok f).good := h
theorem Cu.okB_iff (c : Cu) (n : Int) : c.okB n = true ↔ c.s = false ∧ 0 ≤ n ∧ n ≤ (c.xs.length : Int) := by
  simp [Cu.okB, and_assoc]
theorem Cu.good_bytesS {c : Cu} (h : c.good) (n : Int) : (c.bytesS n).good := by
  unfold Cu.bytesS
  split
  · rename_i hk
    refine ⟨isBytes_drop h.1 _, by have := h.2.1; simp only [List.length_drop]; omega, fun hs => ?_⟩
    rw [((Cu.okB_iff c n).1 hk).1] at hs
    cases hs
  · exact Cu.good_fail c
theorem Cu.good_byteS {c : Cu} (h : c.good) : c.byteS.good := Cu.good_bytesS h 1
theorem Cu.bytes_bytesV {c : Cu} (h : c.good) (n : Int) : isBytes (c.bytesV n) := by
  unfold Cu.bytesV
  split
  · exact isBytes_take h.1 _
  · exact fun x h => by cases h
theorem Cu.byteV_bd {c : Cu} (h : c.good) : 0 ≤ c.byteV ∧ c.byteV < 256 := by
  have := Cu.bytes_bytesV h 1
  unfold Cu.byteV
  cases hv : c.bytesV 1 with
  | nil => simp
  | cons x l => rw [hv] at this; exact this x List.mem_cons_self
theorem Cu.not_okB {c : Cu} {n : Int} (h : ¬ c.okB n = true) : c.s = true ∨ n < 0 ∨ (c.xs.length : Int) < n := by
  rw [Cu.okB_iff] at h
  cases hs : c.s with
  | true => exact .inl rfl
  | false => exact .inr (by have : ¬ (0 ≤ n ∧ n ≤ (c.xs.length : Int)) := fun hh => h ⟨hs, hh.1, hh.2⟩; omega)
def PAt (lo hi : Nat) (w : World) (g : Nat) (c : Cu) : Prop := At lo hi w g c.xs c.s c.e ∧ c.good
theorem PAt.on {lo hi : Nat} {w w' : World} {g : Nat} {c : Cu} {S : Nat → Prop} (h : PAt lo hi w g c) (hk : Kept w w' S) (h1 : ∀ k, S k → k < lo ∨ hi ≤ k) (h2 : ¬ S g) : PAt lo hi w' g c := ⟨h.1.on hk h1 h2, h.2⟩
theorem PAt.below {lo hi : Nat} {w w' : World} {g : Nat} {c : Cu} (h : PAt lo hi w g c) (hb : Below w.heap.size w w') : PAt lo hi w' g c := ⟨h.1.below hb, h.2⟩
theorem p_new (A : Option Addr) (c : Nat) (l : List Int) (w : World) (hr : Kd.C (Kd.int .u8) w A l.length l) (hc : l.length ≤ c) (hs : l.length ≤ 1000000) (hb : isBytes l) :
    Calls Try.prog 20 #[.slice A l.length c] w fun e w' => ∃ g, e = .returned (.pointer (some ⟨g, 0, none⟩)) ∧ w.heap.size ≤ g ∧ PAt w.heap.size g w' g ⟨l, false, 0⟩ ∧ Below w.heap.size w w' ∧ w'.heap.size = g + 1 :=
  (new_any A c l w hr hc hs).mono fun e w' ⟨g, h1, h2, h3, h4, h5⟩ => ⟨g, h1, h2, ⟨h3, hb, hs, fun h => by cases h⟩, h4, h5⟩
theorem p_bytes {lo hi g : Nat} {c : Cu} {w : World} (h : PAt lo hi w g c) (n : Int) :
    Calls Try.prog 47 #[.pointer (some ⟨g, 0, none⟩), .int .i64 n] w fun en w' => ∃ A' c', en = .returned (.slice A' (c.bytesV n).length c') ∧ (c.bytesV n).length ≤ c' ∧ Row w.heap.size w'.heap.size w' A' (c.bytesV n) ∧ PAt lo hi w' g (c.bytesS n) ∧ Upd g w w' := by
  have hg := Cu.good_bytesS h.2 n
  unfold Cu.bytesV PAt
  unfold Cu.bytesS at hg ⊢
  by_cases hk : c.okB n = true
  · rw [if_pos hk] at hg ⊢
    rw [if_pos hk]
    obtain ⟨h1, h2, h3⟩ := (Cu.okB_iff c n).1 hk
    obtain ⟨m, rfl⟩ := Int.eq_ofNat_of_zero_le h2
    have ha := h.1
    rw [h1] at ha
    refine (bytes_ok lo hi g c.xs c.e m w ha (by omega) h.2.2.1).mono ?_
    rintro en w' ⟨A', c', rfl, b1, b2, b3, b4⟩
    refine ⟨A', c', rfl, b1, b2, ⟨?_, hg⟩, b4⟩
    show At lo hi w' g _ c.s c.e
    rw [h1]
    exact b3
  · rw [if_neg hk] at hg ⊢
    rw [if_neg hk]
    refine (Cur.bytes_short lo hi g c.xs c.s c.e n w h.1 (Cu.not_okB hk)).mono ?_
    rintro en w' ⟨rfl, b3, b4⟩
    exact ⟨none, 0, rfl, Nat.le_refl _, Row.nil _ _ _, ⟨b3, hg⟩, b4⟩
theorem one_of {c : Cu} (h : c.okB 1 = true) : ∃ x l, c.xs = x :: l := by
  obtain ⟨_, _, h3⟩ := (Cu.okB_iff c 1).1 h
  cases hx : c.xs with
  | nil => rw [hx] at h3; simp at h3
  | cons x l => exact ⟨x, l, rfl⟩
theorem p_byte {lo hi g : Nat} {c : Cu} {w : World} (h : PAt lo hi w g c) :
    Calls Try.prog 45 #[.pointer (some ⟨g, 0, none⟩)] w fun en w' => en = .returned (.int .u8 c.byteV) ∧ PAt lo hi w' g c.byteS ∧ Upd g w w' := by
  have hg := Cu.good_byteS h.2
  unfold Cu.byteV Cu.bytesV PAt
  unfold Cu.byteS Cu.bytesS at hg ⊢
  by_cases hk : c.okB 1 = true
  · rw [if_pos hk] at hg ⊢
    rw [if_pos hk]
    obtain ⟨x, l, hx⟩ := one_of hk
    have h1 := ((Cu.okB_iff c 1).1 hk).1
    have ha := h.1
    have hl := h.2.2.1
    rw [h1, hx] at ha
    rw [hx] at hl
    refine (byte_ok lo hi g x l c.e w ha hl).mono ?_
    rintro en w' ⟨rfl, b3, b4⟩
    refine ⟨by rw [hx]; rfl, ⟨?_, hg⟩, b4⟩
    show At lo hi w' g (c.xs.drop 1) c.s c.e
    rw [h1, hx]
    exact b3
  · rw [if_neg hk] at hg ⊢
    rw [if_neg hk]
    refine (byte_short lo hi g c.xs c.s c.e w h.1 ?_).mono ?_
    · rcases Cu.not_okB hk with h | h | h
      · exact .inl h
      · omega
      · exact .inr (List.eq_nil_of_length_eq_zero (by omega))
    rintro en w' ⟨rfl, b3, b4⟩
    exact ⟨rfl, ⟨b3, hg⟩, b4⟩
theorem p_need {lo hi g : Nat} {c : Cu} {w : World} (h : PAt lo hi w g c) (ok : Bool) (f : Int) :
    Calls Try.prog 40 #[.pointer (some ⟨g, 0, none⟩), .bool ok, .int .i64 f] w fun en w' => en = .returned (.tuple #[]) ∧ PAt lo hi w' g (c.need ok f) ∧ Upd g w w' :=
  (Cur.need_any lo hi g c.xs c.s c.e ok f w h.1).mono fun en w' ⟨h1, h2, h3⟩ => ⟨h1, ⟨h2, h.2⟩, h3⟩
theorem p_left {lo hi g : Nat} {c : Cu} {w : World} (h : PAt lo hi w g c) :
    Calls Try.prog 44 #[.pointer (some ⟨g, 0, none⟩)] w fun en w' => en = .returned (.int .i64 c.xs.length) ∧ w' = w := Cur.left_any lo hi g c.xs c.s c.e w h.1
theorem p_err {lo hi g : Nat} {c : Cu} {w : World} (h : PAt lo hi w g c) :
    Calls Try.prog 24 #[.pointer (some ⟨g, 0, none⟩)] w fun en w' => en = .returned (.int .i64 c.e) ∧ w' = w := Cur.err_any lo hi g c.xs c.s c.e w h.1
theorem fin_eq (c : Cu) : c.fin = ⟨c.xs, c.s, if c.xs = [] then c.e else fstE c.e 3⟩ := by
  unfold Cu.fin Cu.need fstE
  by_cases hx : c.xs = [] <;> simp [hx]
theorem p_end {lo hi g : Nat} {c : Cu} {w : World} (h : PAt lo hi w g c) :
    Calls Try.prog 23 #[.pointer (some ⟨g, 0, none⟩)] w fun en w' => en = .returned (.tuple #[]) ∧ PAt lo hi w' g c.fin ∧ Upd g w w' := by
  have hg : c.fin.good := Cu.good_need h.2 _ _
  rw [fin_eq] at hg ⊢
  exact (Cur.end_any lo hi g c.xs c.s c.e w h.1).mono fun en w' ⟨h1, h2, h3⟩ => ⟨h1, ⟨h2, hg⟩, h3⟩
def QAt (hi : Nat) (w : World) (g : Nat) (c : Cu) : Prop := ∃ all n, RAt hi w g all n c.s c.e ∧ c.xs = all.drop n ∧ isBytes all ∧ (c.s = true → n = all.length)
def Cu.okW (c : Cu) (n : Int) : Bool := !c.s && decide (0 ≤ n) && decide (2 * n ≤ (c.xs.length : Int))
def Cu.wordsV (c : Cu) (n : Int) : List Int := if c.okW n = true then Take.words (c.xs.take (2 * n.toNat)) else []
def Cu.wordsS (c : Cu) (n : Int) : Cu := if c.okW n = true then ⟨c.xs.drop (2 * n.toNat), c.s, c.e⟩ else c.fail
theorem Cu.okW_iff (c : Cu) (n : Int) : c.okW n = true ↔ c.s = false ∧ 0 ≤ n ∧ 2 * n ≤ (c.xs.length : Int) := by
  simp [Cu.okW, and_assoc]
theorem Cu.good_wordsS {c : Cu} (h : c.good) (n : Int) : (c.wordsS n).good := by
  unfold Cu.wordsS
  split
  · rename_i hk
    refine ⟨isBytes_drop h.1 _, by have := h.2.1; simp only [List.length_drop]; omega, fun hs => ?_⟩
    rw [((Cu.okW_iff c n).1 hk).1] at hs
    cases hs
  · exact Cu.good_fail c
theorem Cu.not_okW {c : Cu} {n : Int} (h : ¬ c.okW n = true) : c.s = true ∨ n < 0 ∨ (c.xs.length : Int) < 2 * n := by
  rw [Cu.okW_iff] at h
  cases hs : c.s with
  | true => exact .inl rfl
  | false => exact .inr (by have : ¬ (0 ≤ n ∧ 2 * n ≤ (c.xs.length : Int)) := fun hh => h ⟨hs, hh.1, hh.2⟩; omega)
theorem row16_nil (A : Option Addr) (lo hi : Nat) (w : World) : Row16 lo hi w A [] := fun W' _ => ⟨rfl, Nat.zero_le _, fun h => absurd h (Nat.lt_irrefl 0)⟩
theorem p_words {lo hi g : Nat} {c : Cu} {w : World} (h : PAt lo hi w g c) (n : Int) :
    Calls Try.prog 42 #[.pointer (some ⟨g, 0, none⟩), .int .i64 n] w fun en w' => ∃ A' c', en = .returned (.slice A' (c.wordsV n).length c') ∧ (c.wordsV n).length ≤ c' ∧ Row16 w.heap.size w'.heap.size w' A' (c.wordsV n) ∧ PAt lo hi w' g (c.wordsS n) ∧ Upd g w w' := by
  have hg := Cu.good_wordsS h.2 n
  unfold Cu.wordsV PAt
  unfold Cu.wordsS at hg ⊢
  by_cases hk : c.okW n = true
  · rw [if_pos hk] at hg ⊢
    rw [if_pos hk]
    obtain ⟨h1, h2, h3⟩ := (Cu.okW_iff c n).1 hk
    obtain ⟨m, rfl⟩ := Int.eq_ofNat_of_zero_le h2
    have ha := h.1
    rw [h1] at ha
    refine (Cur.words_ok lo hi g c.xs c.e m w ha (by omega) h.2.2.1 h.2.1).mono ?_
    rintro en w' ⟨A', c', rfl, b1, b2, b3, b4⟩
    refine ⟨A', c', rfl, b1, b2, ⟨?_, hg⟩, b4⟩
    show At lo hi w' g _ c.s c.e
    rw [h1]
    exact b3
  · rw [if_neg hk] at hg ⊢
    rw [if_neg hk]
    refine (Cur.words_short lo hi g c.xs c.s c.e n w h.1 h.2.2.1 (Cu.not_okW hk)).mono ?_
    rintro en w' ⟨A', c', rfl, b3, b4⟩
    exact ⟨A', c', rfl, Nat.zero_le _, row16_nil _ _ _ _, ⟨b3, hg⟩, b4⟩
theorem Take.wordsBd {l : List Int} (h : isBytes l) : ∀ x ∈ Take.words l, 0 ≤ x ∧ x < 65536 := by
  unfold Take.words Take.pre
  split
  · intro x hx
    obtain ⟨j, _, rfl⟩ := List.mem_map.1 hx
    have h1 := isBytes_rd h (2 * j)
    have h2 := isBytes_rd h (2 * j + 1)
    unfold Take.wordAt
    omega
  · intro x hx
    cases hx
theorem Cu.wordsV_bd {c : Cu} (h : c.good) (n : Int) : ∀ x ∈ c.wordsV n, 0 ≤ x ∧ x < 65536 := by
  unfold Cu.wordsV
  split
  · exact Take.wordsBd (isBytes_take h.1 _)
  · intro x hx
    cases hx
def Cu.wordV (c : Cu) : Int := (c.wordsV 1).headD 0
def Cu.wordS (c : Cu) : Cu := c.wordsS 1
theorem Cu.good_wordS {c : Cu} (h : c.good) : c.wordS.good := Cu.good_wordsS h 1
theorem Cu.wordV_bd {c : Cu} (h : c.good) : 0 ≤ c.wordV ∧ c.wordV < 65536 := by
  have := Cu.wordsV_bd h 1
  unfold Cu.wordV
  cases hv : c.wordsV 1 with
  | nil => simp
  | cons x l => rw [hv] at this; exact this x List.mem_cons_self
theorem two_of {c : Cu} (h : c.okW 1 = true) : ∃ x y l, c.xs = x :: y :: l := by
  obtain ⟨_, _, h3⟩ := (Cu.okW_iff c 1).1 h
  match hx : c.xs with
  | [] => rw [hx] at h3; simp at h3
  | [x] => rw [hx] at h3; simp at h3
  | x :: y :: l => exact ⟨x, y, l, rfl⟩
theorem p_word {lo hi g : Nat} {c : Cu} {w : World} (h : PAt lo hi w g c) :
    Calls Try.prog 39 #[.pointer (some ⟨g, 0, none⟩)] w fun en w' => en = .returned (.int .u16 c.wordV) ∧ PAt lo hi w' g c.wordS ∧ Upd g w w' := by
  have hg := Cu.good_wordS h.2
  unfold Cu.wordV Cu.wordsV PAt
  unfold Cu.wordS Cu.wordsS at hg ⊢
  by_cases hk : c.okW 1 = true
  · rw [if_pos hk] at hg ⊢
    rw [if_pos hk]
    obtain ⟨x, y, l, hx⟩ := two_of hk
    have h1 := ((Cu.okW_iff c 1).1 hk).1
    have ha := h.1
    have hl := h.2.2.1
    have hbb := h.2.1
    rw [h1, hx] at ha
    rw [hx] at hl hbb
    refine (Cur.word_ok lo hi g x y l c.e w ha hl hbb).mono ?_
    rintro en w' ⟨rfl, b3, b4⟩
    refine ⟨by rw [hx, show (2 * (1 : Int).toNat) = 2 * 1 from rfl, words_two]; rfl, ⟨?_, hg⟩, b4⟩
    show At lo hi w' g (c.xs.drop 2) c.s c.e
    rw [h1, hx]
    exact b3
  · rw [if_neg hk] at hg ⊢
    rw [if_neg hk]
    refine (Cur.word_short lo hi g c.xs c.s c.e w h.1 h.2.2.1 ?_).mono ?_
    · rcases Cu.not_okW hk with h | h | h
      · exact .inl h
      · omega
      · exact .inr (by omega)
    rintro en w' ⟨rfl, b3, b4⟩
    exact ⟨rfl, ⟨b3, hg⟩, b4⟩
end Go.Proofs.Ytalaochocmcbcaa.Cu
end
section
namespace Go.Proofs.Ytalaochocmcbcaa.Same
open Go.RowKit Go.Proofs.Ytalaochocmcbcaa.P Go.Proofs.Ytalaochocmcbcaa.E Go.Proofs.YtalaochocmcbcaaW.PrintWords Go.Proofs.YtalaochocmcbcaaW.PrintLast Go.Proofs.YtalaochocmcbcaaW.PrintMore
theorem good_code {m : Msg} (h : goodM m) {v : Int} (hv : 0 ≤ v ∧ v < 256) : goodM { m with code := v } := by
  obtain ⟨h1, h2⟩ := h
  refine ⟨?_, h2⟩
  simp only [okM, u8B, u16B, Bool.and_eq_true, decide_eq_true_eq] at h1 ⊢
  simp only [h1, hv, and_self, true_and]
theorem set_code {W : World} {cx : Array Value} {m : Msg} (h : IsMsg W cx m) {v : Int} (hv : 0 ≤ v ∧ v < 256) : IsMsg W (cx.setIfInBounds 0 (.int .u8 v)) { m with code := v } := by
  obtain ⟨A12, c12, A13, c13, A14, c14, A15, c15, A21, c21, rfl, ok, h12, h13, h14, h15, h21⟩ := h
  exact ⟨A12, c12, A13, c13, A14, c14, A15, c15, A21, c21, by simp, good_code ok hv, h12, h13, h14, h15, h21⟩
theorem good_value {m : Msg} (h : goodM m) {v : Int} (hv : 0 ≤ v ∧ v < 65536) : goodM { m with value := v } := by
  obtain ⟨h1, h2⟩ := h
  refine ⟨?_, h2⟩
  simp only [okM, u8B, u16B, Bool.and_eq_true, decide_eq_true_eq] at h1 ⊢
  simp only [h1, hv, and_self, true_and]
theorem set_value {W : World} {cx : Array Value} {m : Msg} (h : IsMsg W cx m) {v : Int} (hv : 0 ≤ v ∧ v < 65536) : IsMsg W (cx.setIfInBounds 4 (.int .u16 v)) { m with value := v } := by
  obtain ⟨A12, c12, A13, c13, A14, c14, A15, c15, A21, c21, rfl, ok, h12, h13, h14, h15, h21⟩ := h
  exact ⟨A12, c12, A13, c13, A14, c14, A15, c15, A21, c21, by simp, good_value ok hv, h12, h13, h14, h15, h21⟩
theorem good_sub {m : Msg} (h : goodM m) {v : Int} (hv : 0 ≤ v ∧ v < 65536) : goodM { m with sub := v } := by
  obtain ⟨h1, h2⟩ := h
  refine ⟨?_, h2⟩
  simp only [okM, u8B, u16B, Bool.and_eq_true, decide_eq_true_eq] at h1 ⊢
  simp only [h1, hv, and_self, true_and]
theorem set_sub {W : World} {cx : Array Value} {m : Msg} (h : IsMsg W cx m) {v : Int} (hv : 0 ≤ v ∧ v < 65536) : IsMsg W (cx.setIfInBounds 8 (.int .u16 v)) { m with sub := v } := by
  obtain ⟨A12, c12, A13, c13, A14, c14, A15, c15, A21, c21, rfl, ok, h12, h13, h14, h15, h21⟩ := h
  exact ⟨A12, c12, A13, c13, A14, c14, A15, c15, A21, c21, by simp, good_sub ok hv, h12, h13, h14, h15, h21⟩
theorem good_status {m : Msg} (h : goodM m) {v : Int} (hv : 0 ≤ v ∧ v < 65536) : goodM { m with status := v } := by
  obtain ⟨h1, h2⟩ := h
  refine ⟨?_, h2⟩
  simp only [okM, u8B, u16B, Bool.and_eq_true, decide_eq_true_eq] at h1 ⊢
  simp only [h1, hv, and_self, true_and]
theorem set_status {W : World} {cx : Array Value} {m : Msg} (h : IsMsg W cx m) {v : Int} (hv : 0 ≤ v ∧ v < 65536) : IsMsg W (cx.setIfInBounds 9 (.int .u16 v)) { m with status := v } := by
  obtain ⟨A12, c12, A13, c13, A14, c14, A15, c15, A21, c21, rfl, ok, h12, h13, h14, h15, h21⟩ := h
  exact ⟨A12, c12, A13, c13, A14, c14, A15, c15, A21, c21, by simp, good_status ok hv, h12, h13, h14, h15, h21⟩
theorem good_events {m : Msg} (h : goodM m) {v : Int} (hv : 0 ≤ v ∧ v < 65536) : goodM { m with events := v } := by
  obtain ⟨h1, h2⟩ := h
  refine ⟨?_, h2⟩
  simp only [okM, u8B, u16B, Bool.and_eq_true, decide_eq_true_eq] at h1 ⊢
  simp only [h1, hv, and_self, true_and]
theorem set_events {W : World} {cx : Array Value} {m : Msg} (h : IsMsg W cx m) {v : Int} (hv : 0 ≤ v ∧ v < 65536) : IsMsg W (cx.setIfInBounds 10 (.int .u16 v)) { m with events := v } := by
  obtain ⟨A12, c12, A13, c13, A14, c14, A15, c15, A21, c21, rfl, ok, h12, h13, h14, h15, h21⟩ := h
  exact ⟨A12, c12, A13, c13, A14, c14, A15, c15, A21, c21, by simp, good_events ok hv, h12, h13, h14, h15, h21⟩
theorem good_messages {m : Msg} (h : goodM m) {v : Int} (hv : 0 ≤ v ∧ v < 65536) : goodM { m with messages := v } := by
  obtain ⟨h1, h2⟩ := h
  refine ⟨?_, h2⟩
  simp only [okM, u8B, u16B, Bool.and_eq_true, decide_eq_true_eq] at h1 ⊢
  simp only [h1, hv, and_self, true_and]
theorem set_messages {W : World} {cx : Array Value} {m : Msg} (h : IsMsg W cx m) {v : Int} (hv : 0 ≤ v ∧ v < 65536) : IsMsg W (cx.setIfInBounds 11 (.int .u16 v)) { m with messages := v } := by
  obtain ⟨A12, c12, A13, c13, A14, c14, A15, c15, A21, c21, rfl, ok, h12, h13, h14, h15, h21⟩ := h
  exact ⟨A12, c12, A13, c13, A14, c14, A15, c15, A21, c21, by simp, good_messages ok hv, h12, h13, h14, h15, h21⟩
theorem set_words {W : World} {cx : Array Value} {m : Msg} (h : IsMsg W cx m) {A : Option Addr} {n : Nat} {l : List Int} (hn : l.length ≤ n) (hg : ∀ x ∈ l, 0 ≤ x ∧ x < 65536) (hr : Kd.C (Kd.int .u16) W A l.length l) : IsMsg W (cx.setIfInBounds 12 (.slice A l.length n)) { m with words := l } := by
  obtain ⟨A12, c12, A13, c13, A14, c14, A15, c15, A21, c21, rfl, ok, h12, h13, h14, h15, h21⟩ := h
  exact ⟨A, n, A13, c13, A14, c14, A15, c15, A21, c21, by simp, ⟨ok.1, hg, ok.2.2⟩, ⟨hr, hn⟩, h13, h14, h15, h21⟩
theorem good_data {m : Msg} (h : goodM m) {l : List Int} (hg : isBytes l) : goodM { m with data := l } := by
  obtain ⟨h1, h2⟩ := h
  refine ⟨?_, h2⟩
  simp only [okM, u8B, u16B, Bool.and_eq_true, decide_eq_true_eq, List.all_eq_true] at h1 ⊢
  exact ⟨⟨h1.1.1, fun x hx => hg x hx⟩, h1.2⟩
theorem set_data {W : World} {cx : Array Value} {m : Msg} (h : IsMsg W cx m) {A : Option Addr} {n : Nat} {l : List Int} (hn : l.length ≤ n) (hg : isBytes l) (hr : Kd.C (Kd.int .u8) W A l.length l) : IsMsg W (cx.setIfInBounds 14 (.slice A l.length n)) { m with data := l } := by
  obtain ⟨A12, c12, A13, c13, A14, c14, A15, c15, A21, c21, rfl, ok, h12, h13, h14, h15, h21⟩ := h
  exact ⟨A12, c12, A13, c13, A, n, A15, c15, A21, c21, by simp, good_data ok hg, h12, h13, ⟨hr, hn⟩, h15, h21⟩
def NilL (cx : Array Value) : Prop := ∀ (i : Nat) A n, (i = 15 ∨ i = 21) → cx[i]? = some (.slice A 0 n) → A = none ∧ n = 0
theorem NilL.set {cx : Array Value} (h : NilL cx) {i : Nat} (hi : i ≠ 15 ∧ i ≠ 21) {v : Value} : NilL (cx.setIfInBounds i v) := by
  intro j A n hj e
  refine h j A n hj ?_
  rwa [Array.getElem?_setIfInBounds_ne (by omega)] at e
end Go.Proofs.Ytalaochocmcbcaa.Same
end
section
namespace Go.Proofs.Ytalaochocmcbcaa.PS
open Go.RowKit Go.Proofs.Ytalaochocmcbcaa.P Go.Proofs.Ytalaochocmcbcaa.E Go.Proofs.Ytalaochocmcbcaa.Cur Go.Proofs.Ytalaochocmcbcaa.RCur Go.Proofs.Ytalaochocmcbcaa.Cu Go.Proofs.Ytalaochocmcbcaa.Same Go.Proofs.YtalaochocmcbcaaW.PrintWords Go.Proofs.YtalaochocmcbcaaW.PrintLast Go.Proofs.YtalaochocmcbcaaW.PrintMore
structure St (w0 : World) (gr g gm : Nat) (w : World) (c : Cu) (m : Msg) : Prop where
  b : Below w0.heap.size w0 w
  cur : ∃ lo hi, PAt lo hi w g c ∧ (gm < lo ∨ hi ≤ gm) ∧ (gr < lo ∨ hi ≤ gr)
  cx : ∃ cx, w.heap[gm]? = some (.cells cx 30 (0, 0)) ∧ ∀ W', Kept w W' (fun k => k = g ∨ k = gm ∨ k = gr) → IsMsg W' cx m
  res : w.heap[gr]? = some (.cells zeroC 30 (0, 0))
  h1 : w0.heap.size ≤ g ∧ w0.heap.size ≤ gm ∧ w0.heap.size ≤ gr
  h2 : gm ≠ g ∧ gr ≠ g ∧ gr ≠ gm
  nl : ∃ cx, w.heap[gm]? = some (.cells cx 30 (0, 0)) ∧ NilL cx
section
variable {w0 w w' : World} {gr g gm : Nat} {c c' : Cu} {m m' : Msg}
theorem St.upd (h : St w0 gr g gm w c m) (k : Upd g w w') (hc : ∃ lo hi, PAt lo hi w' g c' ∧ (gm < lo ∨ hi ≤ gm) ∧ (gr < lo ∨ hi ≤ gr)) : St w0 gr g gm w' c' m := by
  obtain ⟨cx, a1, a2⟩ := h.cx
  refine ⟨h.b.trans (k.below h.h1.1 h.b.size), hc, ⟨cx, blk_kept a1 k.kept h.h2.1, fun W' hk => a2 W' ((k.kept.mono fun j hj => .inl hj).then_ hk (fun j hj => .inl hj))⟩, blk_kept h.res k.kept h.h2.2.1, h.h1, h.h2, by obtain ⟨cy, n1, n2⟩ := h.nl; exact ⟨cy, blk_kept n1 k.kept h.h2.1, n2⟩⟩
theorem St.good (h : St w0 gr g gm w c m) : c.good := by
  obtain ⟨lo, hi, a, _⟩ := h.cur
  exact a.2
theorem St.below (h : St w0 gr g gm w c m) (hb : Below w.heap.size w w') : St w0 gr g gm w' c m := by
  obtain ⟨cx, a1, a2⟩ := h.cx
  refine ⟨h.b.trans (hb.mono h.b.size), ?_, ⟨cx, blk_below a1 hb, fun W' hk => a2 W' ((Kept.of_below hb _).then_ hk (fun j hj => .inl hj))⟩, blk_below h.res hb, h.h1, h.h2, by obtain ⟨cy, n1, n2⟩ := h.nl; exact ⟨cy, blk_below n1 hb, n2⟩⟩
  obtain ⟨lo, hi, a, s1, s2⟩ := h.cur
  exact ⟨lo, hi, a.below hb, s1, s2⟩
theorem St.byte (h : St w0 gr g gm w c m) : Calls Try.prog 45 #[.pointer (some ⟨g, 0, none⟩)] w fun en w' => en = .returned (.int .u8 c.byteV) ∧ St w0 gr g gm w' c.byteS m := by
  obtain ⟨lo, hi, hc, s1, s2⟩ := h.cur
  refine (p_byte hc).mono ?_
  rintro en w' ⟨rfl, b1, b2⟩
  exact ⟨rfl, h.upd b2 ⟨lo, hi, b1, s1, s2⟩⟩
theorem St.bytes (h : St w0 gr g gm w c m) (n : Int) : Calls Try.prog 47 #[.pointer (some ⟨g, 0, none⟩), .int .i64 n] w fun en w' => ∃ A' c', en = .returned (.slice A' (c.bytesV n).length c') ∧ (c.bytesV n).length ≤ c' ∧ (∀ W', Kept w' W' (fun k => k = g ∨ k = gm ∨ k = gr) → Kd.C (Kd.int .u8) W' A' (c.bytesV n).length (c.bytesV n)) ∧ St w0 gr g gm w' (c.bytesS n) m := by
  obtain ⟨cx, a1, a2⟩ := h.cx
  have lm := blk_lt a1
  have lr := blk_lt h.res
  obtain ⟨lo, hi, hc, s1, s2⟩ := h.cur
  refine (p_bytes hc n).mono ?_
  rintro en w' ⟨A', c', rfl, b1, b2, b3, b4⟩
  refine ⟨A', c', rfl, b1, fun W' hk => (b2.on (hk.mono fun j hj => ?_)).now, h.upd b4 ⟨lo, hi, b3, s1, s2⟩⟩
  have lg := hc.1.lt
  rcases hj with rfl | rfl | rfl <;> exact .inl (by omega)
theorem St.words (h : St w0 gr g gm w c m) (n : Int) : Calls Try.prog 42 #[.pointer (some ⟨g, 0, none⟩), .int .i64 n] w fun en w' => ∃ A' c', en = .returned (.slice A' (c.wordsV n).length c') ∧ (c.wordsV n).length ≤ c' ∧ (∀ W', Kept w' W' (fun k => k = g ∨ k = gm ∨ k = gr) → Kd.C (Kd.int .u16) W' A' (c.wordsV n).length (c.wordsV n)) ∧ St w0 gr g gm w' (c.wordsS n) m := by
  obtain ⟨cx, a1, a2⟩ := h.cx
  have lm := blk_lt a1
  have lr := blk_lt h.res
  obtain ⟨lo, hi, hc, s1, s2⟩ := h.cur
  refine (p_words hc n).mono ?_
  rintro en w' ⟨A', c', rfl, b1, b2, b3, b4⟩
  refine ⟨A', c', rfl, b1, fun W' hk => (b2.on (hk.mono fun j hj => ?_)).now, h.upd b4 ⟨lo, hi, b3, s1, s2⟩⟩
  have lg := hc.1.lt
  rcases hj with rfl | rfl | rfl <;> exact .inl (by omega)
theorem St.word (h : St w0 gr g gm w c m) : Calls Try.prog 39 #[.pointer (some ⟨g, 0, none⟩)] w fun en w' => en = .returned (.int .u16 c.wordV) ∧ St w0 gr g gm w' c.wordS m := by
  obtain ⟨lo, hi, hc, s1, s2⟩ := h.cur
  refine (p_word hc).mono ?_
  rintro en w' ⟨rfl, b1, b2⟩
  exact ⟨rfl, h.upd b2 ⟨lo, hi, b1, s1, s2⟩⟩
theorem St.need (h : St w0 gr g gm w c m) (ok : Bool) (f : Int) : Calls Try.prog 40 #[.pointer (some ⟨g, 0, none⟩), .bool ok, .int .i64 f] w fun en w' => en = .returned (.tuple #[]) ∧ St w0 gr g gm w' (c.need ok f) m := by
  obtain ⟨lo, hi, hc, s1, s2⟩ := h.cur
  refine (p_need hc ok f).mono ?_
  rintro en w' ⟨rfl, b1, b2⟩
  exact ⟨rfl, h.upd b2 ⟨lo, hi, b1, s1, s2⟩⟩
theorem St.fin (h : St w0 gr g gm w c m) : Calls Try.prog 23 #[.pointer (some ⟨g, 0, none⟩)] w fun en w' => en = .returned (.tuple #[]) ∧ St w0 gr g gm w' c.fin m := by
  obtain ⟨lo, hi, hc, s1, s2⟩ := h.cur
  refine (p_end hc).mono ?_
  rintro en w' ⟨rfl, b1, b2⟩
  exact ⟨rfl, h.upd b2 ⟨lo, hi, b1, s1, s2⟩⟩
theorem St.left (h : St w0 gr g gm w c m) : Calls Try.prog 44 #[.pointer (some ⟨g, 0, none⟩)] w fun en w' => en = .returned (.int .i64 c.xs.length) ∧ St w0 gr g gm w' c m := by
  obtain ⟨lo, hi, hc, s1, s2⟩ := h.cur
  refine (p_left hc).mono ?_
  rintro en w' ⟨rfl, rfl⟩
  exact ⟨rfl, h⟩
theorem St.err (h : St w0 gr g gm w c m) : Calls Try.prog 24 #[.pointer (some ⟨g, 0, none⟩)] w fun en w' => en = .returned (.int .i64 c.e) ∧ St w0 gr g gm w' c m := by
  obtain ⟨lo, hi, hc, s1, s2⟩ := h.cur
  refine (p_err hc).mono ?_
  rintro en w' ⟨rfl, rfl⟩
  exact ⟨rfl, h⟩
theorem St.put (h : St w0 gr g gm w c m) (i : Nat) (v : Value) (hi : i ≠ 15 ∧ i ≠ 21) (hm : ∀ W' cx, Kept w W' (fun k => k = g ∨ k = gm ∨ k = gr) → IsMsg W' cx m → IsMsg W' (cx.setIfInBounds i v) m') : St w0 gr g gm (w.setCell ⟨gm, i, none⟩ v) c m' := by
  obtain ⟨cx, a1, a2⟩ := h.cx
  have hk : Kept w (w.setCell ⟨gm, i, none⟩ v) (fun k => k = gm) := (Kept.refl w (fun k => k = gm)).setCell (p := ⟨gm, i, none⟩) (.inl rfl) v
  refine ⟨below_set h.b h.h1.2.1, ?_, ⟨_, blk_put a1 i v rfl, fun W' k => ?_⟩, blk_kept h.res hk h.h2.2.2, h.h1, h.h2, by obtain ⟨cy, n1, n2⟩ := h.nl; exact ⟨_, blk_put n1 i v rfl, n2.set hi⟩⟩
  · obtain ⟨lo, hi, a, s1, s2⟩ := h.cur
    exact ⟨lo, hi, a.on hk (fun k e => by rw [e]; exact s1) (fun e => h.h2.1 e.symm), s1, s2⟩
  · have k2 : Kept w W' (fun k => k = g ∨ k = gm ∨ k = gr) := (hk.mono fun j hj => .inr (.inl hj)).then_ k (fun j hj => .inl hj)
    exact hm W' cx k2 (a2 W' k2)
theorem St.put_value (h : St w0 gr g gm w c m) {v : Int} (hv : 0 ≤ v ∧ v < 65536) : St w0 gr g gm (w.setCell ⟨gm, 4, none⟩ (.int .u16 v)) c { m with value := v } :=
  h.put 4 _ (by decide) fun W' cx _ hm => set_value hm hv
theorem St.put_sub (h : St w0 gr g gm w c m) {v : Int} (hv : 0 ≤ v ∧ v < 65536) : St w0 gr g gm (w.setCell ⟨gm, 8, none⟩ (.int .u16 v)) c { m with sub := v } :=
  h.put 8 _ (by decide) fun W' cx _ hm => set_sub hm hv
theorem St.put_status (h : St w0 gr g gm w c m) {v : Int} (hv : 0 ≤ v ∧ v < 65536) : St w0 gr g gm (w.setCell ⟨gm, 9, none⟩ (.int .u16 v)) c { m with status := v } :=
  h.put 9 _ (by decide) fun W' cx _ hm => set_status hm hv
theorem St.put_events (h : St w0 gr g gm w c m) {v : Int} (hv : 0 ≤ v ∧ v < 65536) : St w0 gr g gm (w.setCell ⟨gm, 10, none⟩ (.int .u16 v)) c { m with events := v } :=
  h.put 10 _ (by decide) fun W' cx _ hm => set_events hm hv
theorem St.put_messages (h : St w0 gr g gm w c m) {v : Int} (hv : 0 ≤ v ∧ v < 65536) : St w0 gr g gm (w.setCell ⟨gm, 11, none⟩ (.int .u16 v)) c { m with messages := v } :=
  h.put 11 _ (by decide) fun W' cx _ hm => set_messages hm hv
theorem St.put_words (h : St w0 gr g gm w c m) {A : Option Addr} {n : Nat} {l : List Int} (hn : l.length ≤ n) (hg : ∀ x ∈ l, 0 ≤ x ∧ x < 65536) (hr : ∀ W', Kept w W' (fun k => k = g ∨ k = gm ∨ k = gr) → Kd.C (Kd.int .u16) W' A l.length l) : St w0 gr g gm (w.setCell ⟨gm, 12, none⟩ (.slice A l.length n)) c { m with words := l } :=
  h.put 12 _ (by decide) fun W' cx k hm => set_words hm hn hg (hr W' k)
theorem St.put_data (h : St w0 gr g gm w c m) {A : Option Addr} {n : Nat} {l : List Int} (hn : l.length ≤ n) (hg : isBytes l) (hr : ∀ W', Kept w W' (fun k => k = g ∨ k = gm ∨ k = gr) → Kd.C (Kd.int .u8) W' A l.length l) : St w0 gr g gm (w.setCell ⟨gm, 14, none⟩ (.slice A l.length n)) c { m with data := l } :=
  h.put 14 _ (by decide) fun W' cx k hm => set_data hm hn hg (hr W' k)
theorem St.at_code (h : St w0 gr g gm w c m) : w.cell? ⟨gm, 0, none⟩ = some (.int .u8 m.code) ∧ w.frozen? ⟨gm, 0, none⟩ = false := by
  obtain ⟨cx, a1, a2⟩ := h.cx
  exact ⟨bx_code a1 (a2 w (Kept.refl _ _)), blk_frozen a1 0⟩
theorem St.at_value (h : St w0 gr g gm w c m) : w.cell? ⟨gm, 4, none⟩ = some (.int .u16 m.value) ∧ w.frozen? ⟨gm, 4, none⟩ = false := by
  obtain ⟨cx, a1, a2⟩ := h.cx
  exact ⟨bx_value a1 (a2 w (Kept.refl _ _)), blk_frozen a1 4⟩
theorem St.at_sub (h : St w0 gr g gm w c m) : w.cell? ⟨gm, 8, none⟩ = some (.int .u16 m.sub) ∧ w.frozen? ⟨gm, 8, none⟩ = false := by
  obtain ⟨cx, a1, a2⟩ := h.cx
  exact ⟨bx_sub a1 (a2 w (Kept.refl _ _)), blk_frozen a1 8⟩
theorem St.at_status (h : St w0 gr g gm w c m) : w.cell? ⟨gm, 9, none⟩ = some (.int .u16 m.status) ∧ w.frozen? ⟨gm, 9, none⟩ = false := by
  obtain ⟨cx, a1, a2⟩ := h.cx
  exact ⟨bx_status a1 (a2 w (Kept.refl _ _)), blk_frozen a1 9⟩
theorem St.at_events (h : St w0 gr g gm w c m) : w.cell? ⟨gm, 10, none⟩ = some (.int .u16 m.events) ∧ w.frozen? ⟨gm, 10, none⟩ = false := by
  obtain ⟨cx, a1, a2⟩ := h.cx
  exact ⟨bx_events a1 (a2 w (Kept.refl _ _)), blk_frozen a1 10⟩
theorem St.at_messages (h : St w0 gr g gm w c m) : w.cell? ⟨gm, 11, none⟩ = some (.int .u16 m.messages) ∧ w.frozen? ⟨gm, 11, none⟩ = false := by
  obtain ⟨cx, a1, a2⟩ := h.cx
  exact ⟨bx_messages a1 (a2 w (Kept.refl _ _)), blk_frozen a1 11⟩
theorem St.at_words (h : St w0 gr g gm w c m) : ∃ A n, w.cell? ⟨gm, 12, none⟩ = some (.slice A m.words.length n) ∧ w.frozen? ⟨gm, 12, none⟩ = false := by
  obtain ⟨cx, a1, a2⟩ := h.cx
  obtain ⟨A12, c12, A13, c13, A14, c14, A15, c15, A21, c21, l, _⟩ := (a2 w (Kept.refl _ _)).lists
  exact ⟨A12, c12, (blk_cell a1 12).trans l.1, blk_frozen a1 12⟩
theorem St.at_data (h : St w0 gr g gm w c m) : ∃ A n, w.cell? ⟨gm, 14, none⟩ = some (.slice A m.data.length n) ∧ w.frozen? ⟨gm, 14, none⟩ = false := by
  obtain ⟨cx, a1, a2⟩ := h.cx
  obtain ⟨A12, c12, A13, c13, A14, c14, A15, c15, A21, c21, l, _⟩ := (a2 w (Kept.refl _ _)).lists
  exact ⟨A14, c14, (blk_cell a1 14).trans l.2.2.1, blk_frozen a1 14⟩
theorem St.held (h : St w0 gr g gm w c m) : Held w0 [(gr, zeroC)] w := ⟨h.b, fun p hp => by obtain rfl := List.mem_singleton.1 hp; exact ⟨h.h1.2.2, h.res⟩, List.pairwise_singleton _ _⟩
theorem St.held2 (h : St w0 gr g gm w c m) : ∃ cx, Held w0 [(gr, zeroC), (gm, cx)] w ∧ cx.size = 22 ∧ ∀ w', Up1 gr w w' → IsMsg w' cx m := by
  obtain ⟨cx, a1, a2⟩ := h.cx
  refine ⟨cx, ⟨h.b, fun p hp => ?_, ?_⟩, (a2 w (Kept.refl _ _)).size, fun w' hu => a2 w' (hu.kept.mono fun j hj => .inr (.inr hj))⟩
  · rcases List.mem_cons.1 hp with rfl | hp
    · exact ⟨h.h1.2.2, h.res⟩
    · obtain rfl := List.mem_singleton.1 hp
      exact ⟨h.h1.2.1, a1⟩
  · refine List.pairwise_cons.2 ⟨fun q hq => ?_, List.pairwise_singleton _ _⟩
    obtain rfl := List.mem_singleton.1 hq
    exact h.h2.2.2
end
theorem zero_nil : NilL zeroC := by
  intro i A n hi e
  rcases hi with rfl | rfl <;> exact ⟨(Value.slice.inj (Option.some.inj e)).1.symm, (Value.slice.inj (Option.some.inj e)).2.2.symm⟩
structure Nw (w0 : World) (gr g : Nat) (w : World) (c : Cu) : Prop where
  b : Below w0.heap.size w0 w
  cur : ∃ lo, PAt lo g w g c ∧ gr < lo
  res : w.heap[gr]? = some (.cells zeroC 30 (0, 0))
  h1 : w0.heap.size ≤ g ∧ w0.heap.size ≤ gr
end Go.Proofs.Ytalaochocmcbcaa.PS
end
section
namespace Go.Proofs.Ytalaochocmcbcaa.QS
open Go.RowKit Go.Proofs.Ytalaochocmcbcaa.P Go.Proofs.Ytalaochocmcbcaa.E Go.Proofs.Ytalaochocmcbcaa.Cur Go.Proofs.Ytalaochocmcbcaa.RCur Go.Proofs.Ytalaochocmcbcaa.Cu Go.Proofs.Ytalaochocmcbcaa.Same Go.Proofs.YtalaochocmcbcaaW.PrintWords Go.Proofs.YtalaochocmcbcaaW.PrintLast Go.Proofs.YtalaochocmcbcaaW.PrintMore
structure St (w0 : World) (gr g gm : Nat) (w : World) (c : Cu) (m : Msg) : Prop where
  b : Below w0.heap.size w0 w
  cur : QAt w0.heap.size w g c
  cx : ∃ cx, w.heap[gm]? = some (.cells cx 30 (0, 0)) ∧ ∀ W', Kept w W' (fun k => k = g ∨ k = gm ∨ k = gr) → IsMsg W' cx m
  res : w.heap[gr]? = some (.cells zeroC 30 (0, 0))
  h1 : w0.heap.size ≤ g ∧ w0.heap.size ≤ gm ∧ w0.heap.size ≤ gr
  h2 : gm ≠ g ∧ gr ≠ g ∧ gr ≠ gm
  nl : ∃ cx, w.heap[gm]? = some (.cells cx 30 (0, 0)) ∧ NilL cx
section
variable {w0 w w' : World} {gr g gm : Nat} {c c' : Cu} {m m' : Msg}
end
structure Nw (w0 : World) (gr g : Nat) (w : World) (c : Cu) : Prop where
  b : Below w0.heap.size w0 w
  cur : QAt w0.heap.size w g c
  res : w.heap[gr]? = some (.cells zeroC 30 (0, 0))
  h1 : w0.heap.size ≤ g ∧ w0.heap.size ≤ gr
  h2 : gr ≠ g
end Go.Proofs.Ytalaochocmcbcaa.QS
end
section
namespace Go.Proofs.Ytalaochocmcbcaa.Cu
open Go.RowKit Go.Proofs.Ytalaochocmcbcaa.E Go.Proofs.Ytalaochocmcbcaa.Cur Go.Proofs.YtalaochocmcbcaaW.PrintWords Go.Proofs.YtalaochocmcbcaaW.PrintLast Go.Proofs.YtalaochocmcbcaaW.PrintMore
def cu (l : List Int) : Cu := ⟨l, false, 0⟩
theorem need_true (c : Cu) (f : Int) : c.need true f = c := by unfold Cu.need; simp
theorem need_dead {c : Cu} (h : c.e ≠ 0) (ok : Bool) (f : Int) : c.need ok f = c := by
  unfold Cu.need
  rw [if_neg (fun hh => h hh.1)]
theorem bytesS_dead {c : Cu} (h : c.e ≠ 0) (n : Int) : (c.bytesS n).e = c.e := by
  unfold Cu.bytesS
  split
  · rfl
  · simp only [Cu.fail, fstE]
    rw [if_neg h]
theorem need_ok {c : Cu} {ok : Bool} {f : Int} (hf : f ≠ 0) (h : (c.need ok f).e = 0) : c.e = 0 ∧ ok = true ∧ c.need ok f = c := by
  cases ok with
  | true => rw [need_true] at h ⊢; exact ⟨h, rfl, rfl⟩
  | false =>
    by_cases he : c.e = 0
    · exfalso
      unfold Cu.need at h
      rw [if_pos ⟨he, rfl⟩] at h
      exact hf h
    · rw [need_dead he] at h
      exact absurd h he
theorem need_ok' {xs : List Int} {ok : Bool} {f : Int} (h : ((cu xs).need ok f).e = 0) : (cu xs).need ok f = cu xs := by
  cases ok with
  | true => exact need_true _ _
  | false =>
    unfold Cu.need cu at h ⊢
    simp only [and_self, if_true] at h ⊢
    rw [h]
theorem bytes_ok {c : Cu} {n : Int} (h : (c.bytesS n).e = 0) : c.e = 0 ∧ c.s = false ∧ 0 ≤ n ∧ n ≤ (c.xs.length : Int) ∧ c.bytesS n = cu (c.xs.drop n.toNat) ∧ c.bytesV n = c.xs.take n.toNat := by
  have he : c.e = 0 := by
    by_cases he : c.e = 0
    · exact he
    · rw [bytesS_dead he] at h; exact h
  by_cases hk : c.okB n = true
  · obtain ⟨h1, h2, h3⟩ := (Cu.okB_iff c n).1 hk
    refine ⟨he, h1, h2, h3, ?_, ?_⟩
    · unfold Cu.bytesS cu; rw [if_pos hk, h1, he]
    · unfold Cu.bytesV; rw [if_pos hk]
  · exfalso
    unfold Cu.bytesS at h
    rw [if_neg hk] at h
    simp only [Cu.fail, fstE] at h
    rw [if_pos he] at h
    exact absurd h (by decide)
theorem byte_ok {c : Cu} (h : c.byteS.e = 0) : c.e = 0 ∧ c.s = false ∧ ∃ t, c.xs = c.byteV :: t ∧ c.byteS = cu t := by
  obtain ⟨h1, h2, h3, h4, h5, h6⟩ := bytes_ok (n := 1) h
  cases hx : c.xs with
  | nil => rw [hx] at h4; simp at h4
  | cons x t =>
    refine ⟨h1, h2, t, ?_, ?_⟩
    · unfold Cu.byteV; rw [h6, hx]; rfl
    · show c.bytesS 1 = _
      rw [h5, hx]; rfl
theorem fin_ok {c : Cu} (h : c.fin.e = 0) : c.e = 0 ∧ c.xs = [] := by
  obtain ⟨h1, h2, h3⟩ := need_ok (by decide) h
  exact ⟨h1, by simpa using h2⟩
theorem okB_cu (l : List Int) (n : Nat) (h : n ≤ l.length) : (cu l).okB (n : Int) = true := by
  rw [Cu.okB_iff]
  exact ⟨rfl, by omega, by show (n : Int) ≤ (l.length : Int); omega⟩
theorem bytesV_app (u t : List Int) {n : Int} (hn : n = (u.length : Int)) : (cu (u ++ t)).bytesV n = u := by
  subst hn
  unfold Cu.bytesV
  rw [if_pos (okB_cu _ _ (by simp))]
  show (u ++ t).take (u.length : Int).toNat = u
  simp
theorem bytesS_app (u t : List Int) {n : Int} (hn : n = (u.length : Int)) : (cu (u ++ t)).bytesS n = cu t := by
  subst hn
  unfold Cu.bytesS
  rw [if_pos (okB_cu _ _ (by simp))]
  show (⟨(u ++ t).drop (u.length : Int).toNat, _, _⟩ : Cu) = _
  simp [cu]
theorem bytesS_cut {l : List Int} {n : Int} (h : (l.length : Int) < n ∨ n < 0) : ((cu l).bytesS n).e = 2 := by
  unfold Cu.bytesS
  have hk : ¬ (cu l).okB n = true := fun hk => by
    obtain ⟨_, h2, h3⟩ := (Cu.okB_iff _ _).1 hk
    have h3 : n ≤ (l.length : Int) := h3
    omega
  rw [if_neg hk]
  rfl
theorem byteV_cons (x : Int) (t : List Int) : (cu (x :: t)).byteV = x := by
  show ((cu ([x] ++ t)).bytesV 1).headD 0 = x
  have h := bytesV_app [x] t (n := 1) rfl
  rw [h]
  rfl
theorem byteS_cons (x : Int) (t : List Int) : (cu (x :: t)).byteS = cu t := bytesS_app [x] t rfl
theorem fin_cu_cons (x : Int) (t : List Int) : (cu (x :: t)).fin.e = 3 := by
  show ((cu (x :: t)).need _ 3).e = 3
  unfold Cu.need cu
  simp
section
variable {α β : Type}
def Rd.ret (a : α) : (Cu → Cu × α) := fun c => (c, a)
def Rd.bind (r : (Cu → Cu × α)) (f : α → (Cu → Cu × β)) : (Cu → Cu × β) := fun c => f (r c).2 (r c).1
def Rd.byte : (Cu → Cu × Int) := fun c => (c.byteS, c.byteV)
def Rd.need (ok : Bool) (f : Int) : (Cu → Cu × Unit) := fun c => (c.need ok f, ())
def Rd.bytes (n : Int) : (Cu → Cu × (List Int)) := fun c => (c.bytesS n, c.bytesV n)
structure Cl (r : (Cu → Cu × α)) : Prop where
  dead : ∀ c : Cu, c.e ≠ 0 → (r c).1.e = c.e
  ok : ∀ xs : List Int, (r (cu xs)).1.e = 0 → ∃ u t, xs = u ++ t ∧ (∀ t', r (cu (u ++ t')) = (cu t', (r (cu xs)).2)) ∧ ∀ k, k < u.length → (r (cu (u.take k))).1.e = 2
theorem Cl.ret (a : α) : Cl (Rd.ret a) := ⟨fun _ _ => rfl, fun xs _ => ⟨[], xs, rfl, fun _ => rfl, fun k hk => absurd hk (Nat.not_lt_zero k)⟩⟩
theorem Cl.need (ok : Bool) (f : Int) : Cl (Rd.need ok f) := by
  refine ⟨fun c h => by show (c.need ok f).e = c.e; rw [need_dead h], fun xs h => ⟨[], xs, rfl, fun t => ?_, fun k hk => absurd hk (Nat.not_lt_zero k)⟩⟩
  have e := need_ok' (xs := xs) h
  show ((cu t).need ok f, ()) = _
  cases ok with
  | true => rw [need_true]
  | false =>
    have hf : f = 0 := by
      have h : ((cu xs).need false f).e = 0 := h
      unfold Cu.need cu at h
      simpa using h
    subst hf
    first | rfl | done
theorem Cl.bytes (n : Int) : Cl (Rd.bytes n) := by
  refine ⟨fun c h => bytesS_dead h n, fun xs h => ?_⟩
  obtain ⟨h1, h2, h3, h4, h5, h6⟩ := bytes_ok (c := cu xs) h
  have h4 : n ≤ (xs.length : Int) := h4
  have hl : n = ((xs.take n.toNat).length : Int) := by rw [List.length_take]; omega
  refine ⟨xs.take n.toNat, xs.drop n.toNat, (List.take_append_drop _ _).symm, fun t => ?_, fun k hk => ?_⟩
  · show ((cu (xs.take n.toNat ++ t)).bytesS n, (cu (xs.take n.toNat ++ t)).bytesV n) = (cu t, (cu xs).bytesV n)
    rw [bytesS_app _ _ hl, bytesV_app _ _ hl, h6]
    rfl
  · refine bytesS_cut (.inl ?_)
    rw [List.length_take]
    omega
end
def Dd {α : Type} (r : (Cu → Cu × α)) : Prop := ∀ c : Cu, c.e ≠ 0 → (r c).1.e = c.e
section
variable {α β : Type} {f : α → (Cu → Cu × β)}
theorem Dd.bind {r : (Cu → Cu × α)} (hr : Dd r) (hf : ∀ a, Dd (f a)) : Dd (Rd.bind r f) := fun c h => by
  have h1 := hr c h
  show (f (r c).2 (r c).1).1.e = c.e
  rw [hf _ _ (by rw [h1]; exact h), h1]
theorem Dd.ite {c : Prop} [Decidable c] {r s : (Cu → Cu × α)} (hr : Dd r) (hs : Dd s) : Dd (if c then r else s) := by
  split
  · exact hr
  · exact hs
theorem byte_inv {f : Int → (Cu → Cu × β)} {l : List Int} (hf : ∀ a, Dd (f a)) (h : (Rd.bind Rd.byte f (cu l)).1.e = 0) : ∃ x t, l = x :: t ∧ Rd.bind Rd.byte f (cu l) = f x (cu t) := by
  have h : (f (cu l).byteV (cu l).byteS).1.e = 0 := h
  have h1 : (cu l).byteS.e = 0 := by
    by_cases h1 : (cu l).byteS.e = 0
    · exact h1
    · rw [hf _ _ h1] at h; exact h
  obtain ⟨_, _, t, h2, h3⟩ := byte_ok h1
  refine ⟨_, t, h2, ?_⟩
  show f (cu l).byteV (cu l).byteS = _
  rw [h3]
theorem need_inv {f : Unit → (Cu → Cu × β)} {l : List Int} {ok : Bool} {e : Int} (he : e ≠ 0) (hf : ∀ a, Dd (f a)) (h : (Rd.bind (Rd.need ok e) f (cu l)).1.e = 0) : ok = true ∧ Rd.bind (Rd.need ok e) f (cu l) = f () (cu l) := by
  have h : (f () ((cu l).need ok e)).1.e = 0 := h
  have h1 : ((cu l).need ok e).e = 0 := by
    by_cases h1 : ((cu l).need ok e).e = 0
    · exact h1
    · rw [hf _ _ h1] at h; exact h
  obtain ⟨_, h2, h3⟩ := need_ok he h1
  refine ⟨h2, ?_⟩
  show f () ((cu l).need ok e) = _
  rw [h3]
theorem bytes_inv {f : List Int → (Cu → Cu × β)} {l : List Int} {n : Int} (hf : ∀ a, Dd (f a)) (h : (Rd.bind (Rd.bytes n) f (cu l)).1.e = 0) : 0 ≤ n ∧ n ≤ (l.length : Int) ∧ Rd.bind (Rd.bytes n) f (cu l) = f (l.take n.toNat) (cu (l.drop n.toNat)) := by
  have h : (f ((cu l).bytesV n) ((cu l).bytesS n)).1.e = 0 := h
  have h1 : ((cu l).bytesS n).e = 0 := by
    by_cases h1 : ((cu l).bytesS n).e = 0
    · exact h1
    · rw [hf _ _ h1] at h; exact h
  obtain ⟨_, _, h2, h3, h4, h5⟩ := bytes_ok h1
  refine ⟨h2, h3, ?_⟩
  show f ((cu l).bytesV n) ((cu l).bytesS n) = _
  rw [h4, h5]
  rfl
theorem byte_run (f : Int → (Cu → Cu × β)) (x : Int) (t : List Int) : Rd.bind Rd.byte f (cu (x :: t)) = f x (cu t) := by
  show f (cu (x :: t)).byteV (cu (x :: t)).byteS = _
  rw [byteV_cons, byteS_cons]
theorem need_run (f : Unit → (Cu → Cu × β)) {ok : Bool} (h : ok = true) (e : Int) (c : Cu) : Rd.bind (Rd.need ok e) f c = f () c := by
  show f () (c.need ok e) = _
  rw [h, need_true]
theorem bytes_run (f : List Int → (Cu → Cu × β)) (u t : List Int) {n : Int} (hn : n = (u.length : Int)) : Rd.bind (Rd.bytes n) f (cu (u ++ t)) = f u (cu t) := by
  show f ((cu (u ++ t)).bytesV n) ((cu (u ++ t)).bytesS n) = _
  rw [bytesV_app _ _ hn, bytesS_app _ _ hn]
theorem Dd.need (ok : Bool) (e : Int) : Dd (Rd.need ok e) := (Cl.need ok e).dead
theorem Dd.bytes (n : Int) : Dd (Rd.bytes n) := (Cl.bytes n).dead
theorem Dd.ret (a : α) : Dd (Rd.ret a) := (Cl.ret a).dead
end
def Rd.words (n : Int) : (Cu → Cu × (List Int)) := fun c => (c.wordsS n, c.wordsV n)
theorem wordsS_dead {c : Cu} (h : c.e ≠ 0) (n : Int) : (c.wordsS n).e = c.e := by
  unfold Cu.wordsS
  split
  · rfl
  · simp only [Cu.fail, fstE]
    rw [if_neg h]
theorem words_ok {c : Cu} {n : Int} (h : (c.wordsS n).e = 0) : c.e = 0 ∧ c.s = false ∧ 0 ≤ n ∧ 2 * n ≤ (c.xs.length : Int) ∧ c.wordsS n = cu (c.xs.drop (2 * n.toNat)) ∧ c.wordsV n = Take.words (c.xs.take (2 * n.toNat)) := by
  have he : c.e = 0 := by
    by_cases he : c.e = 0
    · exact he
    · rw [wordsS_dead he] at h; exact h
  by_cases hk : c.okW n = true
  · obtain ⟨h1, h2, h3⟩ := (Cu.okW_iff c n).1 hk
    refine ⟨he, h1, h2, h3, ?_, ?_⟩
    · unfold Cu.wordsS cu; rw [if_pos hk, h1, he]
    · unfold Cu.wordsV; rw [if_pos hk]
  · exfalso
    unfold Cu.wordsS at h
    rw [if_neg hk] at h
    simp only [Cu.fail, fstE] at h
    rw [if_pos he] at h
    exact absurd h (by decide)
theorem okW_cu (l : List Int) (n : Nat) (h : 2 * n ≤ l.length) : (cu l).okW (n : Int) = true := by
  rw [Cu.okW_iff]
  exact ⟨rfl, by omega, by show 2 * (n : Int) ≤ (l.length : Int); omega⟩
theorem wordsV_app (u t : List Int) {n : Int} (hn : 2 * n = (u.length : Int)) : (cu (u ++ t)).wordsV n = Take.words u := by
  obtain ⟨m, rfl⟩ := Int.eq_ofNat_of_zero_le (show 0 ≤ n by omega)
  unfold Cu.wordsV
  rw [if_pos (okW_cu _ _ (by rw [List.length_append]; omega))]
  show Take.words ((u ++ t).take (2 * (m : Int).toNat)) = _
  rw [show 2 * (m : Int).toNat = u.length by omega]
  simp
theorem wordsS_app (u t : List Int) {n : Int} (hn : 2 * n = (u.length : Int)) : (cu (u ++ t)).wordsS n = cu t := by
  obtain ⟨m, rfl⟩ := Int.eq_ofNat_of_zero_le (show 0 ≤ n by omega)
  unfold Cu.wordsS
  rw [if_pos (okW_cu _ _ (by rw [List.length_append]; omega))]
  show (⟨(u ++ t).drop (2 * (m : Int).toNat), _, _⟩ : Cu) = _
  rw [show 2 * (m : Int).toNat = u.length by omega]
  simp [cu]
theorem wordsS_cut {l : List Int} {n : Int} (h : (l.length : Int) < 2 * n ∨ n < 0) : ((cu l).wordsS n).e = 2 := by
  unfold Cu.wordsS
  have hk : ¬ (cu l).okW n = true := fun hk => by
    obtain ⟨_, h2, h3⟩ := (Cu.okW_iff _ _).1 hk
    have h3 : 2 * n ≤ (l.length : Int) := h3
    omega
  rw [if_neg hk]
  rfl
theorem Cl.words (n : Int) : Cl (Rd.words n) := by
  refine ⟨fun c h => wordsS_dead h n, fun xs h => ?_⟩
  obtain ⟨h1, h2, h3, h4, h5, h6⟩ := words_ok (c := cu xs) h
  have h4 : 2 * n ≤ (xs.length : Int) := h4
  have hl : 2 * n = ((xs.take (2 * n.toNat)).length : Int) := by rw [List.length_take]; omega
  refine ⟨xs.take (2 * n.toNat), xs.drop (2 * n.toNat), (List.take_append_drop _ _).symm, fun t => ?_, fun k hk => ?_⟩
  · show ((cu (xs.take (2 * n.toNat) ++ t)).wordsS n, (cu (xs.take (2 * n.toNat) ++ t)).wordsV n) = (cu t, (cu xs).wordsV n)
    rw [wordsS_app _ _ hl, wordsV_app _ _ hl, h6]
    rfl
  · refine wordsS_cut (.inl ?_)
    rw [List.length_take]
    omega
theorem words_inv {β : Type} {f : List Int → (Cu → Cu × β)} {l : List Int} {n : Int} (hf : ∀ a, Dd (f a)) (h : (Rd.bind (Rd.words n) f (cu l)).1.e = 0) : 0 ≤ n ∧ 2 * n ≤ (l.length : Int) ∧ Rd.bind (Rd.words n) f (cu l) = f (Take.words (l.take (2 * n.toNat))) (cu (l.drop (2 * n.toNat))) := by
  have h : (f ((cu l).wordsV n) ((cu l).wordsS n)).1.e = 0 := h
  have h1 : ((cu l).wordsS n).e = 0 := by
    by_cases h1 : ((cu l).wordsS n).e = 0
    · exact h1
    · rw [hf _ _ h1] at h; exact h
  obtain ⟨_, _, h2, h3, h4, h5⟩ := words_ok h1
  refine ⟨h2, h3, ?_⟩
  show f ((cu l).wordsV n) ((cu l).wordsS n) = _
  rw [h4, h5]
  rfl
theorem words_run {β : Type} (f : List Int → (Cu → Cu × β)) (u t : List Int) {n : Int} (hn : 2 * n = (u.length : Int)) : Rd.bind (Rd.words n) f (cu (u ++ t)) = f (Take.words u) (cu t) := by
  show f ((cu (u ++ t)).wordsV n) ((cu (u ++ t)).wordsS n) = _
  rw [wordsV_app _ _ hn, wordsS_app _ _ hn]
theorem Dd.words (n : Int) : Dd (Rd.words n) := (Cl.words n).dead
def Rd.word : (Cu → Cu × Int) := fun c => (c.wordS, c.wordV)
theorem two_words (a b : Int) : (Take.words [a, b]).headD 0 = a * 256 + b := by
  simp [Take.words, Take.pre, Take.wordAt, List.range_succ]
theorem wordV_cons (a b : Int) (t : List Int) : (cu (a :: b :: t)).wordV = a * 256 + b := by
  show ((cu ([a, b] ++ t)).wordsV 1).headD 0 = _
  rw [wordsV_app [a, b] t (n := 1) (by simp)]
  exact two_words a b
theorem wordS_cons (a b : Int) (t : List Int) : (cu (a :: b :: t)).wordS = cu t := wordsS_app [a, b] t (n := 1) (by simp)
theorem word_ok {c : Cu} (h : c.wordS.e = 0) : c.e = 0 ∧ c.s = false ∧ ∃ a b t, c.xs = a :: b :: t ∧ c.wordS = cu t ∧ c.wordV = a * 256 + b := by
  obtain ⟨h1, h2, h3, h4, h5, h6⟩ := words_ok (n := 1) h
  cases hx : c.xs with
  | nil => rw [hx] at h4; simp at h4
  | cons a t =>
  cases ht : t with
  | nil => rw [hx, ht] at h4; simp at h4
  | cons b r =>
    refine ⟨h1, h2, a, b, r, rfl, ?_, ?_⟩
    · show c.wordsS 1 = _
      rw [h5, hx, ht]; rfl
    · show (c.wordsV 1).headD 0 = _
      rw [h6, hx, ht]; exact two_words a b
theorem Cl.word : Cl Rd.word := by
  refine ⟨fun c h => wordsS_dead h 1, fun xs h => ?_⟩
  obtain ⟨h1, h2, a, b, t, h3, h4, h5⟩ := word_ok (c := cu xs) h
  have h3 : xs = a :: b :: t := h3
  refine ⟨[a, b], t, h3, fun t' => ?_, fun k hk => ?_⟩
  · show ((cu (a :: b :: t')).wordS, (cu (a :: b :: t')).wordV) = (cu t', (cu xs).wordV)
    rw [wordS_cons, wordV_cons, h5]
  · refine wordsS_cut (n := 1) (.inl ?_)
    rw [List.length_take]
    simp only [List.length_cons, List.length_nil] at hk ⊢
    omega
theorem Dd.word : Dd Rd.word := Cl.word.dead
theorem word_inv {β : Type} {f : Int → (Cu → Cu × β)} {l : List Int} (hf : ∀ a, Dd (f a)) (h : (Rd.bind Rd.word f (cu l)).1.e = 0) : ∃ a b t, l = a :: b :: t ∧ Rd.bind Rd.word f (cu l) = f (a * 256 + b) (cu t) := by
  have h : (f (cu l).wordV (cu l).wordS).1.e = 0 := h
  have h1 : (cu l).wordS.e = 0 := by
    by_cases h1 : (cu l).wordS.e = 0
    · exact h1
    · rw [hf _ _ h1] at h; exact h
  obtain ⟨_, _, a, b, t, h2, h3, h4⟩ := word_ok h1
  refine ⟨a, b, t, h2, ?_⟩
  show f (cu l).wordV (cu l).wordS = _
  rw [h3, h4]
theorem word_run {β : Type} (f : Int → (Cu → Cu × β)) {v : Int} (hv : 0 ≤ v ∧ v < 65536) (t : List Int) : Rd.bind Rd.word f (cu ((v / 256) % 256 :: v % 256 :: t)) = f v (cu t) := by
  show f (cu ((v / 256) % 256 :: v % 256 :: t)).wordV (cu ((v / 256) % 256 :: v % 256 :: t)).wordS = _
  rw [wordV_cons, wordS_cons, show v / 256 % 256 * 256 + v % 256 = v by omega]
end Go.Proofs.Ytalaochocmcbcaa.Cu
end
section
namespace Go.Proofs.Ytalaochocmcbcaa.Code
open Go.RowKit Go.Maps Go.Proofs.YtalaochocmcbcaaW.PrintWords Go.Proofs.YtalaochocmcbcaaW.PrintLast Go.Proofs.YtalaochocmcbcaaW.PrintMore
def setD (q : IntKind) (l : List Int) : DataW Unit := l.foldl (fun D x => D.put (.int q x) (.lit (.bool true))) (.map [])
theorem setD_snoc (q : IntKind) (l : List Int) (x : Int) : setD q (l ++ [x]) = (setD q l).put (.int q x) (.lit (.bool true)) := by unfold setD; rw [List.foldl_append]; rfl
theorem fold_at (q : IntKind) (c : Int) (l : List Int) : ∀ (D : DataW Unit) (b : Bool), IsMap D → D.atKey (.int q c) (.lit (.bool false)) = .lit (.bool b) → (l.foldl (fun D x => D.put (.int q x) (.lit (.bool true))) D).atKey (.int q c) (.lit (.bool false)) = .lit (.bool (b || l.contains c)) := by
  induction l with
  | nil => intro D b _ h; simpa using h
  | cons x l ih =>
    intro D b hD h
    rw [List.foldl_cons]
    by_cases e : x = c
    · subst e
      rw [ih _ true (hD.put _ _) (atKey_put_same hD (by trivial) _ _)]
      simp
    · rw [ih _ b (hD.put _ _) ((atKey_put_other (fun h => e (by injection h with _ h; exact h.symm)) _ _).trans h)]
      have : (c == x) = false := by rw [beq_eq_false_iff_ne]; exact fun h => e h.symm
      have h2 : ¬ c = x := fun h => e h.symm
      simp [h2]
theorem setD_at (q : IntKind) (l : List Int) (c : Int) : (setD q l).atKey (.int q c) (.lit (.bool false)) = .lit (.bool (l.contains c)) := by
  unfold setD
  rw [fold_at q c l _ false ⟨[], rfl⟩ rfl, Bool.false_or]
theorem plainElem_bool_inv {P : Program} {e : TypeId} (he : P.underlying e = some .bool) {v : Value} {z : DataW Unit × List MemPlace} (h : plainElem P e v = some z) : ∃ b, v = .bool b ∧ z = (.lit (.bool b), []) := by
  unfold plainElem at h
  rw [he] at h
  cases v <;> simp_all
theorem lawu16 : Keyed Try.prog 24 := int_keyed Try.underlying24
theorem zeroBu16 (w : World) : (zeroValue 4).run Try.prog w = .ok (.bool false) w := by kernel_rfl
theorem look_u16 {w : World} {b n : Nat} {l : List Int} (h : w.ownsMap Try.prog 24 (plainElem Try.prog 4) b n (setD .u16 l)) (c : Int) (hc : (Lit.int .u16 c).wf = true) :
    (Instr.lookup 84 (.map (some b)) (.int .u16 c) false).run Try.prog w = .ok (.bool (l.contains c)) w := by
  obtain ⟨vv, ps, hrun, hRv⟩ := h.lookup lawu16 Try.underlying84 (zeroBu16 _) (plainElem_bool Try.underlying4 false) (keyOf_int_mk Try.underlying24 hc)
  rw [setD_at] at hRv
  obtain ⟨bb, rfl, hbb⟩ := plainElem_bool_inv Try.underlying4 hRv
  simp only [Prod.mk.injEq, DataW.lit.injEq, Lit.bool.injEq] at hbb
  rw [hbb.1]
  exact hrun
theorem set_u16 (A : Option Addr) (c : Nat) (l : List Int) (w : World) (hr : Kd.C (Kd.int .u16) w A l.length l) (hs : l.length ≤ 1000) (hwf : ∀ x ∈ l, (Lit.int .u16 x).wf = true) :
    Calls Try.prog 58 #[.slice A l.length c] w fun e w' => ∃ b, e = .returned (.map (some b)) ∧ w'.ownsMap Try.prog 24 (plainElem Try.prog 4) b l.length (setD .u16 l) ∧ Below w.heap.size w w' := by
  have HR := Aside0.mk hr
  clear hr
  have hmm := @run_makeMap Try.prog
  go_enter Try.func58, Try.ntmps58
  go_wp2
  go_loopw [9] (fun i wr => ∃ k : Nat, k ≤ l.length ∧ i = .int .i64 k ∧ wr.ownsMap Try.prog 24 (plainElem Try.prog 4) w.heap.size k (setD .u16 (l.take k)) ∧ Below w.heap.size w wr)
    (fun i _ => l.length - (intOf i).toNat)
  case atStart => exact ⟨0, Nat.zero_le _, rfl, World.ownsMap_made _ _ _ _, (Below.refl _ _).alloc (Nat.le_refl _) _⟩
  case round =>
    obtain ⟨k, hk, rfl, hown, hnx⟩ := hrel
    by_cases hlt : k < l.length
    · obtain ⟨ad, rfl, hx⟩ := Kd.at_int HR.out (k : Int) (by omega) (by omega)
      have hcx := (hnx.cell (World.block_lt_of_cell? w _ hx)).trans hx
      rw [Int.toNat_natCast] at hcx
      have hw2 : (Lit.int .u16 (rd l (k : Int))).wf = true := by
        unfold rd
        rw [Int.toNat_natCast, List.getD_eq_getElem?_getD, List.getElem?_eq_getElem hlt]
        exact hwf _ (List.getElem_mem hlt)
      have hkey : keyOf Try.prog 24 (.int .u16 (rd l (k : Int))) = some (.int .u16 (rd l (k : Int))) := keyOf_int_mk Try.underlying24 hw2
      have hsn : (setD .u16 (l.take k)).put (.int .u16 (rd l (k : Int))) (.lit (.bool true)) = setD .u16 (l.take (k + 1)) := by
        rw [← setD_snoc]
        congr 1
        unfold rd
        rw [Int.toNat_natCast, List.getD_eq_getElem?_getD, List.getElem?_eq_getElem hlt, List.take_succ_eq_append_getElem hlt]; rfl
      have HSN := Aside0.mk hsn
      clear hsn hx hw2
      go_wp2_with (first
        | (at_mapUpdate; refine wpList_mapUpdate_own _ rfl _ _ _ 84 rfl 24 4 lawu16 Try.underlying84 _ w.heap.size k _ rfl hown (by unfold maxLen; omega) _ _ _ rfl rfl hkey _ [] (plainElem_bool Try.underlying4 _) ?_; intro w1 hown1 hgrow1)
        | go_in)
      go_roundw
      case rel => exact ⟨k + 1, by omega, by go_num, HSN.out ▸ hown1, hnx.grown hgrow1 hnx.size (fun j hj => by cases hj; exact Nat.le_refl _)⟩
      case measure => simp [intOf]; omega
    · go_wp2
      go_ret
      have : k = l.length := by omega
      subst this
      rw [List.take_length] at hown
      exact ⟨_, rfl, hown, hnx⟩
def bitsubL : List Int := [0, 1, 2, 3, 4, 10, 11, 12, 13, 14, 15, 16, 17, 18, 20]
theorem bitsub_any (c : Int) (w : World) (hc : (Lit.int .u16 c).wf = true) :
    Calls Try.prog 41 #[.int .u16 c] w fun e w' => e = .returned (.bool (bitsubL.contains c)) ∧ Below w.heap.size w w' := by
  have HW := Aside0.mk hc
  clear hc
  go_enter Try.func41, Try.ntmps41
  go_wp2_with (first
    | ((with_reducible refine gate_dst (N := 3) rfl ?_); (try (refine gate_guard (by rfl) ?_; dsimp only)); refine Kd.R_lit (Kd.int .u16) (w0 := w) w.heap.size 24 ?hg (N := 3) ?hd (xs := bitsubL) (inner := [.int .u16 0, .int .u16 1, .int .u16 2, .int .u16 3, .int .u16 4, .int .u16 10, .int .u16 11, .int .u16 12, .int .u16 13, .int .u16 14, .int .u16 15, .int .u16 16, .int .u16 17, .int .u16 18, .int .u16 20]) (ok := fun _ => True) (okp := fun _ => True) ?hr ?hp (fun _ hk => hk) trivial (Below.refl _ _) (Nat.le_refl _) (by decide) ?_; (case hd => rfl); (case hg => rfl); (case hr => first | (go_simp; done) | (go_simp; rfl)); (case hp => exact (Reps.one (show Kd.M (Kd.int .u16) _ _ _ 0 [.int .u16 0] from rfl) (Reps.one (show Kd.M (Kd.int .u16) _ _ _ 1 [.int .u16 1] from rfl) (Reps.one (show Kd.M (Kd.int .u16) _ _ _ 2 [.int .u16 2] from rfl) (Reps.one (show Kd.M (Kd.int .u16) _ _ _ 3 [.int .u16 3] from rfl) (Reps.one (show Kd.M (Kd.int .u16) _ _ _ 4 [.int .u16 4] from rfl) (Reps.one (show Kd.M (Kd.int .u16) _ _ _ 10 [.int .u16 10] from rfl) (Reps.one (show Kd.M (Kd.int .u16) _ _ _ 11 [.int .u16 11] from rfl) (Reps.one (show Kd.M (Kd.int .u16) _ _ _ 12 [.int .u16 12] from rfl) (Reps.one (show Kd.M (Kd.int .u16) _ _ _ 13 [.int .u16 13] from rfl) (Reps.one (show Kd.M (Kd.int .u16) _ _ _ 14 [.int .u16 14] from rfl) (Reps.one (show Kd.M (Kd.int .u16) _ _ _ 15 [.int .u16 15] from rfl) (Reps.one (show Kd.M (Kd.int .u16) _ _ _ 16 [.int .u16 16] from rfl) (Reps.one (show Kd.M (Kd.int .u16) _ _ _ 17 [.int .u16 17] from rfl) (Reps.one (show Kd.M (Kd.int .u16) _ _ _ 18 [.int .u16 18] from rfl) (Reps.one (show Kd.M (Kd.int .u16) _ _ _ 20 [.int .u16 20] from rfl) (Reps.none _ _))))))))))))))))); intro v1 w1 ho hb hg_ hnew_; clear hg_ hnew_; have HO := Aside0.mk ho; have HB := Aside0.mk hb; clear ho hb; obtain ⟨Ao, co, eo⟩ := Kd.R_slice HO.out; subst eo)
    | (go_at_call 58; (with_reducible refine (set_u16 Ao co bitsubL _ (Kd.R_reads' HO.out).2.2 (by decide) (by decide)).mono ?_); rintro e w2 ⟨b, rfl, hown, hb2⟩; have HB2 := Aside0.mk (below_step HB.out hb2); have hrun := look_u16 hown c HW.out; clear hb2 hown)
    | go_in)
  go_ret
  exact ⟨by first | rfl | (simp; done), HB2.out⟩
end Go.Proofs.Ytalaochocmcbcaa.Code
end
section
namespace Go.Proofs.Ytalaochocmcbcaa.Diag
open Go.RowKit Go.Maps Go.Proofs.Ytalaochocmcbcaa.P Go.Proofs.Ytalaochocmcbcaa.E Go.Proofs.Ytalaochocmcbcaa.Cur Go.Proofs.Ytalaochocmcbcaa.Cu Go.Proofs.Ytalaochocmcbcaa.Same Go.Proofs.Ytalaochocmcbcaa.Code Go.Proofs.YtalaochocmcbcaaW.PrintWords Go.Proofs.YtalaochocmcbcaaW.PrintLast Go.Proofs.YtalaochocmcbcaaW.PrintMore
def leftR : (Cu → Cu × Int) := fun c => (c, (c.xs.length : Int))
def mayB (dir s v : Int) : Bool := if (s = 2 ∨ (11 ≤ s ∧ s ≤ 18)) ∧ dir = 1 then true else if s = 1 then (v == 0 || v == 65280) else if s = 3 then (v % 256 == 0) else v == 0
def subB (s : Int) : Bool := bitsubL.contains s
theorem sub_c {s : Int} (hs : (Lit.int .u16 s).wf = true) (w : World) : Calls Try.prog 41 #[.int .u16 s] w fun e w' => e = .returned (.bool (subB s)) ∧ Below w.heap.size w w' := bitsub_any s w hs
def echoR (m : Msg) : (Cu → Cu × Msg) := Rd.bind leftR fun n => Rd.bind (Rd.need (n % 2 == 0 && (decide (2 ≤ n) && decide (n ≤ 250))) 5) fun _ => Rd.bind (Rd.words (n / 2)) fun l => Rd.ret { m with words := l }
def lineR (dir : Int) (m : Msg) : (Cu → Cu × Msg) := Rd.bind Rd.word fun s => Rd.bind (Rd.need (subB s && (dir == 0 || s != 4)) 8) fun _ => if s = 0 then echoR { m with sub := s } else
  Rd.bind (Rd.words 1) fun l => Rd.bind (Rd.need (l.length == 1 && mayB dir s (l.headD 0)) 6) fun _ => Rd.ret { m with sub := s, words := l }
def busyR : (Cu → Cu × Int) := Rd.bind Rd.word fun s => Rd.bind (Rd.need (s == 0 || s == 65535) 6) fun _ => Rd.ret s
def eventsR (m : Msg) : (Cu → Cu × Msg) := Rd.bind busyR fun s => Rd.bind Rd.word fun e => Rd.ret { m with status := s, events := e }
def logsR (m : Msg) : (Cu → Cu × Msg) := Rd.bind Rd.byte fun n => Rd.bind (Rd.need (decide (6 ≤ n) && decide (n ≤ 70)) 5) fun _ => Rd.bind busyR fun s => Rd.bind Rd.word fun e => Rd.bind Rd.word fun g => Rd.bind (Rd.bytes (n - 6)) fun l => Rd.ret { m with status := s, events := e, messages := g, data := l }
def nameR (m : Msg) : (Cu → Cu × Msg) := Rd.bind Rd.byte fun n => Rd.bind (Rd.need (decide (1 ≤ n) && decide (n ≤ 251)) 5) fun _ => Rd.bind (Rd.bytes n) fun l => Rd.ret { m with data := l }
def ansR (m : Msg) : (Cu → Cu × Msg) := if m.code = 7 then Rd.bind Rd.byte fun v => Rd.ret { m with value := v } else if m.code = 11 then eventsR m else if m.code = 12 then logsR m else if m.code = 17 then nameR m else Rd.ret m
def bodyR (dir : Int) (m : Msg) : (Cu → Cu × Msg) := if m.code = 8 then lineR dir m else if dir = 1 then ansR m else Rd.ret m
def isCode (code : Int) : Prop := code = 7 ∨ code = 8 ∨ code = 11 ∨ code = 12 ∨ code = 17
instance (code : Int) : Decidable (isCode code) := by unfold isCode; infer_instance
def parse (dir code : Int) (bs : List Int) : Msg × Int :=
  if dir ≠ 0 ∧ dir ≠ 1 then (zeroM, 1) else if ¬ isCode code then (zeroM, 4) else
  if (bodyR dir { zeroM with code := code } (cu bs)).1.fin.e ≠ 0 then (zeroM, (bodyR dir { zeroM with code := code } (cu bs)).1.fin.e) else ((bodyR dir { zeroM with code := code } (cu bs)).2, 0)
open Classical in
noncomputable def RV (v : Value) : Option (DataW Unit × List MemPlace) := if v = (.func (.func 61) #[] #[]) then some (.lit (.int .i64 2), []) else if v = (.func (.func 62) #[] #[]) then some (.lit (.int .i64 3), []) else none
theorem RV_2 : RV (.func (.func 61) #[] #[]) = some (.lit (.int .i64 2), []) := if_pos rfl
theorem RV_3 : RV (.func (.func 62) #[] #[]) = some (.lit (.int .i64 3), []) := by
  unfold RV
  rw [if_neg (by simp), if_pos rfl]
theorem RV_inv {v : Value} {y : DataW Unit × List MemPlace} (h : RV v = some y) : (y.1 = .lit (.int .i64 2) → v = (.func (.func 61) #[] #[])) ∧ (y.1 = .lit (.int .i64 3) → v = (.func (.func 62) #[] #[])) := by
  unfold RV at h
  split at h
  · rename_i e; cases h; exact ⟨fun _ => e, fun e => by simp at e⟩
  split at h
  · rename_i e; cases h; exact ⟨fun e => by simp at e, fun _ => e⟩
  · cases h
def dl (n : Int) : DataW Unit := .lit (.int .i64 n)
def D0 : DataW Unit := .map []
def D2 : DataW Unit := (D0.put (.int .u16 1) (dl 2)).put (.int .u16 3) (dl 3)
theorem D2_at (c : Int) (zd : DataW Unit) : D2.atKey (.int .u16 c) zd = if c = 3 then dl 3 else if c = 1 then dl 2 else zd := by
  have h0 : IsMap D0 := ⟨[], rfl⟩
  have ne : ∀ a b : Int, a ≠ b → Lit.int .u16 a ≠ Lit.int .u16 b := fun a b h e => h (by injection e)
  unfold D2
  by_cases h : c = 3
  · subst h; rw [if_pos rfl]; exact atKey_put_same (h0.put _ _) (by trivial) _ _
  rw [if_neg h, atKey_put_other (ne _ _ h)]
  by_cases h : c = 1
  · subst h; rw [if_pos rfl]; exact atKey_put_same h0 (by trivial) _ _
  rw [if_neg h, atKey_put_other (ne _ _ h)]
  rfl
theorem lawk : Keyed Try.prog 24 := int_keyed Try.underlying24
theorem zeroF (w : World) : (zeroValue 45).run Try.prog w = .ok .nilFunc w := by kernel_rfl
theorem look_m {w : World} {b n : Nat} (h : w.ownsMap Try.prog 24 RV b n D2) (c : Int) (hc : (Lit.int .u16 c).wf = true) :
    (Instr.lookup 87 (.map (some b)) (.int .u16 c) true).run Try.prog w = .ok (if c = 1 then .tuple #[(.func (.func 61) #[] #[]), .bool true] else if c = 3 then .tuple #[(.func (.func 62) #[] #[]), .bool true] else .tuple #[.nilFunc, .bool false]) w := by
  obtain ⟨es, clock, hb, F, _, hD⟩ := h
  rcases fit_look true lawk Try.underlying87 (zeroF _) hb F (keyOf_int_mk Try.underlying24 hc) with ⟨hrun, _, hat⟩ | ⟨e0, y, _, _, hrun, hRv, hat, _⟩
  · rw [if_pos rfl] at hrun
    rw [hrun]
    have ha := hat (dl 77)
    rw [← hD, D2_at] at ha
    have n3 : ¬ c = 3 := fun e => by rw [if_pos e] at ha; simp [dl] at ha
    rw [if_neg n3] at ha
    have n1 : ¬ c = 1 := fun e => by rw [if_pos e] at ha; simp [dl] at ha
    rw [if_neg n1, if_neg n3]
  · rw [if_pos rfl] at hrun
    rw [hrun]
    have R := RV_inv hRv
    have ha := hat (dl 77)
    have hb := hat (dl 78)
    rw [← hD, D2_at] at ha hb
    by_cases h3 : c = 3
    · rw [if_pos h3] at ha
      rw [if_neg (show ¬ c = 1 by omega), if_pos h3, R.2 ha.symm]
    rw [if_neg h3] at ha hb
    by_cases h1 : c = 1
    · rw [if_pos h1] at ha
      rw [if_pos h1, R.1 ha.symm]
    rw [if_neg h1] at ha hb
    exact absurd (ha.trans hb.symm) (by simp [dl])
theorem ev_insert {H : Type} {P : Program} (w : World) {ops : Array Oper} {rest : List Oper} {o : Oper} {a : Act} {Q : Exit → Act → World → Prop}
    (hg : o.guard = none) (m x v : Operand) (t : TypeId) (hop : o.op = Op.insert t m x v)
    (k e : TypeId) (K : Keyed P k) (ht : P.underlying t = some (.map k e)) (R : Value → Option (DataW H × List MemPlace)) (b n : Nat) (D : DataW H)
    (hm : a.eval m = .map (some b)) (hown : w.ownsMap P k R b n D) (hn : n < maxLen) (key val : Value) (kl : Lit) (hx : a.eval x = key) (hv : a.eval v = val) (hkey : keyOf P k key = some kl)
    (d : DataW H) (ps : List MemPlace) (hval : R val = some (d, ps))
    (hK : ∀ w', w'.ownsMap P k R b (n + 1) (D.put kl d) → w.grownBy w' (some b) → wpList P ops Q rest (a.put o.dst undef) w') :
    wpList P ops Q (o :: rest) a w := by
  refine wpList_plain hg fun K' hK' => ?_
  obtain ⟨w', hrun, r1, r2⟩ := hown.update K ht hn hkey hval
  unfold Oper.wp
  simp [execOp, hop, hm, hx, hv, hrun, Result.andThen]
  exact hK' _ _ (hK w' r1 r2)
theorem and255 {v : Int} (hv : 0 ≤ v ∧ v < 65536) : bits .and .u16 v 255 = v % 256 := by
  have h := bits_mask .u16 16 (by decide) (fun n h0 h1 => by rw [IntKind.wrap_u16]; omega) 8 (by decide) v hv.1 (by have := hv.2; omega)
  exact h
theorem may_0_1  {v : Int} (hv : 0 ≤ v ∧ v < 65536) (w : World) :
    Calls Try.prog 43 #[.int .i64 0, .int .u16 1, .int .u16 v] w fun en w' => en = .returned (.bool (v == 0 || v == 65280)) ∧ Below w.heap.size w w' := by
  have HV := Aside0.mk hv
  clear hv
  have hmm := @run_makeMap Try.prog
  have hmf : ∀ (fn : Fn) (first cap : Array Value) (w : World), (Instr.makeFunc fn first cap).run Try.prog w = .ok (.func fn first cap) w := fun _ _ _ _ => rfl
  go_enter Try.func43, Try.ntmps43
  go_upto_region 2 with (fail)
  clear hmf
  have O : Aside0 (((w.alloc (.cells #[.int .u16 v] 24 (0, 0))).alloc (.map #[] 0)).ownsMap Try.prog 24 RV (w.heap.size + 1) 0 D0) := ⟨by have h := World.ownsMap_made (P := Try.prog) (k := 24) (R := RV) (w.alloc (.cells #[.int .u16 v] 24 (0, 0))); rw [World.size_alloc] at h; exact h⟩
  have HB := Aside0.mk (((Below.refl w.heap.size w).alloc (Nat.le_refl _) (.cells #[.int .u16 v] 24 (0, 0))).alloc (by rw [World.size_alloc]; omega) (.map #[] 0))
  have KB := Aside0.mk (show ((w.alloc (.cells #[.int .u16 v] 24 (0, 0))).alloc (.map #[] 0)).heap[w.heap.size]? = some (.cells #[.int .u16 v] 24 (0, 0)) from blk_below (blk_new w (.cells #[.int .u16 v] 24 (0, 0))) (below_alloc (Below.refl _ _) (.map #[] 0)))
  go_upto_region 3 with (first | ((with_reducible refine gate_op (u := .insert 87 (.tmp 13) (.const (.int .u16 1)) (.func 61)) rfl ?_); refine ev_insert _ rfl _ _ _ 87 rfl 24 45 lawk Try.underlying87 RV (w.heap.size + 1) 0 _ rfl O.out (by unfold maxLen; omega) _ (.func (.func 61) #[] #[]) _ rfl rfl (keyOf_int_mk Try.underlying24 (by decide)) _ [] RV_2 ?_; intro x0 o_ g_; have kb_ := Aside0.mk (blk_grown KB.out g_ (fun e => by injection e with e; omega)); have n0_ := Aside0.mk o_; have n1_ := Aside0.mk (HB.out.grown g_ HB.out.size (fun j hj => by cases hj; omega)); clear O HB o_ g_ KB; have O := n0_; have HB := n1_; have KB := kb_; clear n0_ n1_ kb_) | ((with_reducible refine gate_op (u := .insert 87 (.tmp 13) (.const (.int .u16 3)) (.func 62)) rfl ?_); refine ev_insert _ rfl _ _ _ 87 rfl 24 45 lawk Try.underlying87 RV (w.heap.size + 1) 1 _ rfl O.out (by unfold maxLen; omega) _ (.func (.func 62) #[] #[]) _ rfl rfl (keyOf_int_mk Try.underlying24 (by decide)) _ [] RV_3 ?_; intro x1 o_ g_; have kb_ := Aside0.mk (blk_grown KB.out g_ (fun e => by injection e with e; omega)); have n0_ := Aside0.mk o_; have n1_ := Aside0.mk (HB.out.grown g_ HB.out.size (fun j hj => by cases hj; omega)); clear O HB o_ g_ KB; have O := n0_; have HB := n1_; have KB := kb_; clear n0_ n1_ kb_))
  have lk : (Instr.lookup 87 (.map (some (w.heap.size + 1))) (.int .u16 1) true).run Try.prog x1 = .ok (.tuple #[(.func (.func 61) #[] #[]), .bool true]) x1 := by
    have h := look_m O.out 1 (by decide)
    exact h
  clear O
  have n0_ := Aside0.mk lk
  clear lk
  have lk := n0_.out
  clear n0_
  go_upto_region 9 with (fail)
  clear lk hmm
  have kv : x1.cell? ⟨w.heap.size, 0, none⟩ = some (.int .u16 v) := (blk_cell KB.out 0).trans rfl
  cases hz_ : (v == 0) with
  | true =>
    go_wp2_with go_in
    go_ret
    exact ⟨by first | rfl | (rw [hz_]; rfl) | (simp [hz_]; done), HB.out⟩
  | false =>
    go_wp2_with go_in
    go_ret
    exact ⟨by rw [hz_]; first | rfl | (simp [hz_]; done), HB.out⟩
theorem may_0_2  {v : Int} (hv : 0 ≤ v ∧ v < 65536) (w : World) :
    Calls Try.prog 43 #[.int .i64 0, .int .u16 2, .int .u16 v] w fun en w' => en = .returned (.bool (v == 0)) ∧ Below w.heap.size w w' := by
  have HV := Aside0.mk hv
  clear hv
  have hmm := @run_makeMap Try.prog
  have hmf : ∀ (fn : Fn) (first cap : Array Value) (w : World), (Instr.makeFunc fn first cap).run Try.prog w = .ok (.func fn first cap) w := fun _ _ _ _ => rfl
  go_enter Try.func43, Try.ntmps43
  go_upto_region 2 with (fail)
  clear hmf
  have O : Aside0 (((w.alloc (.cells #[.int .u16 v] 24 (0, 0))).alloc (.map #[] 0)).ownsMap Try.prog 24 RV (w.heap.size + 1) 0 D0) := ⟨by have h := World.ownsMap_made (P := Try.prog) (k := 24) (R := RV) (w.alloc (.cells #[.int .u16 v] 24 (0, 0))); rw [World.size_alloc] at h; exact h⟩
  have HB := Aside0.mk (((Below.refl w.heap.size w).alloc (Nat.le_refl _) (.cells #[.int .u16 v] 24 (0, 0))).alloc (by rw [World.size_alloc]; omega) (.map #[] 0))
  have KB := Aside0.mk (show ((w.alloc (.cells #[.int .u16 v] 24 (0, 0))).alloc (.map #[] 0)).heap[w.heap.size]? = some (.cells #[.int .u16 v] 24 (0, 0)) from blk_below (blk_new w (.cells #[.int .u16 v] 24 (0, 0))) (below_alloc (Below.refl _ _) (.map #[] 0)))
  go_upto_region 3 with (first | ((with_reducible refine gate_op (u := .insert 87 (.tmp 13) (.const (.int .u16 1)) (.func 61)) rfl ?_); refine ev_insert _ rfl _ _ _ 87 rfl 24 45 lawk Try.underlying87 RV (w.heap.size + 1) 0 _ rfl O.out (by unfold maxLen; omega) _ (.func (.func 61) #[] #[]) _ rfl rfl (keyOf_int_mk Try.underlying24 (by decide)) _ [] RV_2 ?_; intro x0 o_ g_; have kb_ := Aside0.mk (blk_grown KB.out g_ (fun e => by injection e with e; omega)); have n0_ := Aside0.mk o_; have n1_ := Aside0.mk (HB.out.grown g_ HB.out.size (fun j hj => by cases hj; omega)); clear O HB o_ g_ KB; have O := n0_; have HB := n1_; have KB := kb_; clear n0_ n1_ kb_) | ((with_reducible refine gate_op (u := .insert 87 (.tmp 13) (.const (.int .u16 3)) (.func 62)) rfl ?_); refine ev_insert _ rfl _ _ _ 87 rfl 24 45 lawk Try.underlying87 RV (w.heap.size + 1) 1 _ rfl O.out (by unfold maxLen; omega) _ (.func (.func 62) #[] #[]) _ rfl rfl (keyOf_int_mk Try.underlying24 (by decide)) _ [] RV_3 ?_; intro x1 o_ g_; have kb_ := Aside0.mk (blk_grown KB.out g_ (fun e => by injection e with e; omega)); have n0_ := Aside0.mk o_; have n1_ := Aside0.mk (HB.out.grown g_ HB.out.size (fun j hj => by cases hj; omega)); clear O HB o_ g_ KB; have O := n0_; have HB := n1_; have KB := kb_; clear n0_ n1_ kb_))
  have lk : (Instr.lookup 87 (.map (some (w.heap.size + 1))) (.int .u16 2) true).run Try.prog x1 = .ok (.tuple #[.nilFunc, .bool false]) x1 := by
    have h := look_m O.out 2 (by decide)
    rw [if_neg (by decide), if_neg (by decide)] at h
    exact h
  clear O
  have n0_ := Aside0.mk lk
  clear lk
  have lk := n0_.out
  clear n0_
  go_upto_region 9 with (fail)
  clear lk hmm
  have kv : x1.cell? ⟨w.heap.size, 0, none⟩ = some (.int .u16 v) := (blk_cell KB.out 0).trans rfl
  go_wp2_with go_in
  go_ret
  exact ⟨by first | rfl | (simp; done), HB.out⟩
theorem may_0_3  {v : Int} (hv : 0 ≤ v ∧ v < 65536) (w : World) :
    Calls Try.prog 43 #[.int .i64 0, .int .u16 3, .int .u16 v] w fun en w' => en = .returned (.bool (v % 256 == 0)) ∧ Below w.heap.size w w' := by
  have HV := Aside0.mk hv
  clear hv
  have hmm := @run_makeMap Try.prog
  have hmf : ∀ (fn : Fn) (first cap : Array Value) (w : World), (Instr.makeFunc fn first cap).run Try.prog w = .ok (.func fn first cap) w := fun _ _ _ _ => rfl
  go_enter Try.func43, Try.ntmps43
  go_upto_region 2 with (fail)
  clear hmf
  have O : Aside0 (((w.alloc (.cells #[.int .u16 v] 24 (0, 0))).alloc (.map #[] 0)).ownsMap Try.prog 24 RV (w.heap.size + 1) 0 D0) := ⟨by have h := World.ownsMap_made (P := Try.prog) (k := 24) (R := RV) (w.alloc (.cells #[.int .u16 v] 24 (0, 0))); rw [World.size_alloc] at h; exact h⟩
  have HB := Aside0.mk (((Below.refl w.heap.size w).alloc (Nat.le_refl _) (.cells #[.int .u16 v] 24 (0, 0))).alloc (by rw [World.size_alloc]; omega) (.map #[] 0))
  have KB := Aside0.mk (show ((w.alloc (.cells #[.int .u16 v] 24 (0, 0))).alloc (.map #[] 0)).heap[w.heap.size]? = some (.cells #[.int .u16 v] 24 (0, 0)) from blk_below (blk_new w (.cells #[.int .u16 v] 24 (0, 0))) (below_alloc (Below.refl _ _) (.map #[] 0)))
  go_upto_region 3 with (first | ((with_reducible refine gate_op (u := .insert 87 (.tmp 13) (.const (.int .u16 1)) (.func 61)) rfl ?_); refine ev_insert _ rfl _ _ _ 87 rfl 24 45 lawk Try.underlying87 RV (w.heap.size + 1) 0 _ rfl O.out (by unfold maxLen; omega) _ (.func (.func 61) #[] #[]) _ rfl rfl (keyOf_int_mk Try.underlying24 (by decide)) _ [] RV_2 ?_; intro x0 o_ g_; have kb_ := Aside0.mk (blk_grown KB.out g_ (fun e => by injection e with e; omega)); have n0_ := Aside0.mk o_; have n1_ := Aside0.mk (HB.out.grown g_ HB.out.size (fun j hj => by cases hj; omega)); clear O HB o_ g_ KB; have O := n0_; have HB := n1_; have KB := kb_; clear n0_ n1_ kb_) | ((with_reducible refine gate_op (u := .insert 87 (.tmp 13) (.const (.int .u16 3)) (.func 62)) rfl ?_); refine ev_insert _ rfl _ _ _ 87 rfl 24 45 lawk Try.underlying87 RV (w.heap.size + 1) 1 _ rfl O.out (by unfold maxLen; omega) _ (.func (.func 62) #[] #[]) _ rfl rfl (keyOf_int_mk Try.underlying24 (by decide)) _ [] RV_3 ?_; intro x1 o_ g_; have kb_ := Aside0.mk (blk_grown KB.out g_ (fun e => by injection e with e; omega)); have n0_ := Aside0.mk o_; have n1_ := Aside0.mk (HB.out.grown g_ HB.out.size (fun j hj => by cases hj; omega)); clear O HB o_ g_ KB; have O := n0_; have HB := n1_; have KB := kb_; clear n0_ n1_ kb_))
  have lk : (Instr.lookup 87 (.map (some (w.heap.size + 1))) (.int .u16 3) true).run Try.prog x1 = .ok (.tuple #[(.func (.func 62) #[] #[]), .bool true]) x1 := by
    have h := look_m O.out 3 (by decide)
    exact h
  clear O
  have n0_ := Aside0.mk lk
  clear lk
  have lk := n0_.out
  clear n0_
  go_upto_region 9 with (fail)
  clear lk hmm
  have kv : x1.cell? ⟨w.heap.size, 0, none⟩ = some (.int .u16 v) := (blk_cell KB.out 0).trans rfl
  go_wp2_with go_in
  go_ret
  exact ⟨by rw [← and255 HV.out]; first | rfl | (simp; done), HB.out⟩
theorem may_0_mid {s : Int} (hs : 0 ≤ s ∧ s < 65536) {v : Int} (hv : 0 ≤ v ∧ v < 65536) (h1 : 11 ≤ s) (h2 : s ≤ 18) (w : World) :
    Calls Try.prog 43 #[.int .i64 0, .int .u16 s, .int .u16 v] w fun en w' => en = .returned (.bool (v == 0)) ∧ Below w.heap.size w w' := by
  have HS := Aside0.mk hs
  have HV := Aside0.mk hv
  clear hs hv
  have e2 : (s == 2) = false := beq_eq_false_iff_ne.2 (by omega)
  have e11 : decide (s ≥ 11) = true := decide_eq_true (by omega)
  have e18 : decide (s ≤ 18) = true := decide_eq_true (by omega)
  have e11b : decide (11 ≤ s) = true := e11
  have HN := Aside0.mk (show s ≠ 1 ∧ s ≠ 3 by omega)
  clear h1 h2
  have hmm := @run_makeMap Try.prog
  have hmf : ∀ (fn : Fn) (first cap : Array Value) (w : World), (Instr.makeFunc fn first cap).run Try.prog w = .ok (.func fn first cap) w := fun _ _ _ _ => rfl
  go_enter Try.func43, Try.ntmps43
  go_upto_region 2 with (fail)
  clear hmf
  have O : Aside0 (((w.alloc (.cells #[.int .u16 v] 24 (0, 0))).alloc (.map #[] 0)).ownsMap Try.prog 24 RV (w.heap.size + 1) 0 D0) := ⟨by have h := World.ownsMap_made (P := Try.prog) (k := 24) (R := RV) (w.alloc (.cells #[.int .u16 v] 24 (0, 0))); rw [World.size_alloc] at h; exact h⟩
  have HB := Aside0.mk (((Below.refl w.heap.size w).alloc (Nat.le_refl _) (.cells #[.int .u16 v] 24 (0, 0))).alloc (by rw [World.size_alloc]; omega) (.map #[] 0))
  have KB := Aside0.mk (show ((w.alloc (.cells #[.int .u16 v] 24 (0, 0))).alloc (.map #[] 0)).heap[w.heap.size]? = some (.cells #[.int .u16 v] 24 (0, 0)) from blk_below (blk_new w (.cells #[.int .u16 v] 24 (0, 0))) (below_alloc (Below.refl _ _) (.map #[] 0)))
  go_upto_region 3 with (first | ((with_reducible refine gate_op (u := .insert 87 (.tmp 13) (.const (.int .u16 1)) (.func 61)) rfl ?_); refine ev_insert _ rfl _ _ _ 87 rfl 24 45 lawk Try.underlying87 RV (w.heap.size + 1) 0 _ rfl O.out (by unfold maxLen; omega) _ (.func (.func 61) #[] #[]) _ rfl rfl (keyOf_int_mk Try.underlying24 (by decide)) _ [] RV_2 ?_; intro x0 o_ g_; have kb_ := Aside0.mk (blk_grown KB.out g_ (fun e => by injection e with e; omega)); have n0_ := Aside0.mk o_; have n1_ := Aside0.mk (HB.out.grown g_ HB.out.size (fun j hj => by cases hj; omega)); clear O HB o_ g_ KB; have O := n0_; have HB := n1_; have KB := kb_; clear n0_ n1_ kb_) | ((with_reducible refine gate_op (u := .insert 87 (.tmp 13) (.const (.int .u16 3)) (.func 62)) rfl ?_); refine ev_insert _ rfl _ _ _ 87 rfl 24 45 lawk Try.underlying87 RV (w.heap.size + 1) 1 _ rfl O.out (by unfold maxLen; omega) _ (.func (.func 62) #[] #[]) _ rfl rfl (keyOf_int_mk Try.underlying24 (by decide)) _ [] RV_3 ?_; intro x1 o_ g_; have kb_ := Aside0.mk (blk_grown KB.out g_ (fun e => by injection e with e; omega)); have n0_ := Aside0.mk o_; have n1_ := Aside0.mk (HB.out.grown g_ HB.out.size (fun j hj => by cases hj; omega)); clear O HB o_ g_ KB; have O := n0_; have HB := n1_; have KB := kb_; clear n0_ n1_ kb_))
  have lk : (Instr.lookup 87 (.map (some (w.heap.size + 1))) (.int .u16 s) true).run Try.prog x1 = .ok (.tuple #[.nilFunc, .bool false]) x1 := by
    have h := look_m O.out s (by simp [Lit.wf, IntKind.min, IntKind.max, IntKind.signed, IntKind.bits]; have := HS.out; omega)
    rw [if_neg HN.out.1, if_neg HN.out.2] at h
    exact h
  clear O
  have n0_ := Aside0.mk lk
  clear lk
  have lk := n0_.out
  clear n0_
  go_upto_region 9 with (fail)
  clear lk hmm
  have kv : x1.cell? ⟨w.heap.size, 0, none⟩ = some (.int .u16 v) := (blk_cell KB.out 0).trans rfl
  go_wp2_with go_in
  go_ret
  exact ⟨by first | rfl | (simp; done), HB.out⟩
theorem may_0_lo {s : Int} (hs : 0 ≤ s ∧ s < 65536) {v : Int} (hv : 0 ≤ v ∧ v < 65536) (h1 : s < 11) (h2 : s ≠ 1) (h3 : s ≠ 2) (h4 : s ≠ 3) (w : World) :
    Calls Try.prog 43 #[.int .i64 0, .int .u16 s, .int .u16 v] w fun en w' => en = .returned (.bool (v == 0)) ∧ Below w.heap.size w w' := by
  have HS := Aside0.mk hs
  have HV := Aside0.mk hv
  clear hs hv
  have e2 : (s == 2) = false := beq_eq_false_iff_ne.2 (by omega)
  have e11 : decide (s ≥ 11) = false := decide_eq_false (by omega)
  have e11b : decide (11 ≤ s) = false := e11
  have HN := Aside0.mk (show s ≠ 1 ∧ s ≠ 3 by omega)
  clear h1 h2 h3 h4
  have hmm := @run_makeMap Try.prog
  have hmf : ∀ (fn : Fn) (first cap : Array Value) (w : World), (Instr.makeFunc fn first cap).run Try.prog w = .ok (.func fn first cap) w := fun _ _ _ _ => rfl
  go_enter Try.func43, Try.ntmps43
  go_upto_region 2 with (fail)
  clear hmf
  have O : Aside0 (((w.alloc (.cells #[.int .u16 v] 24 (0, 0))).alloc (.map #[] 0)).ownsMap Try.prog 24 RV (w.heap.size + 1) 0 D0) := ⟨by have h := World.ownsMap_made (P := Try.prog) (k := 24) (R := RV) (w.alloc (.cells #[.int .u16 v] 24 (0, 0))); rw [World.size_alloc] at h; exact h⟩
  have HB := Aside0.mk (((Below.refl w.heap.size w).alloc (Nat.le_refl _) (.cells #[.int .u16 v] 24 (0, 0))).alloc (by rw [World.size_alloc]; omega) (.map #[] 0))
  have KB := Aside0.mk (show ((w.alloc (.cells #[.int .u16 v] 24 (0, 0))).alloc (.map #[] 0)).heap[w.heap.size]? = some (.cells #[.int .u16 v] 24 (0, 0)) from blk_below (blk_new w (.cells #[.int .u16 v] 24 (0, 0))) (below_alloc (Below.refl _ _) (.map #[] 0)))
  go_upto_region 3 with (first | ((with_reducible refine gate_op (u := .insert 87 (.tmp 13) (.const (.int .u16 1)) (.func 61)) rfl ?_); refine ev_insert _ rfl _ _ _ 87 rfl 24 45 lawk Try.underlying87 RV (w.heap.size + 1) 0 _ rfl O.out (by unfold maxLen; omega) _ (.func (.func 61) #[] #[]) _ rfl rfl (keyOf_int_mk Try.underlying24 (by decide)) _ [] RV_2 ?_; intro x0 o_ g_; have kb_ := Aside0.mk (blk_grown KB.out g_ (fun e => by injection e with e; omega)); have n0_ := Aside0.mk o_; have n1_ := Aside0.mk (HB.out.grown g_ HB.out.size (fun j hj => by cases hj; omega)); clear O HB o_ g_ KB; have O := n0_; have HB := n1_; have KB := kb_; clear n0_ n1_ kb_) | ((with_reducible refine gate_op (u := .insert 87 (.tmp 13) (.const (.int .u16 3)) (.func 62)) rfl ?_); refine ev_insert _ rfl _ _ _ 87 rfl 24 45 lawk Try.underlying87 RV (w.heap.size + 1) 1 _ rfl O.out (by unfold maxLen; omega) _ (.func (.func 62) #[] #[]) _ rfl rfl (keyOf_int_mk Try.underlying24 (by decide)) _ [] RV_3 ?_; intro x1 o_ g_; have kb_ := Aside0.mk (blk_grown KB.out g_ (fun e => by injection e with e; omega)); have n0_ := Aside0.mk o_; have n1_ := Aside0.mk (HB.out.grown g_ HB.out.size (fun j hj => by cases hj; omega)); clear O HB o_ g_ KB; have O := n0_; have HB := n1_; have KB := kb_; clear n0_ n1_ kb_))
  have lk : (Instr.lookup 87 (.map (some (w.heap.size + 1))) (.int .u16 s) true).run Try.prog x1 = .ok (.tuple #[.nilFunc, .bool false]) x1 := by
    have h := look_m O.out s (by simp [Lit.wf, IntKind.min, IntKind.max, IntKind.signed, IntKind.bits]; have := HS.out; omega)
    rw [if_neg HN.out.1, if_neg HN.out.2] at h
    exact h
  clear O
  have n0_ := Aside0.mk lk
  clear lk
  have lk := n0_.out
  clear n0_
  go_upto_region 9 with (fail)
  clear lk hmm
  have kv : x1.cell? ⟨w.heap.size, 0, none⟩ = some (.int .u16 v) := (blk_cell KB.out 0).trans rfl
  go_wp2_with go_in
  go_ret
  exact ⟨by first | rfl | (simp; done), HB.out⟩
theorem may_0_hi {s : Int} (hs : 0 ≤ s ∧ s < 65536) {v : Int} (hv : 0 ≤ v ∧ v < 65536) (h1 : 18 < s) (w : World) :
    Calls Try.prog 43 #[.int .i64 0, .int .u16 s, .int .u16 v] w fun en w' => en = .returned (.bool (v == 0)) ∧ Below w.heap.size w w' := by
  have HS := Aside0.mk hs
  have HV := Aside0.mk hv
  clear hs hv
  have e2 : (s == 2) = false := beq_eq_false_iff_ne.2 (by omega)
  have e11 : decide (s ≥ 11) = true := decide_eq_true (by omega)
  have e18 : decide (s ≤ 18) = false := decide_eq_false (by omega)
  have e11b : decide (11 ≤ s) = true := e11
  have HN := Aside0.mk (show s ≠ 1 ∧ s ≠ 3 by omega)
  clear h1
  have hmm := @run_makeMap Try.prog
  have hmf : ∀ (fn : Fn) (first cap : Array Value) (w : World), (Instr.makeFunc fn first cap).run Try.prog w = .ok (.func fn first cap) w := fun _ _ _ _ => rfl
  go_enter Try.func43, Try.ntmps43
  go_upto_region 2 with (fail)
  clear hmf
  have O : Aside0 (((w.alloc (.cells #[.int .u16 v] 24 (0, 0))).alloc (.map #[] 0)).ownsMap Try.prog 24 RV (w.heap.size + 1) 0 D0) := ⟨by have h := World.ownsMap_made (P := Try.prog) (k := 24) (R := RV) (w.alloc (.cells #[.int .u16 v] 24 (0, 0))); rw [World.size_alloc] at h; exact h⟩
  have HB := Aside0.mk (((Below.refl w.heap.size w).alloc (Nat.le_refl _) (.cells #[.int .u16 v] 24 (0, 0))).alloc (by rw [World.size_alloc]; omega) (.map #[] 0))
  have KB := Aside0.mk (show ((w.alloc (.cells #[.int .u16 v] 24 (0, 0))).alloc (.map #[] 0)).heap[w.heap.size]? = some (.cells #[.int .u16 v] 24 (0, 0)) from blk_below (blk_new w (.cells #[.int .u16 v] 24 (0, 0))) (below_alloc (Below.refl _ _) (.map #[] 0)))
  go_upto_region 3 with (first | ((with_reducible refine gate_op (u := .insert 87 (.tmp 13) (.const (.int .u16 1)) (.func 61)) rfl ?_); refine ev_insert _ rfl _ _ _ 87 rfl 24 45 lawk Try.underlying87 RV (w.heap.size + 1) 0 _ rfl O.out (by unfold maxLen; omega) _ (.func (.func 61) #[] #[]) _ rfl rfl (keyOf_int_mk Try.underlying24 (by decide)) _ [] RV_2 ?_; intro x0 o_ g_; have kb_ := Aside0.mk (blk_grown KB.out g_ (fun e => by injection e with e; omega)); have n0_ := Aside0.mk o_; have n1_ := Aside0.mk (HB.out.grown g_ HB.out.size (fun j hj => by cases hj; omega)); clear O HB o_ g_ KB; have O := n0_; have HB := n1_; have KB := kb_; clear n0_ n1_ kb_) | ((with_reducible refine gate_op (u := .insert 87 (.tmp 13) (.const (.int .u16 3)) (.func 62)) rfl ?_); refine ev_insert _ rfl _ _ _ 87 rfl 24 45 lawk Try.underlying87 RV (w.heap.size + 1) 1 _ rfl O.out (by unfold maxLen; omega) _ (.func (.func 62) #[] #[]) _ rfl rfl (keyOf_int_mk Try.underlying24 (by decide)) _ [] RV_3 ?_; intro x1 o_ g_; have kb_ := Aside0.mk (blk_grown KB.out g_ (fun e => by injection e with e; omega)); have n0_ := Aside0.mk o_; have n1_ := Aside0.mk (HB.out.grown g_ HB.out.size (fun j hj => by cases hj; omega)); clear O HB o_ g_ KB; have O := n0_; have HB := n1_; have KB := kb_; clear n0_ n1_ kb_))
  have lk : (Instr.lookup 87 (.map (some (w.heap.size + 1))) (.int .u16 s) true).run Try.prog x1 = .ok (.tuple #[.nilFunc, .bool false]) x1 := by
    have h := look_m O.out s (by simp [Lit.wf, IntKind.min, IntKind.max, IntKind.signed, IntKind.bits]; have := HS.out; omega)
    rw [if_neg HN.out.1, if_neg HN.out.2] at h
    exact h
  clear O
  have n0_ := Aside0.mk lk
  clear lk
  have lk := n0_.out
  clear n0_
  go_upto_region 9 with (fail)
  clear lk hmm
  have kv : x1.cell? ⟨w.heap.size, 0, none⟩ = some (.int .u16 v) := (blk_cell KB.out 0).trans rfl
  go_wp2_with go_in
  go_ret
  exact ⟨by first | rfl | (simp; done), HB.out⟩
theorem may_1_1  {v : Int} (hv : 0 ≤ v ∧ v < 65536) (w : World) :
    Calls Try.prog 43 #[.int .i64 1, .int .u16 1, .int .u16 v] w fun en w' => en = .returned (.bool (v == 0 || v == 65280)) ∧ Below w.heap.size w w' := by
  have HV := Aside0.mk hv
  clear hv
  have hmm := @run_makeMap Try.prog
  have hmf : ∀ (fn : Fn) (first cap : Array Value) (w : World), (Instr.makeFunc fn first cap).run Try.prog w = .ok (.func fn first cap) w := fun _ _ _ _ => rfl
  go_enter Try.func43, Try.ntmps43
  go_upto_region 2 with (fail)
  clear hmf
  have O : Aside0 (((w.alloc (.cells #[.int .u16 v] 24 (0, 0))).alloc (.map #[] 0)).ownsMap Try.prog 24 RV (w.heap.size + 1) 0 D0) := ⟨by have h := World.ownsMap_made (P := Try.prog) (k := 24) (R := RV) (w.alloc (.cells #[.int .u16 v] 24 (0, 0))); rw [World.size_alloc] at h; exact h⟩
  have HB := Aside0.mk (((Below.refl w.heap.size w).alloc (Nat.le_refl _) (.cells #[.int .u16 v] 24 (0, 0))).alloc (by rw [World.size_alloc]; omega) (.map #[] 0))
  have KB := Aside0.mk (show ((w.alloc (.cells #[.int .u16 v] 24 (0, 0))).alloc (.map #[] 0)).heap[w.heap.size]? = some (.cells #[.int .u16 v] 24 (0, 0)) from blk_below (blk_new w (.cells #[.int .u16 v] 24 (0, 0))) (below_alloc (Below.refl _ _) (.map #[] 0)))
  go_upto_region 3 with (first | ((with_reducible refine gate_op (u := .insert 87 (.tmp 13) (.const (.int .u16 1)) (.func 61)) rfl ?_); refine ev_insert _ rfl _ _ _ 87 rfl 24 45 lawk Try.underlying87 RV (w.heap.size + 1) 0 _ rfl O.out (by unfold maxLen; omega) _ (.func (.func 61) #[] #[]) _ rfl rfl (keyOf_int_mk Try.underlying24 (by decide)) _ [] RV_2 ?_; intro x0 o_ g_; have kb_ := Aside0.mk (blk_grown KB.out g_ (fun e => by injection e with e; omega)); have n0_ := Aside0.mk o_; have n1_ := Aside0.mk (HB.out.grown g_ HB.out.size (fun j hj => by cases hj; omega)); clear O HB o_ g_ KB; have O := n0_; have HB := n1_; have KB := kb_; clear n0_ n1_ kb_) | ((with_reducible refine gate_op (u := .insert 87 (.tmp 13) (.const (.int .u16 3)) (.func 62)) rfl ?_); refine ev_insert _ rfl _ _ _ 87 rfl 24 45 lawk Try.underlying87 RV (w.heap.size + 1) 1 _ rfl O.out (by unfold maxLen; omega) _ (.func (.func 62) #[] #[]) _ rfl rfl (keyOf_int_mk Try.underlying24 (by decide)) _ [] RV_3 ?_; intro x1 o_ g_; have kb_ := Aside0.mk (blk_grown KB.out g_ (fun e => by injection e with e; omega)); have n0_ := Aside0.mk o_; have n1_ := Aside0.mk (HB.out.grown g_ HB.out.size (fun j hj => by cases hj; omega)); clear O HB o_ g_ KB; have O := n0_; have HB := n1_; have KB := kb_; clear n0_ n1_ kb_))
  have lk : (Instr.lookup 87 (.map (some (w.heap.size + 1))) (.int .u16 1) true).run Try.prog x1 = .ok (.tuple #[(.func (.func 61) #[] #[]), .bool true]) x1 := by
    have h := look_m O.out 1 (by decide)
    exact h
  clear O
  have n0_ := Aside0.mk lk
  clear lk
  have lk := n0_.out
  clear n0_
  go_upto_region 9 with (fail)
  clear lk hmm
  have kv : x1.cell? ⟨w.heap.size, 0, none⟩ = some (.int .u16 v) := (blk_cell KB.out 0).trans rfl
  cases hz_ : (v == 0) with
  | true =>
    go_wp2_with go_in
    go_ret
    exact ⟨by first | rfl | (rw [hz_]; rfl) | (simp [hz_]; done), HB.out⟩
  | false =>
    go_wp2_with go_in
    go_ret
    exact ⟨by rw [hz_]; first | rfl | (simp [hz_]; done), HB.out⟩
theorem may_1_2  {v : Int} (hv : 0 ≤ v ∧ v < 65536) (w : World) :
    Calls Try.prog 43 #[.int .i64 1, .int .u16 2, .int .u16 v] w fun en w' => en = .returned (.bool (true)) ∧ Below w.heap.size w w' := by
  have HV := Aside0.mk hv
  clear hv
  have hmm := @run_makeMap Try.prog
  have hmf : ∀ (fn : Fn) (first cap : Array Value) (w : World), (Instr.makeFunc fn first cap).run Try.prog w = .ok (.func fn first cap) w := fun _ _ _ _ => rfl
  go_enter Try.func43, Try.ntmps43
  go_upto_region 2 with (fail)
  clear hmf
  have O : Aside0 (((w.alloc (.cells #[.int .u16 v] 24 (0, 0))).alloc (.map #[] 0)).ownsMap Try.prog 24 RV (w.heap.size + 1) 0 D0) := ⟨by have h := World.ownsMap_made (P := Try.prog) (k := 24) (R := RV) (w.alloc (.cells #[.int .u16 v] 24 (0, 0))); rw [World.size_alloc] at h; exact h⟩
  have HB := Aside0.mk (((Below.refl w.heap.size w).alloc (Nat.le_refl _) (.cells #[.int .u16 v] 24 (0, 0))).alloc (by rw [World.size_alloc]; omega) (.map #[] 0))
  have KB := Aside0.mk (show ((w.alloc (.cells #[.int .u16 v] 24 (0, 0))).alloc (.map #[] 0)).heap[w.heap.size]? = some (.cells #[.int .u16 v] 24 (0, 0)) from blk_below (blk_new w (.cells #[.int .u16 v] 24 (0, 0))) (below_alloc (Below.refl _ _) (.map #[] 0)))
  go_upto_region 3 with (first | ((with_reducible refine gate_op (u := .insert 87 (.tmp 13) (.const (.int .u16 1)) (.func 61)) rfl ?_); refine ev_insert _ rfl _ _ _ 87 rfl 24 45 lawk Try.underlying87 RV (w.heap.size + 1) 0 _ rfl O.out (by unfold maxLen; omega) _ (.func (.func 61) #[] #[]) _ rfl rfl (keyOf_int_mk Try.underlying24 (by decide)) _ [] RV_2 ?_; intro x0 o_ g_; have kb_ := Aside0.mk (blk_grown KB.out g_ (fun e => by injection e with e; omega)); have n0_ := Aside0.mk o_; have n1_ := Aside0.mk (HB.out.grown g_ HB.out.size (fun j hj => by cases hj; omega)); clear O HB o_ g_ KB; have O := n0_; have HB := n1_; have KB := kb_; clear n0_ n1_ kb_) | ((with_reducible refine gate_op (u := .insert 87 (.tmp 13) (.const (.int .u16 3)) (.func 62)) rfl ?_); refine ev_insert _ rfl _ _ _ 87 rfl 24 45 lawk Try.underlying87 RV (w.heap.size + 1) 1 _ rfl O.out (by unfold maxLen; omega) _ (.func (.func 62) #[] #[]) _ rfl rfl (keyOf_int_mk Try.underlying24 (by decide)) _ [] RV_3 ?_; intro x1 o_ g_; have kb_ := Aside0.mk (blk_grown KB.out g_ (fun e => by injection e with e; omega)); have n0_ := Aside0.mk o_; have n1_ := Aside0.mk (HB.out.grown g_ HB.out.size (fun j hj => by cases hj; omega)); clear O HB o_ g_ KB; have O := n0_; have HB := n1_; have KB := kb_; clear n0_ n1_ kb_))
  clear O KB
  go_wp2
  go_ret
  exact ⟨rfl, HB.out⟩
theorem may_1_3  {v : Int} (hv : 0 ≤ v ∧ v < 65536) (w : World) :
    Calls Try.prog 43 #[.int .i64 1, .int .u16 3, .int .u16 v] w fun en w' => en = .returned (.bool (v % 256 == 0)) ∧ Below w.heap.size w w' := by
  have HV := Aside0.mk hv
  clear hv
  have hmm := @run_makeMap Try.prog
  have hmf : ∀ (fn : Fn) (first cap : Array Value) (w : World), (Instr.makeFunc fn first cap).run Try.prog w = .ok (.func fn first cap) w := fun _ _ _ _ => rfl
  go_enter Try.func43, Try.ntmps43
  go_upto_region 2 with (fail)
  clear hmf
  have O : Aside0 (((w.alloc (.cells #[.int .u16 v] 24 (0, 0))).alloc (.map #[] 0)).ownsMap Try.prog 24 RV (w.heap.size + 1) 0 D0) := ⟨by have h := World.ownsMap_made (P := Try.prog) (k := 24) (R := RV) (w.alloc (.cells #[.int .u16 v] 24 (0, 0))); rw [World.size_alloc] at h; exact h⟩
  have HB := Aside0.mk (((Below.refl w.heap.size w).alloc (Nat.le_refl _) (.cells #[.int .u16 v] 24 (0, 0))).alloc (by rw [World.size_alloc]; omega) (.map #[] 0))
  have KB := Aside0.mk (show ((w.alloc (.cells #[.int .u16 v] 24 (0, 0))).alloc (.map #[] 0)).heap[w.heap.size]? = some (.cells #[.int .u16 v] 24 (0, 0)) from blk_below (blk_new w (.cells #[.int .u16 v] 24 (0, 0))) (below_alloc (Below.refl _ _) (.map #[] 0)))
  go_upto_region 3 with (first | ((with_reducible refine gate_op (u := .insert 87 (.tmp 13) (.const (.int .u16 1)) (.func 61)) rfl ?_); refine ev_insert _ rfl _ _ _ 87 rfl 24 45 lawk Try.underlying87 RV (w.heap.size + 1) 0 _ rfl O.out (by unfold maxLen; omega) _ (.func (.func 61) #[] #[]) _ rfl rfl (keyOf_int_mk Try.underlying24 (by decide)) _ [] RV_2 ?_; intro x0 o_ g_; have kb_ := Aside0.mk (blk_grown KB.out g_ (fun e => by injection e with e; omega)); have n0_ := Aside0.mk o_; have n1_ := Aside0.mk (HB.out.grown g_ HB.out.size (fun j hj => by cases hj; omega)); clear O HB o_ g_ KB; have O := n0_; have HB := n1_; have KB := kb_; clear n0_ n1_ kb_) | ((with_reducible refine gate_op (u := .insert 87 (.tmp 13) (.const (.int .u16 3)) (.func 62)) rfl ?_); refine ev_insert _ rfl _ _ _ 87 rfl 24 45 lawk Try.underlying87 RV (w.heap.size + 1) 1 _ rfl O.out (by unfold maxLen; omega) _ (.func (.func 62) #[] #[]) _ rfl rfl (keyOf_int_mk Try.underlying24 (by decide)) _ [] RV_3 ?_; intro x1 o_ g_; have kb_ := Aside0.mk (blk_grown KB.out g_ (fun e => by injection e with e; omega)); have n0_ := Aside0.mk o_; have n1_ := Aside0.mk (HB.out.grown g_ HB.out.size (fun j hj => by cases hj; omega)); clear O HB o_ g_ KB; have O := n0_; have HB := n1_; have KB := kb_; clear n0_ n1_ kb_))
  have lk : (Instr.lookup 87 (.map (some (w.heap.size + 1))) (.int .u16 3) true).run Try.prog x1 = .ok (.tuple #[(.func (.func 62) #[] #[]), .bool true]) x1 := by
    have h := look_m O.out 3 (by decide)
    exact h
  clear O
  have n0_ := Aside0.mk lk
  clear lk
  have lk := n0_.out
  clear n0_
  go_upto_region 9 with (fail)
  clear lk hmm
  have kv : x1.cell? ⟨w.heap.size, 0, none⟩ = some (.int .u16 v) := (blk_cell KB.out 0).trans rfl
  go_wp2_with go_in
  go_ret
  exact ⟨by rw [← and255 HV.out]; first | rfl | (simp; done), HB.out⟩
theorem may_1_mid {s : Int} (hs : 0 ≤ s ∧ s < 65536) {v : Int} (hv : 0 ≤ v ∧ v < 65536) (h1 : 11 ≤ s) (h2 : s ≤ 18) (w : World) :
    Calls Try.prog 43 #[.int .i64 1, .int .u16 s, .int .u16 v] w fun en w' => en = .returned (.bool (true)) ∧ Below w.heap.size w w' := by
  have HS := Aside0.mk hs
  have HV := Aside0.mk hv
  clear hs hv
  have e2 : (s == 2) = false := beq_eq_false_iff_ne.2 (by omega)
  have e11 : decide (s ≥ 11) = true := decide_eq_true (by omega)
  have e18 : decide (s ≤ 18) = true := decide_eq_true (by omega)
  have e11b : decide (11 ≤ s) = true := e11
  have HN := Aside0.mk (show s ≠ 1 ∧ s ≠ 3 by omega)
  clear h1 h2
  have hmm := @run_makeMap Try.prog
  have hmf : ∀ (fn : Fn) (first cap : Array Value) (w : World), (Instr.makeFunc fn first cap).run Try.prog w = .ok (.func fn first cap) w := fun _ _ _ _ => rfl
  go_enter Try.func43, Try.ntmps43
  go_upto_region 2 with (fail)
  clear hmf
  have O : Aside0 (((w.alloc (.cells #[.int .u16 v] 24 (0, 0))).alloc (.map #[] 0)).ownsMap Try.prog 24 RV (w.heap.size + 1) 0 D0) := ⟨by have h := World.ownsMap_made (P := Try.prog) (k := 24) (R := RV) (w.alloc (.cells #[.int .u16 v] 24 (0, 0))); rw [World.size_alloc] at h; exact h⟩
  have HB := Aside0.mk (((Below.refl w.heap.size w).alloc (Nat.le_refl _) (.cells #[.int .u16 v] 24 (0, 0))).alloc (by rw [World.size_alloc]; omega) (.map #[] 0))
  have KB := Aside0.mk (show ((w.alloc (.cells #[.int .u16 v] 24 (0, 0))).alloc (.map #[] 0)).heap[w.heap.size]? = some (.cells #[.int .u16 v] 24 (0, 0)) from blk_below (blk_new w (.cells #[.int .u16 v] 24 (0, 0))) (below_alloc (Below.refl _ _) (.map #[] 0)))
  go_upto_region 3 with (first | ((with_reducible refine gate_op (u := .insert 87 (.tmp 13) (.const (.int .u16 1)) (.func 61)) rfl ?_); refine ev_insert _ rfl _ _ _ 87 rfl 24 45 lawk Try.underlying87 RV (w.heap.size + 1) 0 _ rfl O.out (by unfold maxLen; omega) _ (.func (.func 61) #[] #[]) _ rfl rfl (keyOf_int_mk Try.underlying24 (by decide)) _ [] RV_2 ?_; intro x0 o_ g_; have kb_ := Aside0.mk (blk_grown KB.out g_ (fun e => by injection e with e; omega)); have n0_ := Aside0.mk o_; have n1_ := Aside0.mk (HB.out.grown g_ HB.out.size (fun j hj => by cases hj; omega)); clear O HB o_ g_ KB; have O := n0_; have HB := n1_; have KB := kb_; clear n0_ n1_ kb_) | ((with_reducible refine gate_op (u := .insert 87 (.tmp 13) (.const (.int .u16 3)) (.func 62)) rfl ?_); refine ev_insert _ rfl _ _ _ 87 rfl 24 45 lawk Try.underlying87 RV (w.heap.size + 1) 1 _ rfl O.out (by unfold maxLen; omega) _ (.func (.func 62) #[] #[]) _ rfl rfl (keyOf_int_mk Try.underlying24 (by decide)) _ [] RV_3 ?_; intro x1 o_ g_; have kb_ := Aside0.mk (blk_grown KB.out g_ (fun e => by injection e with e; omega)); have n0_ := Aside0.mk o_; have n1_ := Aside0.mk (HB.out.grown g_ HB.out.size (fun j hj => by cases hj; omega)); clear O HB o_ g_ KB; have O := n0_; have HB := n1_; have KB := kb_; clear n0_ n1_ kb_))
  clear O KB
  go_wp2
  go_ret
  exact ⟨rfl, HB.out⟩
theorem may_1_lo {s : Int} (hs : 0 ≤ s ∧ s < 65536) {v : Int} (hv : 0 ≤ v ∧ v < 65536) (h1 : s < 11) (h2 : s ≠ 1) (h3 : s ≠ 2) (h4 : s ≠ 3) (w : World) :
    Calls Try.prog 43 #[.int .i64 1, .int .u16 s, .int .u16 v] w fun en w' => en = .returned (.bool (v == 0)) ∧ Below w.heap.size w w' := by
  have HS := Aside0.mk hs
  have HV := Aside0.mk hv
  clear hs hv
  have e2 : (s == 2) = false := beq_eq_false_iff_ne.2 (by omega)
  have e11 : decide (s ≥ 11) = false := decide_eq_false (by omega)
  have e11b : decide (11 ≤ s) = false := e11
  have HN := Aside0.mk (show s ≠ 1 ∧ s ≠ 3 by omega)
  clear h1 h2 h3 h4
  have hmm := @run_makeMap Try.prog
  have hmf : ∀ (fn : Fn) (first cap : Array Value) (w : World), (Instr.makeFunc fn first cap).run Try.prog w = .ok (.func fn first cap) w := fun _ _ _ _ => rfl
  go_enter Try.func43, Try.ntmps43
  go_upto_region 2 with (fail)
  clear hmf
  have O : Aside0 (((w.alloc (.cells #[.int .u16 v] 24 (0, 0))).alloc (.map #[] 0)).ownsMap Try.prog 24 RV (w.heap.size + 1) 0 D0) := ⟨by have h := World.ownsMap_made (P := Try.prog) (k := 24) (R := RV) (w.alloc (.cells #[.int .u16 v] 24 (0, 0))); rw [World.size_alloc] at h; exact h⟩
  have HB := Aside0.mk (((Below.refl w.heap.size w).alloc (Nat.le_refl _) (.cells #[.int .u16 v] 24 (0, 0))).alloc (by rw [World.size_alloc]; omega) (.map #[] 0))
  have KB := Aside0.mk (show ((w.alloc (.cells #[.int .u16 v] 24 (0, 0))).alloc (.map #[] 0)).heap[w.heap.size]? = some (.cells #[.int .u16 v] 24 (0, 0)) from blk_below (blk_new w (.cells #[.int .u16 v] 24 (0, 0))) (below_alloc (Below.refl _ _) (.map #[] 0)))
  go_upto_region 3 with (first | ((with_reducible refine gate_op (u := .insert 87 (.tmp 13) (.const (.int .u16 1)) (.func 61)) rfl ?_); refine ev_insert _ rfl _ _ _ 87 rfl 24 45 lawk Try.underlying87 RV (w.heap.size + 1) 0 _ rfl O.out (by unfold maxLen; omega) _ (.func (.func 61) #[] #[]) _ rfl rfl (keyOf_int_mk Try.underlying24 (by decide)) _ [] RV_2 ?_; intro x0 o_ g_; have kb_ := Aside0.mk (blk_grown KB.out g_ (fun e => by injection e with e; omega)); have n0_ := Aside0.mk o_; have n1_ := Aside0.mk (HB.out.grown g_ HB.out.size (fun j hj => by cases hj; omega)); clear O HB o_ g_ KB; have O := n0_; have HB := n1_; have KB := kb_; clear n0_ n1_ kb_) | ((with_reducible refine gate_op (u := .insert 87 (.tmp 13) (.const (.int .u16 3)) (.func 62)) rfl ?_); refine ev_insert _ rfl _ _ _ 87 rfl 24 45 lawk Try.underlying87 RV (w.heap.size + 1) 1 _ rfl O.out (by unfold maxLen; omega) _ (.func (.func 62) #[] #[]) _ rfl rfl (keyOf_int_mk Try.underlying24 (by decide)) _ [] RV_3 ?_; intro x1 o_ g_; have kb_ := Aside0.mk (blk_grown KB.out g_ (fun e => by injection e with e; omega)); have n0_ := Aside0.mk o_; have n1_ := Aside0.mk (HB.out.grown g_ HB.out.size (fun j hj => by cases hj; omega)); clear O HB o_ g_ KB; have O := n0_; have HB := n1_; have KB := kb_; clear n0_ n1_ kb_))
  have lk : (Instr.lookup 87 (.map (some (w.heap.size + 1))) (.int .u16 s) true).run Try.prog x1 = .ok (.tuple #[.nilFunc, .bool false]) x1 := by
    have h := look_m O.out s (by simp [Lit.wf, IntKind.min, IntKind.max, IntKind.signed, IntKind.bits]; have := HS.out; omega)
    rw [if_neg HN.out.1, if_neg HN.out.2] at h
    exact h
  clear O
  have n0_ := Aside0.mk lk
  clear lk
  have lk := n0_.out
  clear n0_
  go_upto_region 9 with (fail)
  clear lk hmm
  have kv : x1.cell? ⟨w.heap.size, 0, none⟩ = some (.int .u16 v) := (blk_cell KB.out 0).trans rfl
  go_wp2_with go_in
  go_ret
  exact ⟨by first | rfl | (simp; done), HB.out⟩
theorem may_1_hi {s : Int} (hs : 0 ≤ s ∧ s < 65536) {v : Int} (hv : 0 ≤ v ∧ v < 65536) (h1 : 18 < s) (w : World) :
    Calls Try.prog 43 #[.int .i64 1, .int .u16 s, .int .u16 v] w fun en w' => en = .returned (.bool (v == 0)) ∧ Below w.heap.size w w' := by
  have HS := Aside0.mk hs
  have HV := Aside0.mk hv
  clear hs hv
  have e2 : (s == 2) = false := beq_eq_false_iff_ne.2 (by omega)
  have e11 : decide (s ≥ 11) = true := decide_eq_true (by omega)
  have e18 : decide (s ≤ 18) = false := decide_eq_false (by omega)
  have e11b : decide (11 ≤ s) = true := e11
  have HN := Aside0.mk (show s ≠ 1 ∧ s ≠ 3 by omega)
  clear h1
  have hmm := @run_makeMap Try.prog
  have hmf : ∀ (fn : Fn) (first cap : Array Value) (w : World), (Instr.makeFunc fn first cap).run Try.prog w = .ok (.func fn first cap) w := fun _ _ _ _ => rfl
  go_enter Try.func43, Try.ntmps43
  go_upto_region 2 with (fail)
  clear hmf
  have O : Aside0 (((w.alloc (.cells #[.int .u16 v] 24 (0, 0))).alloc (.map #[] 0)).ownsMap Try.prog 24 RV (w.heap.size + 1) 0 D0) := ⟨by have h := World.ownsMap_made (P := Try.prog) (k := 24) (R := RV) (w.alloc (.cells #[.int .u16 v] 24 (0, 0))); rw [World.size_alloc] at h; exact h⟩
  have HB := Aside0.mk (((Below.refl w.heap.size w).alloc (Nat.le_refl _) (.cells #[.int .u16 v] 24 (0, 0))).alloc (by rw [World.size_alloc]; omega) (.map #[] 0))
  have KB := Aside0.mk (show ((w.alloc (.cells #[.int .u16 v] 24 (0, 0))).alloc (.map #[] 0)).heap[w.heap.size]? = some (.cells #[.int .u16 v] 24 (0, 0)) from blk_below (blk_new w (.cells #[.int .u16 v] 24 (0, 0))) (below_alloc (Below.refl _ _) (.map #[] 0)))
  go_upto_region 3 with (first | ((with_reducible refine gate_op (u := .insert 87 (.tmp 13) (.const (.int .u16 1)) (.func 61)) rfl ?_); refine ev_insert _ rfl _ _ _ 87 rfl 24 45 lawk Try.underlying87 RV (w.heap.size + 1) 0 _ rfl O.out (by unfold maxLen; omega) _ (.func (.func 61) #[] #[]) _ rfl rfl (keyOf_int_mk Try.underlying24 (by decide)) _ [] RV_2 ?_; intro x0 o_ g_; have kb_ := Aside0.mk (blk_grown KB.out g_ (fun e => by injection e with e; omega)); have n0_ := Aside0.mk o_; have n1_ := Aside0.mk (HB.out.grown g_ HB.out.size (fun j hj => by cases hj; omega)); clear O HB o_ g_ KB; have O := n0_; have HB := n1_; have KB := kb_; clear n0_ n1_ kb_) | ((with_reducible refine gate_op (u := .insert 87 (.tmp 13) (.const (.int .u16 3)) (.func 62)) rfl ?_); refine ev_insert _ rfl _ _ _ 87 rfl 24 45 lawk Try.underlying87 RV (w.heap.size + 1) 1 _ rfl O.out (by unfold maxLen; omega) _ (.func (.func 62) #[] #[]) _ rfl rfl (keyOf_int_mk Try.underlying24 (by decide)) _ [] RV_3 ?_; intro x1 o_ g_; have kb_ := Aside0.mk (blk_grown KB.out g_ (fun e => by injection e with e; omega)); have n0_ := Aside0.mk o_; have n1_ := Aside0.mk (HB.out.grown g_ HB.out.size (fun j hj => by cases hj; omega)); clear O HB o_ g_ KB; have O := n0_; have HB := n1_; have KB := kb_; clear n0_ n1_ kb_))
  have lk : (Instr.lookup 87 (.map (some (w.heap.size + 1))) (.int .u16 s) true).run Try.prog x1 = .ok (.tuple #[.nilFunc, .bool false]) x1 := by
    have h := look_m O.out s (by simp [Lit.wf, IntKind.min, IntKind.max, IntKind.signed, IntKind.bits]; have := HS.out; omega)
    rw [if_neg HN.out.1, if_neg HN.out.2] at h
    exact h
  clear O
  have n0_ := Aside0.mk lk
  clear lk
  have lk := n0_.out
  clear n0_
  go_upto_region 9 with (fail)
  clear lk hmm
  have kv : x1.cell? ⟨w.heap.size, 0, none⟩ = some (.int .u16 v) := (blk_cell KB.out 0).trans rfl
  go_wp2_with go_in
  go_ret
  exact ⟨by first | rfl | (simp; done), HB.out⟩
theorem may_any {d s v : Int} (hd : d = 0 ∨ d = 1) (hs : 0 ≤ s ∧ s < 65536) (hv : 0 ≤ v ∧ v < 65536) (w : World) :
    Calls Try.prog 43 #[.int .i64 d, .int .u16 s, .int .u16 v] w fun en w' => en = .returned (.bool (mayB d s v)) ∧ Below w.heap.size w w' := by
  rcases hd with rfl | rfl
  · by_cases e1 : s = 1
    · subst e1; exact may_0_1 hv w
    by_cases e2 : s = 2
    · subst e2; exact may_0_2 hv w
    by_cases e3 : s = 3
    · subst e3; exact may_0_3 hv w
    by_cases h11 : 11 ≤ s
    · by_cases h18 : s ≤ 18
      · rw [show mayB 0 s v = (v == 0) by unfold mayB; rw [if_neg (fun h => absurd h.2 (by decide)), if_neg e1, if_neg e3]]; exact may_0_mid hs hv h11 h18 w
      · rw [show mayB 0 s v = (v == 0) by unfold mayB; rw [if_neg (by omega), if_neg e1, if_neg e3]]; exact may_0_hi hs hv (by omega) w
    · rw [show mayB 0 s v = (v == 0) by unfold mayB; rw [if_neg (by omega), if_neg e1, if_neg e3]]; exact may_0_lo hs hv (by omega) e1 e2 e3 w
  · by_cases e1 : s = 1
    · subst e1; exact may_1_1 hv w
    by_cases e2 : s = 2
    · subst e2; exact may_1_2 hv w
    by_cases e3 : s = 3
    · subst e3; exact may_1_3 hv w
    by_cases h11 : 11 ≤ s
    · by_cases h18 : s ≤ 18
      · rw [show mayB 1 s v = true from if_pos ⟨.inr ⟨h11, h18⟩, rfl⟩]; exact may_1_mid hs hv h11 h18 w
      · rw [show mayB 1 s v = (v == 0) by unfold mayB; rw [if_neg (by omega), if_neg e1, if_neg e3]]; exact may_1_hi hs hv (by omega) w
    · rw [show mayB 1 s v = (v == 0) by unfold mayB; rw [if_neg (by omega), if_neg e1, if_neg e3]]; exact may_1_lo hs hv (by omega) e1 e2 e3 w
theorem busy_any {w0 w : World} {gr g gm : Nat} {c0 : Cu} {m : Msg} (h : PS.St w0 gr g gm w c0 m) :
    Calls Try.prog 46 #[.pointer (some ⟨g, 0, none⟩)] w fun en w' => en = .returned (.int .u16 (busyR c0).2) ∧ PS.St w0 gr g gm w' (busyR c0).1 m := by
  have HP := Aside0.mk h
  clear h
  go_enter Try.func46, Try.ntmps46
  go_upto_region 2 with (first | (go_at_call 39; obtain ⟨l0, h0⟩ := Cu.wordV_bd (PS.St.good HP.out); (with_reducible refine (PS.St.word HP.out).mono ?_); rintro en x1 ⟨rfl, hp_⟩; obtain ⟨c1, ec_⟩ : ∃ z, z = c0.wordS := ⟨_, rfl⟩; rw [← ec_] at hp_; have Ec1 := Aside0.mk ec_; clear ec_; have n0_ := Aside0.mk hp_; clear HP hp_; have HP := n0_; clear n0_))
  obtain ⟨c2, e_⟩ : ∃ z, z = c1.need (c0.wordV == 0 || c0.wordV == 65535) 6 := ⟨_, rfl⟩
  have Ec2 := Aside0.mk e_
  clear e_
  go_cut [] from 6 to 14 (fun wx => Aside0 (PS.St w0 gr g gm wx c2 (m)))
  case first =>
    cases hs0_ : (c0.wordV == 0) with
    | true =>
      have hs0a_ : (c0.wordV != 0) = false := by first | exact hs0_ | (rw [bne, hs0_]; rfl) | (have := hs0_; rw [bne] at this; simpa using this)
      have eb_ : (c0.wordV == 0 || c0.wordV == 65535) = (true) := by first | (simp only [hs0_]; first | rfl | (simp; done)) | (simp [hs0_]; done) | (simp only [bne, hs0_]; first | rfl | (simp; done))
      have EB_ := Aside0.mk eb_
      clear eb_
      go_wp2_with (first | (go_at_call 40; (with_reducible refine (PS.St.need HP.out (true) 6).mono ?_); rintro en x2 ⟨rfl, hp_⟩; have n0_ := Aside0.mk hp_; clear HP hp_; have HP := n0_; clear n0_))
      go_meet
      rw [Ec2.out, EB_.out]
      exact HP
    | false =>
      have hs0a_ : (c0.wordV != 0) = true := by first | exact hs0_ | (rw [bne, hs0_]; rfl) | (have := hs0_; rw [bne] at this; simpa using this)
      have eb_ : (c0.wordV == 0 || c0.wordV == 65535) = (c0.wordV == 65535) := by first | (simp only [hs0_]; first | rfl | (simp; done)) | (simp [hs0_]; done) | (simp only [bne, hs0_]; first | rfl | (simp; done))
      have EB_ := Aside0.mk eb_
      clear eb_
      go_wp2_with (first | (go_at_call 40; (with_reducible refine (PS.St.need HP.out (c0.wordV == 65535) 6).mono ?_); rintro en x2 ⟨rfl, hp_⟩; have n0_ := Aside0.mk hp_; clear HP hp_; have HP := n0_; clear n0_))
      go_meet
      rw [Ec2.out, EB_.out]
      exact HP
  case rest =>
  clear HP
  have HP := hcut
  clear hcut
  go_wp2
  go_ret
  have eq_ : busyR c0 = (c2, c0.wordV) := by
    rw [Ec2.out, Ec1.out]
    rfl
  rw [eq_]
  exact ⟨rfl, HP.out⟩
theorem busy_bd {c c1 : Cu} {v : Int} (h : c.good) (e : (c1, v) = busyR c) : 0 ≤ v ∧ v < 65536 := by
  have e2 : v = c.wordV := congrArg Prod.snd e
  rw [e2]
  exact Cu.wordV_bd h
theorem answer_7 {w0 w : World} {gr g gm : Nat} {c0 : Cu} {m : Msg} (h : PS.St w0 gr g gm w c0 m) (hk : m.code = 7) :
    Calls Try.prog 22 #[.pointer (some ⟨g, 0, none⟩), .pointer (some ⟨gm, 0, none⟩)] w fun en w' => en = .returned (.tuple #[]) ∧ PS.St w0 gr g gm w' (ansR m c0).1 (ansR m c0).2 := by
  have HP := Aside0.mk h
  have HK := Aside0.mk hk
  clear h
  have b7 : (m.code == 7) = true := beq_iff_eq.2 hk
  have b11 : (m.code == 11) = false := beq_eq_false_iff_ne.2 (by omega)
  have b12 : (m.code == 12) = false := beq_eq_false_iff_ne.2 (by omega)
  have b17 : (m.code == 17) = false := beq_eq_false_iff_ne.2 (by omega)
  clear hk
  obtain ⟨kcode, fcode⟩ := PS.St.at_code HP.out
  go_enter Try.func22, Try.ntmps22
  go_upto_region 2 with (fail)
  have wu : IntKind.u16.wrap c0.byteV = c0.byteV := by
    obtain ⟨l_, h_⟩ := Cu.byteV_bd (PS.St.good HP.out)
    rw [IntKind.wrap_u16]
    omega
  go_wp2_with (first | (go_at_call 45; obtain ⟨l0, h0⟩ := Cu.byteV_bd (PS.St.good HP.out); (with_reducible refine (PS.St.byte HP.out).mono ?_); rintro en x1 ⟨rfl, hp_⟩; obtain ⟨c1, ec_⟩ : ∃ z, z = c0.byteS := ⟨_, rfl⟩; rw [← ec_] at hp_; have Ec1 := Aside0.mk ec_; clear ec_; obtain ⟨kvalue, fvalue⟩ := PS.St.at_value hp_; have n0_ := Aside0.mk hp_; clear HP hp_; have HP := n0_; clear n0_))
  have hp_ := HP.out.put_value ⟨l0, by omega⟩
  have n0_ := Aside0.mk hp_
  clear HP hp_
  have HP := n0_
  clear n0_
  have eq_ : ansR m c0 = (c1, { m with value := c0.byteV }) := by
    unfold ansR
    rw [if_pos HK.out]
    simp only [ansR, eventsR, logsR, nameR, Rd.bind, Rd.byte, Rd.word, Rd.bytes, Rd.words, Rd.need, Rd.ret, leftR, ← Ec1.out]
  rw [eq_]
  exact bodyPost_end (results_none rfl _ _ _) rfl (⟨rfl, HP.out⟩)
theorem answer_11 {w0 w : World} {gr g gm : Nat} {c0 : Cu} {m : Msg} (h : PS.St w0 gr g gm w c0 m) (hk : m.code = 11) :
    Calls Try.prog 22 #[.pointer (some ⟨g, 0, none⟩), .pointer (some ⟨gm, 0, none⟩)] w fun en w' => en = .returned (.tuple #[]) ∧ PS.St w0 gr g gm w' (ansR m c0).1 (ansR m c0).2 := by
  have HP := Aside0.mk h
  have HK := Aside0.mk hk
  have HP0 := HP
  clear h
  have b7 : (m.code == 7) = false := beq_eq_false_iff_ne.2 (by omega)
  have b11 : (m.code == 11) = true := beq_iff_eq.2 hk
  have b12 : (m.code == 12) = false := beq_eq_false_iff_ne.2 (by omega)
  have b17 : (m.code == 17) = false := beq_eq_false_iff_ne.2 (by omega)
  clear hk
  obtain ⟨kcode, fcode⟩ := PS.St.at_code HP.out
  go_enter Try.func22, Try.ntmps22
  go_upto_region 4 with (fail)
  go_upto_region 5 with (first | (go_at_call 46; (with_reducible refine (busy_any HP.out).mono ?_); rintro en x1 ⟨rfl, hp_⟩; obtain ⟨z_, ez_⟩ : ∃ z, z = busyR c0 := ⟨_, rfl⟩; rw [← ez_] at hp_ ⊢; obtain ⟨c1, s1⟩ := z_; have Ezc1 := Aside0.mk ez_; clear ez_; replace hp_ : PS.St w0 gr g gm _ c1 m := hp_; obtain ⟨kstatus, fstatus⟩ := PS.St.at_status hp_; have n0_ := Aside0.mk hp_; clear HP hp_; have HP := n0_; clear n0_))
  obtain ⟨ls, hs⟩ := busy_bd (PS.St.good HP0.out) Ezc1.out
  have hp_ := HP.out.put_status ⟨ls, hs⟩
  have n0_ := Aside0.mk hp_
  clear HP hp_
  have HP := n0_
  clear n0_
  go_wp2_with (first | (go_at_call 39; obtain ⟨l1, h1⟩ := Cu.wordV_bd (PS.St.good HP.out); (with_reducible refine (PS.St.word HP.out).mono ?_); rintro en x2 ⟨rfl, hp_⟩; obtain ⟨c2, ec_⟩ : ∃ z, z = c1.wordS := ⟨_, rfl⟩; rw [← ec_] at hp_; have Ec2 := Aside0.mk ec_; clear ec_; obtain ⟨kevents, fevents⟩ := PS.St.at_events hp_; have n0_ := Aside0.mk hp_; clear HP hp_; have HP := n0_; clear n0_))
  have hp_ := HP.out.put_events ⟨l1, h1⟩
  have n0_ := Aside0.mk hp_
  clear HP hp_
  have HP := n0_
  clear n0_
  have eq_ : ansR m c0 = (c2, { m with status := s1, events := c1.wordV }) := by
    unfold ansR
    rw [if_neg (by have := HK.out; omega)]
    rw [if_pos HK.out]
    simp only [ansR, eventsR, logsR, nameR, Rd.bind, Rd.byte, Rd.word, Rd.bytes, Rd.words, Rd.need, Rd.ret, leftR, ← Ezc1.out, ← Ec2.out]
  rw [eq_]
  exact bodyPost_end (results_none rfl _ _ _) rfl (⟨rfl, HP.out⟩)
theorem answer_12 {w0 w : World} {gr g gm : Nat} {c0 : Cu} {m : Msg} (h : PS.St w0 gr g gm w c0 m) (hk : m.code = 12) :
    Calls Try.prog 22 #[.pointer (some ⟨g, 0, none⟩), .pointer (some ⟨gm, 0, none⟩)] w fun en w' => en = .returned (.tuple #[]) ∧ PS.St w0 gr g gm w' (ansR m c0).1 (ansR m c0).2 := by
  have HP := Aside0.mk h
  have HK := Aside0.mk hk
  clear h
  have b7 : (m.code == 7) = false := beq_eq_false_iff_ne.2 (by omega)
  have b11 : (m.code == 11) = false := beq_eq_false_iff_ne.2 (by omega)
  have b12 : (m.code == 12) = true := beq_iff_eq.2 hk
  have b17 : (m.code == 17) = false := beq_eq_false_iff_ne.2 (by omega)
  clear hk
  obtain ⟨kcode, fcode⟩ := PS.St.at_code HP.out
  go_enter Try.func22, Try.ntmps22
  go_upto_region 7 with (fail)
  go_upto_region 8 with (first | (go_at_call 45; obtain ⟨l0, h0⟩ := Cu.byteV_bd (PS.St.good HP.out); (with_reducible refine (PS.St.byte HP.out).mono ?_); rintro en x1 ⟨rfl, hp_⟩; obtain ⟨c1, ec_⟩ : ∃ z, z = c0.byteS := ⟨_, rfl⟩; rw [← ec_] at hp_; have Ec1 := Aside0.mk ec_; clear ec_; have n0_ := Aside0.mk hp_; clear HP hp_; have HP := n0_; clear n0_))
  have wk := wrap64_id (x := c0.byteV) (by omega) (by omega)
  have wkb : IntKind.i64.wrap (c0.byteV) = c0.byteV := by rw [i64_w]; exact wk
  have w6 : wrap64 (c0.byteV - 6) = c0.byteV - 6 := wrap64_id (by omega) (by omega)
  obtain ⟨c2, e_⟩ : ∃ z, z = c1.need (decide (6 ≤ c0.byteV) && decide (c0.byteV ≤ 70)) 5 := ⟨_, rfl⟩
  have Ec2 := Aside0.mk e_
  clear e_
  go_cut [] from 35 to 43 (fun wx => Aside0 (PS.St w0 gr g gm wx c2 (m)))
  case first =>
    cases hs0_ : (decide (6 ≤ c0.byteV)) with
    | true =>
      have hs0a_ : (decide (c0.byteV ≥ 6)) = true := by first | exact hs0_ | (rw [bne, hs0_]; rfl) | (have := hs0_; rw [bne] at this; simpa using this)
      have eb_ : (decide (6 ≤ c0.byteV) && decide (c0.byteV ≤ 70)) = (decide (c0.byteV ≤ 70)) := by first | (simp only [hs0_]; first | rfl | (simp; done)) | (simp [hs0_]; done) | (simp only [bne, hs0_]; first | rfl | (simp; done))
      have EB_ := Aside0.mk eb_
      clear eb_
      go_wp2_with (first | (go_at_call 40; (with_reducible refine (PS.St.need HP.out (decide (c0.byteV ≤ 70)) 5).mono ?_); rintro en x2 ⟨rfl, hp_⟩; have n0_ := Aside0.mk hp_; clear HP hp_; have HP := n0_; clear n0_))
      go_meet
      rw [Ec2.out, EB_.out]
      exact HP
    | false =>
      have hs0a_ : (decide (c0.byteV ≥ 6)) = false := by first | exact hs0_ | (rw [bne, hs0_]; rfl) | (have := hs0_; rw [bne] at this; simpa using this)
      have eb_ : (decide (6 ≤ c0.byteV) && decide (c0.byteV ≤ 70)) = (false) := by first | (simp only [hs0_]; first | rfl | (simp; done)) | (simp [hs0_]; done) | (simp only [bne, hs0_]; first | rfl | (simp; done))
      have EB_ := Aside0.mk eb_
      clear eb_
      go_wp2_with (first | (go_at_call 40; (with_reducible refine (PS.St.need HP.out (false) 5).mono ?_); rintro en x2 ⟨rfl, hp_⟩; have n0_ := Aside0.mk hp_; clear HP hp_; have HP := n0_; clear n0_))
      go_meet
      rw [Ec2.out, EB_.out]
      exact HP
  case rest =>
  clear HP
  have HP := hcut
  clear hcut
  have HP0 := HP
  go_upto_region 10 with (first | (go_at_call 46; (with_reducible refine (busy_any HP.out).mono ?_); rintro en x3 ⟨rfl, hp_⟩; obtain ⟨z_, ez_⟩ : ∃ z, z = busyR c2 := ⟨_, rfl⟩; rw [← ez_] at hp_ ⊢; obtain ⟨c3, s3⟩ := z_; have Ezc3 := Aside0.mk ez_; clear ez_; replace hp_ : PS.St w0 gr g gm _ c3 m := hp_; obtain ⟨kstatus, fstatus⟩ := PS.St.at_status hp_; have n0_ := Aside0.mk hp_; clear HP hp_; have HP := n0_; clear n0_))
  obtain ⟨ls, hs⟩ := busy_bd (PS.St.good HP0.out) Ezc3.out
  clear HP0
  have hp_ := HP.out.put_status ⟨ls, hs⟩
  have n0_ := Aside0.mk hp_
  clear HP hp_
  have HP := n0_
  clear n0_
  go_upto_region 11 with (first | (go_at_call 39; have u_ := Ec4; clear u_; obtain ⟨l4, h4⟩ := Cu.wordV_bd (PS.St.good HP.out); (with_reducible refine (PS.St.word HP.out).mono ?_); rintro en x5 ⟨rfl, hp_⟩; obtain ⟨c5, ec_⟩ : ∃ z, z = c4.wordS := ⟨_, rfl⟩; rw [← ec_] at hp_; have Ec5 := Aside0.mk ec_; clear ec_; obtain ⟨kevents, fevents⟩ := PS.St.at_events hp_; obtain ⟨kmessages, fmessages⟩ := PS.St.at_messages hp_; have n0_ := Aside0.mk hp_; clear HP hp_; have HP := n0_; clear n0_) | (go_at_call 39; obtain ⟨l3, h3⟩ := Cu.wordV_bd (PS.St.good HP.out); (with_reducible refine (PS.St.word HP.out).mono ?_); rintro en x4 ⟨rfl, hp_⟩; obtain ⟨c4, ec_⟩ : ∃ z, z = c3.wordS := ⟨_, rfl⟩; rw [← ec_] at hp_; have Ec4 := Aside0.mk ec_; clear ec_; have n0_ := Aside0.mk hp_; clear HP hp_; have HP := n0_; clear n0_))
  have hp_ := (HP.out.put_events ⟨l3, h3⟩).put_messages ⟨l4, h4⟩
  have n0_ := Aside0.mk hp_
  clear HP hp_
  have HP := n0_
  clear n0_
  have HBY := Aside0.mk (Cu.bytes_bytesV (PS.St.good HP.out) (c0.byteV - 6))
  go_wp2_with (first | (go_at_call 47; (with_reducible refine (PS.St.bytes HP.out (c0.byteV - 6)).mono ?_); rintro en x6 ⟨A5, n5, rfl, hz_, hr_, hp_⟩; obtain ⟨c6, ec_⟩ : ∃ z, z = c5.bytesS (c0.byteV - 6) := ⟨_, rfl⟩; rw [← ec_] at hp_; have Ec6 := Aside0.mk ec_; clear ec_; have R5 := Aside0.mk hr_; have R5z := Aside0.mk hz_; clear hr_ hz_; have n0_ := Aside0.mk hp_; clear HP hp_; have HP := n0_; clear n0_; obtain ⟨Ad, nd, kd, fd⟩ := PS.St.at_data HP.out))
  have hp_ := HP.out.put_data R5z.out HBY.out R5.out
  have n0_ := Aside0.mk hp_
  clear HP hp_
  have HP := n0_
  clear n0_
  have eq_ : ansR m c0 = (c6, { m with status := s3, events := c3.wordV, messages := c4.wordV, data := c5.bytesV (c0.byteV - 6) }) := by
    unfold ansR
    rw [if_neg (by have := HK.out; omega)]
    rw [if_neg (by have := HK.out; omega)]
    rw [if_pos HK.out]
    simp only [ansR, eventsR, logsR, nameR, Rd.bind, Rd.byte, Rd.word, Rd.bytes, Rd.words, Rd.need, Rd.ret, leftR, ← Ec1.out, ← Ec2.out, ← Ezc3.out, ← Ec4.out, ← Ec5.out, ← Ec6.out]
  rw [eq_]
  exact bodyPost_end (results_none rfl _ _ _) rfl (⟨rfl, HP.out⟩)
theorem answer_17 {w0 w : World} {gr g gm : Nat} {c0 : Cu} {m : Msg} (h : PS.St w0 gr g gm w c0 m) (hk : m.code = 17) :
    Calls Try.prog 22 #[.pointer (some ⟨g, 0, none⟩), .pointer (some ⟨gm, 0, none⟩)] w fun en w' => en = .returned (.tuple #[]) ∧ PS.St w0 gr g gm w' (ansR m c0).1 (ansR m c0).2 := by
  have HP := Aside0.mk h
  have HK := Aside0.mk hk
  clear h
  have b7 : (m.code == 7) = false := beq_eq_false_iff_ne.2 (by omega)
  have b11 : (m.code == 11) = false := beq_eq_false_iff_ne.2 (by omega)
  have b12 : (m.code == 12) = false := beq_eq_false_iff_ne.2 (by omega)
  have b17 : (m.code == 17) = true := beq_iff_eq.2 hk
  clear hk
  obtain ⟨kcode, fcode⟩ := PS.St.at_code HP.out
  go_enter Try.func22, Try.ntmps22
  go_upto_region 13 with (fail)
  go_upto_region 14 with (first | (go_at_call 45; obtain ⟨l0, h0⟩ := Cu.byteV_bd (PS.St.good HP.out); (with_reducible refine (PS.St.byte HP.out).mono ?_); rintro en x1 ⟨rfl, hp_⟩; obtain ⟨c1, ec_⟩ : ∃ z, z = c0.byteS := ⟨_, rfl⟩; rw [← ec_] at hp_; have Ec1 := Aside0.mk ec_; clear ec_; have n0_ := Aside0.mk hp_; clear HP hp_; have HP := n0_; clear n0_))
  have wk := wrap64_id (x := c0.byteV) (by omega) (by omega)
  have wkb : IntKind.i64.wrap (c0.byteV) = c0.byteV := by rw [i64_w]; exact wk
  obtain ⟨c2, e_⟩ : ∃ z, z = c1.need (decide (1 ≤ c0.byteV) && decide (c0.byteV ≤ 251)) 5 := ⟨_, rfl⟩
  have Ec2 := Aside0.mk e_
  clear e_
  go_cut [] from 70 to 78 (fun wx => Aside0 (PS.St w0 gr g gm wx c2 (m)))
  case first =>
    cases hs0_ : (decide (1 ≤ c0.byteV)) with
    | true =>
      have hs0a_ : (decide (c0.byteV ≥ 1)) = true := by first | exact hs0_ | (rw [bne, hs0_]; rfl) | (have := hs0_; rw [bne] at this; simpa using this)
      have eb_ : (decide (1 ≤ c0.byteV) && decide (c0.byteV ≤ 251)) = (decide (c0.byteV ≤ 251)) := by first | (simp only [hs0_]; first | rfl | (simp; done)) | (simp [hs0_]; done) | (simp only [bne, hs0_]; first | rfl | (simp; done))
      have EB_ := Aside0.mk eb_
      clear eb_
      go_wp2_with (first | (go_at_call 40; (with_reducible refine (PS.St.need HP.out (decide (c0.byteV ≤ 251)) 5).mono ?_); rintro en x2 ⟨rfl, hp_⟩; have n0_ := Aside0.mk hp_; clear HP hp_; have HP := n0_; clear n0_))
      go_meet
      rw [Ec2.out, EB_.out]
      exact HP
    | false =>
      have hs0a_ : (decide (c0.byteV ≥ 1)) = false := by first | exact hs0_ | (rw [bne, hs0_]; rfl) | (have := hs0_; rw [bne] at this; simpa using this)
      have eb_ : (decide (1 ≤ c0.byteV) && decide (c0.byteV ≤ 251)) = (false) := by first | (simp only [hs0_]; first | rfl | (simp; done)) | (simp [hs0_]; done) | (simp only [bne, hs0_]; first | rfl | (simp; done))
      have EB_ := Aside0.mk eb_
      clear eb_
      go_wp2_with (first | (go_at_call 40; (with_reducible refine (PS.St.need HP.out (false) 5).mono ?_); rintro en x2 ⟨rfl, hp_⟩; have n0_ := Aside0.mk hp_; clear HP hp_; have HP := n0_; clear n0_))
      go_meet
      rw [Ec2.out, EB_.out]
      exact HP
  case rest =>
  clear HP
  have HP := hcut
  clear hcut
  have HBY := Aside0.mk (Cu.bytes_bytesV (PS.St.good HP.out) c0.byteV)
  go_wp2_with (first | (go_at_call 47; (with_reducible refine (PS.St.bytes HP.out (c0.byteV)).mono ?_); rintro en x3 ⟨A5, n5, rfl, hz_, hr_, hp_⟩; obtain ⟨c3, ec_⟩ : ∃ z, z = c2.bytesS (c0.byteV) := ⟨_, rfl⟩; rw [← ec_] at hp_; have Ec3 := Aside0.mk ec_; clear ec_; have R5 := Aside0.mk hr_; have R5z := Aside0.mk hz_; clear hr_ hz_; have n0_ := Aside0.mk hp_; clear HP hp_; have HP := n0_; clear n0_; obtain ⟨Ad, nd, kd, fd⟩ := PS.St.at_data HP.out))
  have hp_ := HP.out.put_data R5z.out HBY.out R5.out
  have n0_ := Aside0.mk hp_
  clear HP hp_
  have HP := n0_
  clear n0_
  have eq_ : ansR m c0 = (c3, { m with data := c2.bytesV c0.byteV }) := by
    unfold ansR
    rw [if_neg (by have := HK.out; omega)]
    rw [if_neg (by have := HK.out; omega)]
    rw [if_neg (by have := HK.out; omega)]
    rw [if_pos HK.out]
    simp only [ansR, eventsR, logsR, nameR, Rd.bind, Rd.byte, Rd.word, Rd.bytes, Rd.words, Rd.need, Rd.ret, leftR, ← Ec1.out, ← Ec2.out, ← Ec3.out]
  rw [eq_]
  exact bodyPost_end (results_none rfl _ _ _) rfl (⟨rfl, HP.out⟩)
theorem need_k {w0 w : World} {gr g gm : Nat} {c0 : Cu} {m : Msg} (h : PS.St w0 gr g gm w c0 m) (ok : Bool) (f : Int) : Calls Try.prog 40 #[.pointer (some ⟨g, 0, none⟩), .bool ok, .int .i64 f] w fun en w' => en = .returned (.tuple #[]) ∧ PS.St w0 gr g gm w' (c0.need ok f) m ∧ Kept w w' (fun k => k = g) := by
  obtain ⟨lo, hi, hc, s1, s2⟩ := h.cur
  refine (p_need hc ok f).mono ?_
  rintro en w' ⟨rfl, b1, b2⟩
  exact ⟨rfl, h.upd b2 ⟨lo, hi, b1, s1, s2⟩, b2.kept⟩
def line.T4 : Bool × List (List Nat × List Nat) := (true, [([], []), ([], []), ([1], [1]), ([2], [2]), ([3], [3]), ([4], [4]), ([5], [5]), ([6], [6]), ([7], [7]), ([7], [7]), ([9, 7], [7, 9]), ([10, 7], [7, 10]), ([11, 7], [7, 11]), ([7], [7]), ([13, 7], [7, 13]), ([14, 7], [7, 14]), ([15, 7], [7, 15]), ([16, 7], [7, 16]), ([17, 7], [7, 17]), ([8, 12, 18, 7, 7], [7, 8, 12, 18]), ([7, 19], [7, 19]), ([0, 20, 19], [0, 20])])
def line.B4 : List Nat := [0, 0, 2, 6, 14, 30, 62, 126, 254, 254, 766, 1790, 3838, 254, 8446, 24830, 57598, 123134, 254206, 524286, 1048574, 2097151]
theorem line.tab4 : rtab .any (opsOf Try.f21 4) = line.T4 := by kernel_rfl
theorem line.bits4 : waitsOk line.T4.2 line.B4 = true := by kernel_rfl
theorem line_0_e {w0 w : World} {gr g gm : Nat} {c0 : Cu} {m : Msg} (h : PS.St w0 gr g gm w c0 m) (hz : c0.wordV = 0) :
    Calls Try.prog 21 #[.int .i64 0, .pointer (some ⟨g, 0, none⟩), .pointer (some ⟨gm, 0, none⟩)] w fun en w' => en = .returned (.tuple #[]) ∧ PS.St w0 gr g gm w' (lineR 0 m c0).1 (lineR 0 m c0).2 := by
  have HP := Aside0.mk h
  have HZ := Aside0.mk hz
  clear h hz
  go_enter Try.func21, Try.ntmps21
  go_upto_region 1 with (first | (go_at_call 39; obtain ⟨l0, h0⟩ := Cu.wordV_bd (PS.St.good HP.out); (with_reducible refine (PS.St.word HP.out).mono ?_); rintro en x1 ⟨rfl, hp_⟩; obtain ⟨c1, ec_⟩ : ∃ z, z = c0.wordS := ⟨_, rfl⟩; rw [← ec_] at hp_; have Ec1 := Aside0.mk ec_; clear ec_; obtain ⟨ksub, fsub⟩ := PS.St.at_sub hp_; have n0_ := Aside0.mk hp_; clear HP hp_; have HP := n0_; clear n0_))
  have hp_ := HP.out.put_sub ⟨l0, h0⟩
  have n0_ := Aside0.mk hp_
  clear HP hp_
  have HP := n0_
  clear n0_
  have HWF := Aside0.mk (show (Lit.int .u16 c0.wordV).wf = true from by simp [Lit.wf, IntKind.min, IntKind.max, IntKind.signed, IntKind.bits]; omega)
  obtain ⟨c2, e_⟩ : ∃ z, z = c1.need (subB c0.wordV && ((0 : Int) == 0 || c0.wordV != 4)) 8 := ⟨_, rfl⟩
  have Ec2 := Aside0.mk e_
  clear e_
  obtain ⟨ksub, fsub⟩ := PS.St.at_sub HP.out
  go_cut [] from 12 to 30 (fun wx => Aside0 (PS.St w0 gr g gm wx c2 ({ m with sub := c0.wordV })))
  case first =>
    cases hs0_ : (subB c0.wordV) with
    | true =>
      have eb_ : (subB c0.wordV && ((0 : Int) == 0 || c0.wordV != 4)) = (true) := by first | (simp only [hs0_]; first | rfl | (simp; done)) | (simp [hs0_]; done) | (simp only [bne, hs0_]; first | rfl | (simp; done))
      have EB_ := Aside0.mk eb_
      clear eb_
      go_wp2_with (first | (go_at_call 41; (with_reducible refine (sub_c HWF.out _).mono ?_); rintro en xb ⟨rfl, hb_⟩; have n0_ := Aside0.mk (PS.St.below HP.out hb_); clear HP hb_; have HP := n0_; clear n0_; obtain ⟨ksub, fsub⟩ := PS.St.at_sub HP.out) | (go_at_call 40; (with_reducible refine (PS.St.need HP.out (true) 8).mono ?_); rintro en x2 ⟨rfl, hp_⟩; have n0_ := Aside0.mk hp_; clear HP hp_; have HP := n0_; clear n0_))
      go_meet
      rw [Ec2.out, EB_.out]
      exact HP
    | false =>
      have eb_ : (subB c0.wordV && ((0 : Int) == 0 || c0.wordV != 4)) = (false) := by first | (simp only [hs0_]; first | rfl | (simp; done)) | (simp [hs0_]; done) | (simp only [bne, hs0_]; first | rfl | (simp; done))
      have EB_ := Aside0.mk eb_
      clear eb_
      go_wp2_with (first | (go_at_call 41; (with_reducible refine (sub_c HWF.out _).mono ?_); rintro en xb ⟨rfl, hb_⟩; have n0_ := Aside0.mk (PS.St.below HP.out hb_); clear HP hb_; have HP := n0_; clear n0_; obtain ⟨ksub, fsub⟩ := PS.St.at_sub HP.out) | (go_at_call 40; (with_reducible refine (PS.St.need HP.out (false) 8).mono ?_); rintro en x2 ⟨rfl, hp_⟩; have n0_ := Aside0.mk hp_; clear HP hp_; have HP := n0_; clear n0_))
      go_meet
      rw [Ec2.out, EB_.out]
      exact HP
  case rest =>
  clear HP
  have HP := hcut
  clear hcut
  have hz_ : (c0.wordV != 0) = false := by rw [HZ.out]; rfl
  obtain ⟨ksub, fsub⟩ := PS.St.at_sub HP.out
  go_upto_region 6 with (first | (go_at_call 44; (with_reducible refine (PS.St.left HP.out).mono ?_); rintro en x3 ⟨rfl, hp_⟩; have n0_ := Aside0.mk hp_; clear HP hp_; have HP := n0_; clear n0_))
  clear hz_ ksub fsub
  have wd : Int.tdiv (c2.xs.length : Int) 2 = (c2.xs.length : Int) / 2 := Int.tdiv_eq_ediv_of_nonneg (by omega)
  have wq := wrap64_id (x := (c2.xs.length : Int) / 2) (by omega) (by have := (PS.St.good HP.out).2.1; omega)
  obtain ⟨c3, e_⟩ : ∃ z, z = c2.need ((c2.xs.length : Int) % 2 == 0 && (decide (2 ≤ (c2.xs.length : Int)) && decide ((c2.xs.length : Int) ≤ 250))) 5 := ⟨_, rfl⟩
  have Ec3 := Aside0.mk e_
  clear e_
  go_cut [] from 64 to 77 (fun wx => Aside0 (PS.St w0 gr g gm wx c3 ({ m with sub := c0.wordV })))
  case first =>
    cases hs0_ : ((c2.xs.length : Int) % 2 == 0) with
    | true =>
      have hs0a_ : ((c2.xs.length : Int) % 2 != 0) = false := by first | exact hs0_ | (rw [bne, hs0_]; rfl) | (have := hs0_; rw [bne] at this; simpa using this)
      have hs0t_ : (Int.tmod (c2.xs.length : Int) 2 == 0) = true := by rw [Int.tmod_eq_emod_of_nonneg (by omega)]; exact hs0_
      cases hs1_ : (decide (2 ≤ (c2.xs.length : Int))) with
      | true =>
        have hs1a_ : (decide ((c2.xs.length : Int) ≥ 2)) = true := by first | exact hs1_ | (rw [bne, hs1_]; rfl) | (have := hs1_; rw [bne] at this; simpa using this)
        have eb_ : ((c2.xs.length : Int) % 2 == 0 && (decide (2 ≤ (c2.xs.length : Int)) && decide ((c2.xs.length : Int) ≤ 250))) = (decide ((c2.xs.length : Int) ≤ 250)) := by first | (simp only [hs0_, hs1_]; first | rfl | (simp; done)) | (simp [hs0_, hs1_]; done) | (simp only [bne, hs0_, hs1_]; first | rfl | (simp; done))
        have EB_ := Aside0.mk eb_
        clear eb_
        go_wp2_with (first | (go_at_call 40; (with_reducible refine (PS.St.need HP.out (decide ((c2.xs.length : Int) ≤ 250)) 5).mono ?_); rintro en x4 ⟨rfl, hp_⟩; have n0_ := Aside0.mk hp_; clear HP hp_; have HP := n0_; clear n0_))
        go_meet
        rw [Ec3.out, EB_.out]
        exact HP
      | false =>
        have hs1a_ : (decide ((c2.xs.length : Int) ≥ 2)) = false := by first | exact hs1_ | (rw [bne, hs1_]; rfl) | (have := hs1_; rw [bne] at this; simpa using this)
        have eb_ : ((c2.xs.length : Int) % 2 == 0 && (decide (2 ≤ (c2.xs.length : Int)) && decide ((c2.xs.length : Int) ≤ 250))) = (false) := by first | (simp only [hs0_, hs1_]; first | rfl | (simp; done)) | (simp [hs0_, hs1_]; done) | (simp only [bne, hs0_, hs1_]; first | rfl | (simp; done))
        have EB_ := Aside0.mk eb_
        clear eb_
        go_wp2_with (first | (go_at_call 40; (with_reducible refine (PS.St.need HP.out (false) 5).mono ?_); rintro en x4 ⟨rfl, hp_⟩; have n0_ := Aside0.mk hp_; clear HP hp_; have HP := n0_; clear n0_))
        go_meet
        rw [Ec3.out, EB_.out]
        exact HP
    | false =>
      have hs0a_ : ((c2.xs.length : Int) % 2 != 0) = true := by first | exact hs0_ | (rw [bne, hs0_]; rfl) | (have := hs0_; rw [bne] at this; simpa using this)
      have hs0t_ : (Int.tmod (c2.xs.length : Int) 2 == 0) = false := by rw [Int.tmod_eq_emod_of_nonneg (by omega)]; exact hs0_
      have eb_ : ((c2.xs.length : Int) % 2 == 0 && (decide (2 ≤ (c2.xs.length : Int)) && decide ((c2.xs.length : Int) ≤ 250))) = (false) := by first | (simp only [hs0_]; first | rfl | (simp; done)) | (simp [hs0_]; done) | (simp only [bne, hs0_]; first | rfl | (simp; done))
      have EB_ := Aside0.mk eb_
      clear eb_
      go_wp2_with (first | (go_at_call 40; (with_reducible refine (PS.St.need HP.out (false) 5).mono ?_); rintro en x4 ⟨rfl, hp_⟩; have n0_ := Aside0.mk hp_; clear HP hp_; have HP := n0_; clear n0_))
      go_meet
      rw [Ec3.out, EB_.out]
      exact HP
  case rest =>
  clear HP
  have HP := hcut
  clear hcut
  have HBY := Aside0.mk (Cu.wordsV_bd (PS.St.good HP.out) ((c2.xs.length : Int) / 2))
  go_wp2_with (first | (go_at_call 42; (with_reducible refine (PS.St.words HP.out ((c2.xs.length : Int) / 2)).mono ?_); rintro en x5 ⟨A5, n5, rfl, hz_, hr_, hp_⟩; obtain ⟨c4, ec_⟩ : ∃ z, z = c3.wordsS ((c2.xs.length : Int) / 2) := ⟨_, rfl⟩; rw [← ec_] at hp_; have Ec4 := Aside0.mk ec_; clear ec_; have R5 := Aside0.mk hr_; have R5z := Aside0.mk hz_; clear hr_ hz_; have n0_ := Aside0.mk hp_; clear HP hp_; have HP := n0_; clear n0_; obtain ⟨Aw, nw, kw, fw⟩ := PS.St.at_words HP.out))
  have hp_ := HP.out.put_words R5z.out HBY.out R5.out
  have n0_ := Aside0.mk hp_
  clear HP hp_
  have HP := n0_
  clear n0_
  have eq_ : lineR 0 m c0 = (c4, { m with sub := c0.wordV, words := c3.wordsV ((c2.xs.length : Int) / 2) }) := by
    have e1 : lineR 0 m c0 = echoR { m with sub := c0.wordV } c2 := by
      rw [Ec2.out, Ec1.out]
      show (if c0.wordV = 0 then (_ : Cu → Cu × Msg) else _) _ = _
      rw [if_pos HZ.out]
      rfl
    rw [e1, Ec4.out, Ec3.out]
    rfl
  rw [eq_]
  exact bodyPost_end (results_none rfl _ _ _) rfl (⟨rfl, HP.out⟩)
theorem line_0_1 {w0 w : World} {gr g gm : Nat} {c0 : Cu} {m : Msg} (h : PS.St w0 gr g gm w c0 m) (hz : c0.wordV ≠ 0) (ho : ((c0.wordS.need (subB c0.wordV && ((0 : Int) == 0 || c0.wordV != 4)) 8).wordsV 1).length = 1) :
    Calls Try.prog 21 #[.int .i64 0, .pointer (some ⟨g, 0, none⟩), .pointer (some ⟨gm, 0, none⟩)] w fun en w' => en = .returned (.tuple #[]) ∧ PS.St w0 gr g gm w' (lineR 0 m c0).1 (lineR 0 m c0).2 := by
  have HP := Aside0.mk h
  have HZ := Aside0.mk hz
  clear h hz
  have HO := Aside0.mk ho
  clear ho
  go_enter Try.func21, Try.ntmps21
  go_upto_region 1 with (first | (go_at_call 39; obtain ⟨l0, h0⟩ := Cu.wordV_bd (PS.St.good HP.out); (with_reducible refine (PS.St.word HP.out).mono ?_); rintro en x1 ⟨rfl, hp_⟩; obtain ⟨c1, ec_⟩ : ∃ z, z = c0.wordS := ⟨_, rfl⟩; rw [← ec_] at hp_; have Ec1 := Aside0.mk ec_; clear ec_; obtain ⟨ksub, fsub⟩ := PS.St.at_sub hp_; have n0_ := Aside0.mk hp_; clear HP hp_; have HP := n0_; clear n0_))
  have hp_ := HP.out.put_sub ⟨l0, h0⟩
  have n0_ := Aside0.mk hp_
  clear HP hp_
  have HP := n0_
  clear n0_
  have HWF := Aside0.mk (show (Lit.int .u16 c0.wordV).wf = true from by simp [Lit.wf, IntKind.min, IntKind.max, IntKind.signed, IntKind.bits]; omega)
  obtain ⟨c2, e_⟩ : ∃ z, z = c1.need (subB c0.wordV && ((0 : Int) == 0 || c0.wordV != 4)) 8 := ⟨_, rfl⟩
  have Ec2 := Aside0.mk e_
  clear e_
  obtain ⟨ksub, fsub⟩ := PS.St.at_sub HP.out
  go_cut [] from 12 to 30 (fun wx => Aside0 (PS.St w0 gr g gm wx c2 ({ m with sub := c0.wordV })))
  case first =>
    cases hs0_ : (subB c0.wordV) with
    | true =>
      have eb_ : (subB c0.wordV && ((0 : Int) == 0 || c0.wordV != 4)) = (true) := by first | (simp only [hs0_]; first | rfl | (simp; done)) | (simp [hs0_]; done) | (simp only [bne, hs0_]; first | rfl | (simp; done))
      have EB_ := Aside0.mk eb_
      clear eb_
      go_wp2_with (first | (go_at_call 41; (with_reducible refine (sub_c HWF.out _).mono ?_); rintro en xb ⟨rfl, hb_⟩; have n0_ := Aside0.mk (PS.St.below HP.out hb_); clear HP hb_; have HP := n0_; clear n0_; obtain ⟨ksub, fsub⟩ := PS.St.at_sub HP.out) | (go_at_call 40; (with_reducible refine (PS.St.need HP.out (true) 8).mono ?_); rintro en x2 ⟨rfl, hp_⟩; have n0_ := Aside0.mk hp_; clear HP hp_; have HP := n0_; clear n0_))
      go_meet
      rw [Ec2.out, EB_.out]
      exact HP
    | false =>
      have eb_ : (subB c0.wordV && ((0 : Int) == 0 || c0.wordV != 4)) = (false) := by first | (simp only [hs0_]; first | rfl | (simp; done)) | (simp [hs0_]; done) | (simp only [bne, hs0_]; first | rfl | (simp; done))
      have EB_ := Aside0.mk eb_
      clear eb_
      go_wp2_with (first | (go_at_call 41; (with_reducible refine (sub_c HWF.out _).mono ?_); rintro en xb ⟨rfl, hb_⟩; have n0_ := Aside0.mk (PS.St.below HP.out hb_); clear HP hb_; have HP := n0_; clear n0_; obtain ⟨ksub, fsub⟩ := PS.St.at_sub HP.out) | (go_at_call 40; (with_reducible refine (PS.St.need HP.out (false) 8).mono ?_); rintro en x2 ⟨rfl, hp_⟩; have n0_ := Aside0.mk hp_; clear HP hp_; have HP := n0_; clear n0_))
      go_meet
      rw [Ec2.out, EB_.out]
      exact HP
  case rest =>
  clear HP
  have HP := hcut
  clear hcut
  have hz_ : (c0.wordV != 0) = true := by simpa using HZ.out
  obtain ⟨ksub, fsub⟩ := PS.St.at_sub HP.out
  have HBY := Aside0.mk (Cu.wordsV_bd (PS.St.good HP.out) 1)
  go_upto_region 4 with (first | (go_at_call 42; (with_reducible refine (PS.St.words HP.out (1)).mono ?_); rintro en x3 ⟨A5, n5, rfl, hz_, hr_, hp_⟩; obtain ⟨c3, ec_⟩ : ∃ z, z = c2.wordsS (1) := ⟨_, rfl⟩; rw [← ec_] at hp_; have Ec3 := Aside0.mk ec_; clear ec_; have R5 := Aside0.mk hr_; have R5z := Aside0.mk hz_; clear hr_ hz_; have n0_ := Aside0.mk hp_; clear HP hp_; have HP := n0_; clear n0_; obtain ⟨Aw, nw, kw, fw⟩ := PS.St.at_words HP.out))
  clear hz_
  have HE := Aside0.mk (show c0.wordS.need (subB c0.wordV && ((0 : Int) == 0 || c0.wordV != 4)) 8 = c2 by rw [Ec2.out, Ec1.out])
  obtain ⟨v, hv⟩ : ∃ v, c2.wordsV 1 = [v] := by have := HO.out; rw [HE.out] at this; exact List.length_eq_one_iff.1 this
  have hvb := HBY.out v (by rw [hv]; simp)
  rw [hv] at R5 R5z HBY ⊢
  have HV := Aside0.mk hv
  clear hv
  obtain ⟨ad, rfl, hx⟩ := Kd.at_int (R5.out _ (Kept.refl _ _)) (0 : Int) (by simp) (by simp)
  have KW := Aside0.mk (show (World.setCell x3 ⟨gm, 12, none⟩ (.slice (some ad) 1 n5)).cell? ⟨gm, 12, none⟩ = some (.slice (some ad) 1 n5) from World.cell?_setCell_same _ _ _ (by rw [kw]))
  have HK := Aside0.mk (show Kept x3 (World.setCell x3 ⟨gm, 12, none⟩ (.slice (some ad) 1 n5)) (fun k => k = g ∨ k = gm ∨ k = gr) from (Kept.refl _ _).setCell (p := ⟨gm, 12, none⟩) (.inl (.inr (.inl rfl))) _)
  have HX := Aside0.mk (show ∀ W', Kept x3 W' (fun k => k = g ∨ k = gm ∨ k = gr) → W'.cell? ad = some (.int .u16 v) from fun W' hk => by
    obtain ⟨ad2, e2, hx2⟩ := Kd.at_int (R5.out W' hk) (0 : Int) (by simp) (by simp)
    injection e2 with e2
    rw [← e2] at hx2
    simpa [Addr.add, rd] using hx2)
  have hp_ := HP.out.put_words R5z.out HBY.out R5.out
  have n0_ := Aside0.mk hp_
  clear HP hp_
  have HP := n0_
  clear n0_
  clear hx
  have n0_ := Aside0.mk (((below_drew (Below.refl _ _)).cell (World.block_lt_of_cell? _ _ KW.out)).trans KW.out)
  clear KW
  have KW := n0_
  clear n0_
  have n0_ := Aside0.mk (HK.out.below (below_drew (Below.refl _ _)))
  clear HK
  have HK := n0_
  clear n0_
  have n0_ := Aside0.mk (PS.St.below HP.out (below_drew (Below.refl _ _)))
  clear HP
  have HP := n0_
  clear n0_
  have EB := Aside0.mk (show ((c2.wordsV 1).length == 1 && mayB 0 c0.wordV ((c2.wordsV 1).headD 0)) = (mayB 0 c0.wordV v) from by rw [HV.out]; rfl)
  refine start_ (n := 22) (S := fun w' => w'.cell? ⟨gm, 12, none⟩ = some (.slice (some ad) 1 n5) ∧ w'.cell? ⟨gm, 8, none⟩ = some (.int .u16 c0.wordV) ∧ w'.cell? ad = some (.int .u16 v)) (ds := []) (bm 22 0) (by as_aux_lemma => kernel_rfl) rfl (by as_aux_lemma => kernel_rfl) ⟨KW.out, (PS.St.at_sub HP.out).1, (HX.out _ HK.out)⟩ (fun hHeld => ?_)
  refine with_tabW line.tab4 line.bits4 (fun HT_ HW_ => ?_)
  refine pure_ (i := 0) (N := some 40) (v := ?_) (a' := ?_) (bm 22 1) rfl rfl (any_of HT_.out (by as_aux_lemma => kernel_rfl)) (fun _ _ _ h => h) (Or.inl ⟨by rfl, ?_⟩) ?_ ?_
  rotate_left
  · intro w'
    go_simp
    with_reducible rfl
  rotate_left
  · simp only [Act.put, List.setIfInBounds_toArray, List.set_cons_zero, List.set_cons_succ, i64_w, i32_w]
    rfl
  refine pure_ (i := 1) (N := some 41) (v := ?_) (a' := ?_) (bm 22 3) rfl rfl (any_of HT_.out (by as_aux_lemma => kernel_rfl)) (fun _ _ _ h => h) (Or.inl ⟨by rfl, ?_⟩) ?_ ?_
  rotate_left
  · intro w'
    go_simp
    with_reducible rfl
  rotate_left
  · simp only [Act.put, List.setIfInBounds_toArray, List.set_cons_zero, List.set_cons_succ, i64_w, i32_w]
    rfl
  refine pure_ (i := 2) (N := some 42) (v := ?_) (a' := ?_) (bm 22 7) rfl rfl (any_of HT_.out (by as_aux_lemma => kernel_rfl)) (fun _ _ _ h => h) (Or.inl ⟨by rfl, ?_⟩) ?_ ?_
  rotate_left
  · intro w'
    go_simp
    with_reducible rfl
  rotate_left
  · simp only [Act.put, List.setIfInBounds_toArray, List.set_cons_zero, List.set_cons_succ, i64_w, i32_w]
    rfl
  refine pure_ (i := 3) (N := some 43) (v := ?_) (a' := ?_) (bm 22 15) rfl rfl (any_of HT_.out (by as_aux_lemma => kernel_rfl)) (fun _ _ _ h => h) (Or.inl ⟨by rfl, ?_⟩) ?_ ?_
  rotate_left
  · intro w'
    go_simp
    with_reducible rfl
  rotate_left
  · simp only [Act.put, List.setIfInBounds_toArray, List.set_cons_zero, List.set_cons_succ, i64_w, i32_w]
    rfl
  refine take_ (i := 4) (N := some 44) (v := ?_) (a' := ?_) (bm 22 31) rfl rfl (take_ofW HT_.out HW_.out (by as_aux_lemma => kernel_rfl)) (fun _ _ _ h => h) (Or.inl ⟨by rfl, ?_⟩) hHeld ?_ ?_
  rotate_left
  · rintro w' ⟨s0, s1, s2⟩
    go_simp
    with_reducible rfl
  rotate_left
  · simp only [Act.put, List.setIfInBounds_toArray, List.set_cons_zero, List.set_cons_succ, i64_w, i32_w]
    rfl
  refine pure_ (i := 5) (N := some 45) (v := ?_) (a' := ?_) (bm 22 63) rfl rfl (any_of HT_.out (by as_aux_lemma => kernel_rfl)) (fun _ _ _ h => h) (Or.inl ⟨by rfl, ?_⟩) ?_ ?_
  rotate_left
  · intro w'
    go_simp
    with_reducible rfl
  rotate_left
  · simp only [Act.put, List.setIfInBounds_toArray, List.set_cons_zero, List.set_cons_succ, i64_w, i32_w]
    rfl
  refine pure_ (i := 6) (N := some 46) (v := ?_) (a' := ?_) (bm 22 127) rfl rfl (any_of HT_.out (by as_aux_lemma => kernel_rfl)) (fun _ _ _ h => h) (Or.inl ⟨by rfl, ?_⟩) ?_ ?_
  rotate_left
  · intro w'
    go_simp
    with_reducible rfl
  rotate_left
  · simp only [Act.put, List.setIfInBounds_toArray, List.set_cons_zero, List.set_cons_succ, i64_w, i32_w]
    rfl
  refine pure_ (i := 7) (N := some 47) (v := ?_) (a' := ?_) (bm 22 255) rfl rfl (any_of HT_.out (by as_aux_lemma => kernel_rfl)) (fun _ _ _ h => h) (Or.inl ⟨by rfl, ?_⟩) ?_ ?_
  rotate_left
  · intro w'
    go_simp
    with_reducible rfl
  rotate_left
  · simp only [Act.put, List.setIfInBounds_toArray, List.set_cons_zero, List.set_cons_succ, i64_w, i32_w]
    rfl
  refine pure_ (i := 8) (N := some 48) (v := ?_) (a' := ?_) (bm 22 511) rfl rfl (any_of HT_.out (by as_aux_lemma => kernel_rfl)) (fun _ _ _ h => h) (Or.inl ⟨by rfl, ?_⟩) ?_ ?_
  rotate_left
  · intro w'
    go_simp
    with_reducible rfl
  rotate_left
  · simp only [Act.put, List.setIfInBounds_toArray, List.set_cons_zero, List.set_cons_succ, i64_w, i32_w]
    rfl
  refine pure_ (i := 9) (N := some 49) (v := ?_) (a' := ?_) (bm 22 1023) rfl rfl (any_of HT_.out (by as_aux_lemma => kernel_rfl)) (fun _ _ _ h => h) (Or.inl ⟨by rfl, ?_⟩) ?_ ?_
  rotate_left
  · intro w'
    go_simp
    with_reducible rfl
  rotate_left
  · simp only [Act.put, List.setIfInBounds_toArray, List.set_cons_zero, List.set_cons_succ, i64_w, i32_w]
    rfl
  refine pure_ (i := 10) (N := some 50) (v := ?_) (a' := ?_) (bm 22 2047) rfl rfl (any_of HT_.out (by as_aux_lemma => kernel_rfl)) (fun _ _ _ h => h) (Or.inl ⟨by rfl, ?_⟩) ?_ ?_
  rotate_left
  · intro w'
    go_simp
    with_reducible rfl
  rotate_left
  · simp only [Act.put, List.setIfInBounds_toArray, List.set_cons_zero, List.set_cons_succ, i64_w, i32_w]
    rfl
  refine pure_ (i := 11) (N := some 51) (v := ?_) (a' := ?_) (bm 22 4095) rfl rfl (any_of HT_.out (by as_aux_lemma => kernel_rfl)) (fun _ _ _ h => h) (Or.inl ⟨by rfl, ?_⟩) ?_ ?_
  rotate_left
  · intro w'
    go_simp
    with_reducible rfl
  rotate_left
  · simp only [Act.put, List.setIfInBounds_toArray, List.set_cons_zero, List.set_cons_succ, i64_w, i32_w]
    rfl
  refine pure_ (i := 13) (N := some 53) (v := ?_) (a' := ?_) (bm 22 12287) rfl rfl (any_of HT_.out (by as_aux_lemma => kernel_rfl)) (fun _ _ _ h => h) (Or.inl ⟨by rfl, ?_⟩) ?_ ?_
  rotate_left
  · intro w'
    go_simp
    with_reducible rfl
  rotate_left
  · simp only [Act.put, List.setIfInBounds_toArray, List.set_cons_zero, List.set_cons_succ, i64_w, i32_w]
    rfl
  refine pure_ (i := 14) (N := some 54) (v := ?_) (a' := ?_) (bm 22 28671) rfl rfl (any_of HT_.out (by as_aux_lemma => kernel_rfl)) (fun _ _ _ h => h) (Or.inl ⟨by rfl, ?_⟩) ?_ ?_
  rotate_left
  · intro w'
    go_simp
    with_reducible rfl
  rotate_left
  · simp only [Act.put, List.setIfInBounds_toArray, List.set_cons_zero, List.set_cons_succ, i64_w, i32_w]
    rfl
  refine pure_ (i := 15) (N := some 55) (v := ?_) (a' := ?_) (bm 22 61439) rfl rfl (any_of HT_.out (by as_aux_lemma => kernel_rfl)) (fun _ _ _ h => h) (Or.inl ⟨by rfl, ?_⟩) ?_ ?_
  rotate_left
  · intro w'
    go_simp
    with_reducible rfl
  rotate_left
  · simp only [Act.put, List.setIfInBounds_toArray, List.set_cons_zero, List.set_cons_succ, i64_w, i32_w]
    rfl
  refine take_ (i := 12) (N := some 52) (v := ?_) (a' := ?_) (bm 22 65535) rfl rfl (take_ofW HT_.out HW_.out (by as_aux_lemma => kernel_rfl)) (fun _ _ _ h => h) (Or.inl ⟨by rfl, ?_⟩) hHeld ?_ ?_
  rotate_left
  · rintro w' ⟨s0, s1, s2⟩
    go_simp
    with_reducible rfl
  rotate_left
  · simp only [Act.put, List.setIfInBounds_toArray, List.set_cons_zero, List.set_cons_succ, i64_w, i32_w]
    rfl
  refine take_ (i := 16) (N := some 56) (v := ?_) (a' := ?_) (bm 22 131071) rfl rfl (take_ofW HT_.out HW_.out (by as_aux_lemma => kernel_rfl)) (fun _ _ _ h => h) (Or.inl ⟨by rfl, ?_⟩) hHeld ?_ ?_
  rotate_left
  · rintro w' ⟨s0, s1, s2⟩
    go_simp
    with_reducible rfl
  rotate_left
  · simp only [Act.put, List.setIfInBounds_toArray, List.set_cons_zero, List.set_cons_succ, i64_w, i32_w]
    rfl
  refine pure_ (i := 17) (N := some 57) (v := ?_) (a' := ?_) (bm 22 262143) rfl rfl (any_of HT_.out (by as_aux_lemma => kernel_rfl)) (fun _ _ _ h => h) (Or.inl ⟨by rfl, ?_⟩) ?_ ?_
  rotate_left
  · intro w'
    go_simp
    with_reducible rfl
  rotate_left
  · simp only [Act.put, List.setIfInBounds_toArray, List.set_cons_zero, List.set_cons_succ, i64_w, i32_w]
    rfl
  refine take_ (i := 18) (N := some 58) (v := ?_) (a' := ?_) (bm 22 524287) rfl rfl (take_ofW HT_.out HW_.out (by as_aux_lemma => kernel_rfl)) (fun _ _ _ h => h) (Or.inl ⟨by rfl, ?_⟩) hHeld ?_ ?_
  rotate_left
  · rintro w' ⟨s0, s1, s2⟩
    go_simp
    with_reducible rfl
  rotate_left
  · simp only [Act.put, List.setIfInBounds_toArray, List.set_cons_zero, List.set_cons_succ, i64_w, i32_w]
    rfl
  refine one_ (i := 19) (N := some 59) (bm 22 1048575) rfl rfl (one_of HT_.out (by as_aux_lemma => kernel_rfl)) (by as_aux_lemma => decide) (fun K hK => ?_)
  refine goes_ Try.func43 (by as_aux_lemma => kernel_rfl) rfl #[.int .i64 0, .int .u16 c0.wordV, .int .u16 v] (by rfl) rfl rfl (by simp only [List.map_toArray, List.map_cons, List.map_nil]; rfl) ?_
  with_reducible refine (may_any (.inl rfl) ⟨l0, h0⟩ hvb _).mono ?_
  rintro en x90 ⟨rfl, hb_⟩
  have n0_ := Aside0.mk ((hb_.cell (World.block_lt_of_cell? _ _ KW.out)).trans KW.out)
  clear KW
  have KW := n0_
  clear n0_
  have n0_ := Aside0.mk (HK.out.below hb_)
  clear HK
  have HK := n0_
  clear n0_
  have n0_ := Aside0.mk (PS.St.below HP.out hb_)
  clear HP
  have HP := n0_
  clear n0_
  clear hb_
  refine ⟨_, rfl, ?_⟩
  refine hK.out _ _ ⟨KW.out, (PS.St.at_sub HP.out).1, (HX.out _ HK.out)⟩ (fun hHeld => ?_)
  clear hK K
  refine norm_ (a' := ?_) ?_ ?_
  rotate_left
  · show Act.put _ (some 59) _ = _
    simp only [Act.put, List.setIfInBounds_toArray, List.set_cons_zero, List.set_cons_succ, i64_w, i32_w]
    rfl
  refine pure_ (i := 20) (N := some 60) (v := ?_) (a' := ?_) (bm 22 2097151) rfl rfl (any_of HT_.out (by as_aux_lemma => kernel_rfl)) (fun _ _ _ h => h) (Or.inl ⟨by rfl, ?_⟩) ?_ ?_
  rotate_left
  · intro w'
    go_simp
    with_reducible rfl
  rotate_left
  · simp only [Act.put, List.setIfInBounds_toArray, List.set_cons_zero, List.set_cons_succ, i64_w, i32_w]
    rfl
  refine one_ (i := 21) (N := some 61) (bm 22 4194303) rfl rfl (one_of HT_.out (by as_aux_lemma => kernel_rfl)) (by as_aux_lemma => decide) (fun K hK => ?_)
  refine goes_ Try.func40 (by as_aux_lemma => kernel_rfl) rfl #[.pointer (some ⟨g, 0, none⟩), .bool (mayB 0 c0.wordV v), .int .i64 6] (by rfl) rfl rfl (by simp only [List.map_toArray, List.map_cons, List.map_nil]; rfl) ?_
  with_reducible refine (need_k HP.out (mayB 0 c0.wordV v) 6).mono ?_
  rintro en x4 ⟨rfl, hp_, hk_⟩
  rw [← EB.out] at hp_
  have n0_ := Aside0.mk (cell_kept KW.out hk_ (fun e => hp_.h2.1 e))
  clear KW
  have KW := n0_
  clear n0_
  have n0_ := Aside0.mk (HK.out.then_ hk_ (fun k e => .inl (.inl e)))
  clear HK hk_
  have HK := n0_
  clear n0_
  obtain ⟨c4, ec_⟩ : ∃ z, z = c3.need ((c2.wordsV 1).length == 1 && mayB 0 c0.wordV ((c2.wordsV 1).headD 0)) 6 := ⟨_, rfl⟩
  rw [← ec_] at hp_
  have Ec4 := Aside0.mk ec_
  clear ec_
  have n0_ := Aside0.mk hp_
  clear HP hp_
  have HP := n0_
  clear n0_
  refine ⟨_, rfl, ?_⟩
  refine hK.out _ _ ⟨KW.out, (PS.St.at_sub HP.out).1, (HX.out _ HK.out)⟩ (fun hHeld => ?_)
  clear hK K
  refine norm_ (a' := ?_) ?_ ?_
  rotate_left
  · show Act.put _ (some 61) _ = _
    simp only [Act.put, List.setIfInBounds_toArray, List.set_cons_zero, List.set_cons_succ, i64_w, i32_w]
    rfl
  refine done_ (done_of HT_.out (by as_aux_lemma => kernel_rfl)) ?_
  go_wp2
  have eq_ : lineR 0 m c0 = (c4, { m with sub := c0.wordV, words := [v] }) := by
    simp only [lineR, ansR, eventsR, logsR, nameR, Rd.bind, Rd.byte, Rd.word, Rd.bytes, Rd.words, Rd.need, Rd.ret, leftR, ← Ec1.out, ← Ec2.out]
    rw [if_neg HZ.out]
    simp only [ansR, eventsR, logsR, nameR, Rd.bind, Rd.byte, Rd.word, Rd.bytes, Rd.words, Rd.need, Rd.ret, leftR, ← Ec3.out, ← Ec4.out]
    rw [HV.out]
  rw [eq_]
  exact bodyPost_ret (results_none rfl _ _ _) rfl (⟨rfl, HP.out⟩)
theorem line_0_0 {w0 w : World} {gr g gm : Nat} {c0 : Cu} {m : Msg} (h : PS.St w0 gr g gm w c0 m) (hz : c0.wordV ≠ 0) (ho : ((c0.wordS.need (subB c0.wordV && ((0 : Int) == 0 || c0.wordV != 4)) 8).wordsV 1).length ≠ 1) :
    Calls Try.prog 21 #[.int .i64 0, .pointer (some ⟨g, 0, none⟩), .pointer (some ⟨gm, 0, none⟩)] w fun en w' => en = .returned (.tuple #[]) ∧ PS.St w0 gr g gm w' (lineR 0 m c0).1 (lineR 0 m c0).2 := by
  have HP := Aside0.mk h
  have HZ := Aside0.mk hz
  clear h hz
  have HO := Aside0.mk ho
  clear ho
  go_enter Try.func21, Try.ntmps21
  go_upto_region 1 with (first | (go_at_call 39; obtain ⟨l0, h0⟩ := Cu.wordV_bd (PS.St.good HP.out); (with_reducible refine (PS.St.word HP.out).mono ?_); rintro en x1 ⟨rfl, hp_⟩; obtain ⟨c1, ec_⟩ : ∃ z, z = c0.wordS := ⟨_, rfl⟩; rw [← ec_] at hp_; have Ec1 := Aside0.mk ec_; clear ec_; obtain ⟨ksub, fsub⟩ := PS.St.at_sub hp_; have n0_ := Aside0.mk hp_; clear HP hp_; have HP := n0_; clear n0_))
  have hp_ := HP.out.put_sub ⟨l0, h0⟩
  have n0_ := Aside0.mk hp_
  clear HP hp_
  have HP := n0_
  clear n0_
  have HWF := Aside0.mk (show (Lit.int .u16 c0.wordV).wf = true from by simp [Lit.wf, IntKind.min, IntKind.max, IntKind.signed, IntKind.bits]; omega)
  obtain ⟨c2, e_⟩ : ∃ z, z = c1.need (subB c0.wordV && ((0 : Int) == 0 || c0.wordV != 4)) 8 := ⟨_, rfl⟩
  have Ec2 := Aside0.mk e_
  clear e_
  obtain ⟨ksub, fsub⟩ := PS.St.at_sub HP.out
  go_cut [] from 12 to 30 (fun wx => Aside0 (PS.St w0 gr g gm wx c2 ({ m with sub := c0.wordV })))
  case first =>
    cases hs0_ : (subB c0.wordV) with
    | true =>
      have eb_ : (subB c0.wordV && ((0 : Int) == 0 || c0.wordV != 4)) = (true) := by first | (simp only [hs0_]; first | rfl | (simp; done)) | (simp [hs0_]; done) | (simp only [bne, hs0_]; first | rfl | (simp; done))
      have EB_ := Aside0.mk eb_
      clear eb_
      go_wp2_with (first | (go_at_call 41; (with_reducible refine (sub_c HWF.out _).mono ?_); rintro en xb ⟨rfl, hb_⟩; have n0_ := Aside0.mk (PS.St.below HP.out hb_); clear HP hb_; have HP := n0_; clear n0_; obtain ⟨ksub, fsub⟩ := PS.St.at_sub HP.out) | (go_at_call 40; (with_reducible refine (PS.St.need HP.out (true) 8).mono ?_); rintro en x2 ⟨rfl, hp_⟩; have n0_ := Aside0.mk hp_; clear HP hp_; have HP := n0_; clear n0_))
      go_meet
      rw [Ec2.out, EB_.out]
      exact HP
    | false =>
      have eb_ : (subB c0.wordV && ((0 : Int) == 0 || c0.wordV != 4)) = (false) := by first | (simp only [hs0_]; first | rfl | (simp; done)) | (simp [hs0_]; done) | (simp only [bne, hs0_]; first | rfl | (simp; done))
      have EB_ := Aside0.mk eb_
      clear eb_
      go_wp2_with (first | (go_at_call 41; (with_reducible refine (sub_c HWF.out _).mono ?_); rintro en xb ⟨rfl, hb_⟩; have n0_ := Aside0.mk (PS.St.below HP.out hb_); clear HP hb_; have HP := n0_; clear n0_; obtain ⟨ksub, fsub⟩ := PS.St.at_sub HP.out) | (go_at_call 40; (with_reducible refine (PS.St.need HP.out (false) 8).mono ?_); rintro en x2 ⟨rfl, hp_⟩; have n0_ := Aside0.mk hp_; clear HP hp_; have HP := n0_; clear n0_))
      go_meet
      rw [Ec2.out, EB_.out]
      exact HP
  case rest =>
  clear HP
  have HP := hcut
  clear hcut
  have hz_ : (c0.wordV != 0) = true := by simpa using HZ.out
  obtain ⟨ksub, fsub⟩ := PS.St.at_sub HP.out
  have HBY := Aside0.mk (Cu.wordsV_bd (PS.St.good HP.out) 1)
  go_upto_region 4 with (first | (go_at_call 42; (with_reducible refine (PS.St.words HP.out (1)).mono ?_); rintro en x3 ⟨A5, n5, rfl, hz_, hr_, hp_⟩; obtain ⟨c3, ec_⟩ : ∃ z, z = c2.wordsS (1) := ⟨_, rfl⟩; rw [← ec_] at hp_; have Ec3 := Aside0.mk ec_; clear ec_; have R5 := Aside0.mk hr_; have R5z := Aside0.mk hz_; clear hr_ hz_; have n0_ := Aside0.mk hp_; clear HP hp_; have HP := n0_; clear n0_; obtain ⟨Aw, nw, kw, fw⟩ := PS.St.at_words HP.out))
  clear hz_
  have HE := Aside0.mk (show c0.wordS.need (subB c0.wordV && ((0 : Int) == 0 || c0.wordV != 4)) 8 = c2 by rw [Ec2.out, Ec1.out])
  have KW := Aside0.mk (show (World.setCell x3 ⟨gm, 12, none⟩ (.slice A5 (c2.wordsV 1).length n5)).cell? ⟨gm, 12, none⟩ = some (.slice A5 (c2.wordsV 1).length n5) from World.cell?_setCell_same _ _ _ (by rw [kw]))
  have HK := Aside0.mk (show Kept x3 (World.setCell x3 ⟨gm, 12, none⟩ (.slice A5 (c2.wordsV 1).length n5)) (fun k => k = g ∨ k = gm ∨ k = gr) from (Kept.refl _ _).setCell (p := ⟨gm, 12, none⟩) (.inl (.inr (.inl rfl))) _)
  have hp_ := HP.out.put_words R5z.out HBY.out R5.out
  have n0_ := Aside0.mk hp_
  clear HP hp_
  have HP := n0_
  clear n0_
  have n0_ := Aside0.mk (((below_drew (Below.refl _ _)).cell (World.block_lt_of_cell? _ _ KW.out)).trans KW.out)
  clear KW
  have KW := n0_
  clear n0_
  have n0_ := Aside0.mk (HK.out.below (below_drew (Below.refl _ _)))
  clear HK
  have HK := n0_
  clear n0_
  have n0_ := Aside0.mk (PS.St.below HP.out (below_drew (Below.refl _ _)))
  clear HP
  have HP := n0_
  clear n0_
  have EB := Aside0.mk (show ((c2.wordsV 1).length == 1 && mayB 0 c0.wordV ((c2.wordsV 1).headD 0)) = (false) from by rw [show ((c2.wordsV 1).length == 1) = false from beq_eq_false_iff_ne.2 (by have := HO.out; rw [HE.out] at this; exact this)]; rfl)
  have hl1 : ((((c2.wordsV 1).length : Nat) : Int) == 1) = false := beq_eq_false_iff_ne.2 (by have := HO.out; rw [HE.out] at this; omega)
  refine start_ (n := 22) (S := fun w' => w'.cell? ⟨gm, 12, none⟩ = some (.slice A5 (c2.wordsV 1).length n5)) (ds := []) (bm 22 0) (by as_aux_lemma => kernel_rfl) rfl (by as_aux_lemma => kernel_rfl) (KW.out) (fun hHeld => ?_)
  refine with_tabW line.tab4 line.bits4 (fun HT_ HW_ => ?_)
  refine pure_ (i := 0) (N := some 40) (v := ?_) (a' := ?_) (bm 22 1) rfl rfl (any_of HT_.out (by as_aux_lemma => kernel_rfl)) (fun _ _ _ h => h) (Or.inl ⟨by rfl, ?_⟩) ?_ ?_
  rotate_left
  · intro w'
    go_simp
    with_reducible rfl
  rotate_left
  · simp only [Act.put, List.setIfInBounds_toArray, List.set_cons_zero, List.set_cons_succ, i64_w, i32_w]
    rfl
  refine pure_ (i := 1) (N := some 41) (v := ?_) (a' := ?_) (bm 22 3) rfl rfl (any_of HT_.out (by as_aux_lemma => kernel_rfl)) (fun _ _ _ h => h) (Or.inl ⟨by rfl, ?_⟩) ?_ ?_
  rotate_left
  · intro w'
    go_simp
    with_reducible rfl
  rotate_left
  · simp only [Act.put, List.setIfInBounds_toArray, List.set_cons_zero, List.set_cons_succ, i64_w, i32_w]
    rfl
  refine pure_ (i := 2) (N := some 42) (v := ?_) (a' := ?_) (bm 22 7) rfl rfl (any_of HT_.out (by as_aux_lemma => kernel_rfl)) (fun _ _ _ h => h) (Or.inl ⟨by rfl, ?_⟩) ?_ ?_
  rotate_left
  · intro w'
    go_simp
    with_reducible rfl
  rotate_left
  · simp only [Act.put, List.setIfInBounds_toArray, List.set_cons_zero, List.set_cons_succ, i64_w, i32_w]
    rfl
  refine pure_ (i := 3) (N := some 43) (v := ?_) (a' := ?_) (bm 22 15) rfl rfl (any_of HT_.out (by as_aux_lemma => kernel_rfl)) (fun _ _ _ h => h) (Or.inl ⟨by rfl, ?_⟩) ?_ ?_
  rotate_left
  · intro w'
    go_simp
    with_reducible rfl
  rotate_left
  · simp only [Act.put, List.setIfInBounds_toArray, List.set_cons_zero, List.set_cons_succ, i64_w, i32_w]
    rfl
  refine take_ (i := 4) (N := some 44) (v := ?_) (a' := ?_) (bm 22 31) rfl rfl (take_ofW HT_.out HW_.out (by as_aux_lemma => kernel_rfl)) (fun _ _ _ h => h) (Or.inl ⟨by rfl, ?_⟩) hHeld ?_ ?_
  rotate_left
  · intro w' s0
    go_simp
    with_reducible rfl
  rotate_left
  · simp only [Act.put, List.setIfInBounds_toArray, List.set_cons_zero, List.set_cons_succ, i64_w, i32_w]
    rfl
  refine pure_ (i := 5) (N := some 45) (v := ?_) (a' := ?_) (bm 22 63) rfl rfl (any_of HT_.out (by as_aux_lemma => kernel_rfl)) (fun _ _ _ h => h) (Or.inl ⟨by rfl, ?_⟩) ?_ ?_
  rotate_left
  · intro w'
    go_simp
    with_reducible rfl
  rotate_left
  · simp only [Act.put, List.setIfInBounds_toArray, List.set_cons_zero, List.set_cons_succ, i64_w, i32_w]
    rfl
  refine pure_ (i := 6) (N := some 46) (v := ?_) (a' := ?_) (bm 22 127) rfl rfl (any_of HT_.out (by as_aux_lemma => kernel_rfl)) (fun _ _ _ h => h) (Or.inl ⟨by rfl, ?_⟩) ?_ ?_
  rotate_left
  · intro w'
    go_simp
    with_reducible rfl
  rotate_left
  · simp only [Act.put, List.setIfInBounds_toArray, List.set_cons_zero, List.set_cons_succ, i64_w, i32_w]
    rfl
  refine pure_ (i := 7) (N := some 47) (v := ?_) (a' := ?_) (bm 22 255) rfl rfl (any_of HT_.out (by as_aux_lemma => kernel_rfl)) (fun _ _ _ h => h) (Or.inl ⟨by rfl, ?_⟩) ?_ ?_
  rotate_left
  · intro w'
    go_simp
    with_reducible rfl
  rotate_left
  · simp only [Act.put, List.setIfInBounds_toArray, List.set_cons_zero, List.set_cons_succ, i64_w, i32_w]
    rfl
  refine pure_ (i := 8) (N := some 48) (v := undef) (a' := ?_) (bm 22 511) rfl rfl (any_of HT_.out (by as_aux_lemma => kernel_rfl)) (fun _ _ _ h => h) (Or.inr ⟨by rfl, rfl⟩) ?_ ?_
  rotate_left
  · simp only [Act.put, List.setIfInBounds_toArray, List.set_cons_zero, List.set_cons_succ, i64_w, i32_w]
    rfl
  refine pure_ (i := 9) (N := some 49) (v := undef) (a' := ?_) (bm 22 1023) rfl rfl (any_of HT_.out (by as_aux_lemma => kernel_rfl)) (fun _ _ _ h => h) (Or.inr ⟨by rfl, rfl⟩) ?_ ?_
  rotate_left
  · simp only [Act.put, List.setIfInBounds_toArray, List.set_cons_zero, List.set_cons_succ, i64_w, i32_w]
    rfl
  refine pure_ (i := 10) (N := some 50) (v := undef) (a' := ?_) (bm 22 2047) rfl rfl (any_of HT_.out (by as_aux_lemma => kernel_rfl)) (fun _ _ _ h => h) (Or.inr ⟨by rfl, rfl⟩) ?_ ?_
  rotate_left
  · simp only [Act.put, List.setIfInBounds_toArray, List.set_cons_zero, List.set_cons_succ, i64_w, i32_w]
    rfl
  refine pure_ (i := 11) (N := some 51) (v := undef) (a' := ?_) (bm 22 4095) rfl rfl (any_of HT_.out (by as_aux_lemma => kernel_rfl)) (fun _ _ _ h => h) (Or.inr ⟨by rfl, rfl⟩) ?_ ?_
  rotate_left
  · simp only [Act.put, List.setIfInBounds_toArray, List.set_cons_zero, List.set_cons_succ, i64_w, i32_w]
    rfl
  refine pure_ (i := 12) (N := some 52) (v := undef) (a' := ?_) (bm 22 8191) rfl rfl (any_of HT_.out (by as_aux_lemma => kernel_rfl)) (fun _ _ _ h => h) (Or.inr ⟨by rfl, rfl⟩) ?_ ?_
  rotate_left
  · simp only [Act.put, List.setIfInBounds_toArray, List.set_cons_zero, List.set_cons_succ, i64_w, i32_w]
    rfl
  refine pure_ (i := 13) (N := some 53) (v := undef) (a' := ?_) (bm 22 16383) rfl rfl (any_of HT_.out (by as_aux_lemma => kernel_rfl)) (fun _ _ _ h => h) (Or.inr ⟨by rfl, rfl⟩) ?_ ?_
  rotate_left
  · simp only [Act.put, List.setIfInBounds_toArray, List.set_cons_zero, List.set_cons_succ, i64_w, i32_w]
    rfl
  refine pure_ (i := 14) (N := some 54) (v := undef) (a' := ?_) (bm 22 32767) rfl rfl (any_of HT_.out (by as_aux_lemma => kernel_rfl)) (fun _ _ _ h => h) (Or.inr ⟨by rfl, rfl⟩) ?_ ?_
  rotate_left
  · simp only [Act.put, List.setIfInBounds_toArray, List.set_cons_zero, List.set_cons_succ, i64_w, i32_w]
    rfl
  refine pure_ (i := 15) (N := some 55) (v := undef) (a' := ?_) (bm 22 65535) rfl rfl (any_of HT_.out (by as_aux_lemma => kernel_rfl)) (fun _ _ _ h => h) (Or.inr ⟨by rfl, rfl⟩) ?_ ?_
  rotate_left
  · simp only [Act.put, List.setIfInBounds_toArray, List.set_cons_zero, List.set_cons_succ, i64_w, i32_w]
    rfl
  refine pure_ (i := 16) (N := some 56) (v := undef) (a' := ?_) (bm 22 131071) rfl rfl (any_of HT_.out (by as_aux_lemma => kernel_rfl)) (fun _ _ _ h => h) (Or.inr ⟨by rfl, rfl⟩) ?_ ?_
  rotate_left
  · simp only [Act.put, List.setIfInBounds_toArray, List.set_cons_zero, List.set_cons_succ, i64_w, i32_w]
    rfl
  refine pure_ (i := 17) (N := some 57) (v := undef) (a' := ?_) (bm 22 262143) rfl rfl (any_of HT_.out (by as_aux_lemma => kernel_rfl)) (fun _ _ _ h => h) (Or.inr ⟨by rfl, rfl⟩) ?_ ?_
  rotate_left
  · simp only [Act.put, List.setIfInBounds_toArray, List.set_cons_zero, List.set_cons_succ, i64_w, i32_w]
    rfl
  refine pure_ (i := 18) (N := some 58) (v := undef) (a' := ?_) (bm 22 524287) rfl rfl (any_of HT_.out (by as_aux_lemma => kernel_rfl)) (fun _ _ _ h => h) (Or.inr ⟨by rfl, rfl⟩) ?_ ?_
  rotate_left
  · simp only [Act.put, List.setIfInBounds_toArray, List.set_cons_zero, List.set_cons_succ, i64_w, i32_w]
    rfl
  refine pure_ (i := 19) (N := some 59) (v := undef) (a' := ?_) (bm 22 1048575) rfl rfl (any_of HT_.out (by as_aux_lemma => kernel_rfl)) (fun _ _ _ h => h) (Or.inr ⟨by rfl, rfl⟩) ?_ ?_
  rotate_left
  · simp only [Act.put, List.setIfInBounds_toArray, List.set_cons_zero, List.set_cons_succ, i64_w, i32_w]
    rfl
  refine pure_ (i := 20) (N := some 60) (v := ?_) (a' := ?_) (bm 22 2097151) rfl rfl (any_of HT_.out (by as_aux_lemma => kernel_rfl)) (fun _ _ _ h => h) (Or.inl ⟨by rfl, ?_⟩) ?_ ?_
  rotate_left
  · intro w'
    go_simp
    with_reducible rfl
  rotate_left
  · simp only [Act.put, List.setIfInBounds_toArray, List.set_cons_zero, List.set_cons_succ, i64_w, i32_w]
    rfl
  refine one_ (i := 21) (N := some 61) (bm 22 4194303) rfl rfl (one_of HT_.out (by as_aux_lemma => kernel_rfl)) (by as_aux_lemma => decide) (fun K hK => ?_)
  refine goes_ Try.func40 (by as_aux_lemma => kernel_rfl) rfl #[.pointer (some ⟨g, 0, none⟩), .bool (false), .int .i64 6] (by rfl) rfl rfl (by simp only [List.map_toArray, List.map_cons, List.map_nil]; rfl) ?_
  with_reducible refine (need_k HP.out (false) 6).mono ?_
  rintro en x4 ⟨rfl, hp_, hk_⟩
  rw [← EB.out] at hp_
  have n0_ := Aside0.mk (cell_kept KW.out hk_ (fun e => hp_.h2.1 e))
  clear KW
  have KW := n0_
  clear n0_
  have n0_ := Aside0.mk (HK.out.then_ hk_ (fun k e => .inl (.inl e)))
  clear HK hk_
  have HK := n0_
  clear n0_
  obtain ⟨c4, ec_⟩ : ∃ z, z = c3.need ((c2.wordsV 1).length == 1 && mayB 0 c0.wordV ((c2.wordsV 1).headD 0)) 6 := ⟨_, rfl⟩
  rw [← ec_] at hp_
  have Ec4 := Aside0.mk ec_
  clear ec_
  have n0_ := Aside0.mk hp_
  clear HP hp_
  have HP := n0_
  clear n0_
  refine ⟨_, rfl, ?_⟩
  refine hK.out _ _ (KW.out) (fun hHeld => ?_)
  clear hK K
  refine norm_ (a' := ?_) ?_ ?_
  rotate_left
  · show Act.put _ (some 61) _ = _
    simp only [Act.put, List.setIfInBounds_toArray, List.set_cons_zero, List.set_cons_succ, i64_w, i32_w]
    rfl
  refine done_ (done_of HT_.out (by as_aux_lemma => kernel_rfl)) ?_
  go_wp2
  have eq_ : lineR 0 m c0 = (c4, { m with sub := c0.wordV, words := c2.wordsV 1 }) := by
    simp only [lineR, ansR, eventsR, logsR, nameR, Rd.bind, Rd.byte, Rd.word, Rd.bytes, Rd.words, Rd.need, Rd.ret, leftR, ← Ec1.out, ← Ec2.out]
    rw [if_neg HZ.out]
    simp only [ansR, eventsR, logsR, nameR, Rd.bind, Rd.byte, Rd.word, Rd.bytes, Rd.words, Rd.need, Rd.ret, leftR, ← Ec3.out, ← Ec4.out]
  rw [eq_]
  exact bodyPost_ret (results_none rfl _ _ _) rfl (⟨rfl, HP.out⟩)
theorem line_0 {w0 w : World} {gr g gm : Nat} {c0 : Cu} {m : Msg} (h : PS.St w0 gr g gm w c0 m) : Calls Try.prog 21 #[.int .i64 0, .pointer (some ⟨g, 0, none⟩), .pointer (some ⟨gm, 0, none⟩)] w fun en w' => en = .returned (.tuple #[]) ∧ PS.St w0 gr g gm w' (lineR 0 m c0).1 (lineR 0 m c0).2 := by
  by_cases hz : c0.wordV = 0
  · exact line_0_e h hz
  by_cases ho : ((c0.wordS.need (subB c0.wordV && ((0 : Int) == 0 || c0.wordV != 4)) 8).wordsV 1).length = 1
  · exact line_0_1 h hz ho
  · exact line_0_0 h hz ho
theorem line_1_e {w0 w : World} {gr g gm : Nat} {c0 : Cu} {m : Msg} (h : PS.St w0 gr g gm w c0 m) (hz : c0.wordV = 0) :
    Calls Try.prog 21 #[.int .i64 1, .pointer (some ⟨g, 0, none⟩), .pointer (some ⟨gm, 0, none⟩)] w fun en w' => en = .returned (.tuple #[]) ∧ PS.St w0 gr g gm w' (lineR 1 m c0).1 (lineR 1 m c0).2 := by
  have HP := Aside0.mk h
  have HZ := Aside0.mk hz
  clear h hz
  go_enter Try.func21, Try.ntmps21
  go_upto_region 1 with (first | (go_at_call 39; obtain ⟨l0, h0⟩ := Cu.wordV_bd (PS.St.good HP.out); (with_reducible refine (PS.St.word HP.out).mono ?_); rintro en x1 ⟨rfl, hp_⟩; obtain ⟨c1, ec_⟩ : ∃ z, z = c0.wordS := ⟨_, rfl⟩; rw [← ec_] at hp_; have Ec1 := Aside0.mk ec_; clear ec_; obtain ⟨ksub, fsub⟩ := PS.St.at_sub hp_; have n0_ := Aside0.mk hp_; clear HP hp_; have HP := n0_; clear n0_))
  have hp_ := HP.out.put_sub ⟨l0, h0⟩
  have n0_ := Aside0.mk hp_
  clear HP hp_
  have HP := n0_
  clear n0_
  have HWF := Aside0.mk (show (Lit.int .u16 c0.wordV).wf = true from by simp [Lit.wf, IntKind.min, IntKind.max, IntKind.signed, IntKind.bits]; omega)
  obtain ⟨c2, e_⟩ : ∃ z, z = c1.need (subB c0.wordV && ((1 : Int) == 0 || c0.wordV != 4)) 8 := ⟨_, rfl⟩
  have Ec2 := Aside0.mk e_
  clear e_
  obtain ⟨ksub, fsub⟩ := PS.St.at_sub HP.out
  go_cut [] from 12 to 30 (fun wx => Aside0 (PS.St w0 gr g gm wx c2 ({ m with sub := c0.wordV })))
  case first =>
    cases hs0_ : (subB c0.wordV) with
    | true =>
      have eb_ : (subB c0.wordV && ((1 : Int) == 0 || c0.wordV != 4)) = (c0.wordV != 4) := by first | (simp only [hs0_]; first | rfl | (simp; done)) | (simp [hs0_]; done) | (simp only [bne, hs0_]; first | rfl | (simp; done))
      have EB_ := Aside0.mk eb_
      clear eb_
      go_wp2_with (first | (go_at_call 41; (with_reducible refine (sub_c HWF.out _).mono ?_); rintro en xb ⟨rfl, hb_⟩; have n0_ := Aside0.mk (PS.St.below HP.out hb_); clear HP hb_; have HP := n0_; clear n0_; obtain ⟨ksub, fsub⟩ := PS.St.at_sub HP.out) | (go_at_call 40; (with_reducible refine (PS.St.need HP.out (c0.wordV != 4) 8).mono ?_); rintro en x2 ⟨rfl, hp_⟩; have n0_ := Aside0.mk hp_; clear HP hp_; have HP := n0_; clear n0_))
      go_meet
      rw [Ec2.out, EB_.out]
      exact HP
    | false =>
      have eb_ : (subB c0.wordV && ((1 : Int) == 0 || c0.wordV != 4)) = (false) := by first | (simp only [hs0_]; first | rfl | (simp; done)) | (simp [hs0_]; done) | (simp only [bne, hs0_]; first | rfl | (simp; done))
      have EB_ := Aside0.mk eb_
      clear eb_
      go_wp2_with (first | (go_at_call 41; (with_reducible refine (sub_c HWF.out _).mono ?_); rintro en xb ⟨rfl, hb_⟩; have n0_ := Aside0.mk (PS.St.below HP.out hb_); clear HP hb_; have HP := n0_; clear n0_; obtain ⟨ksub, fsub⟩ := PS.St.at_sub HP.out) | (go_at_call 40; (with_reducible refine (PS.St.need HP.out (false) 8).mono ?_); rintro en x2 ⟨rfl, hp_⟩; have n0_ := Aside0.mk hp_; clear HP hp_; have HP := n0_; clear n0_))
      go_meet
      rw [Ec2.out, EB_.out]
      exact HP
  case rest =>
  clear HP
  have HP := hcut
  clear hcut
  have hz_ : (c0.wordV != 0) = false := by rw [HZ.out]; rfl
  obtain ⟨ksub, fsub⟩ := PS.St.at_sub HP.out
  go_upto_region 6 with (first | (go_at_call 44; (with_reducible refine (PS.St.left HP.out).mono ?_); rintro en x3 ⟨rfl, hp_⟩; have n0_ := Aside0.mk hp_; clear HP hp_; have HP := n0_; clear n0_))
  clear hz_ ksub fsub
  have wd : Int.tdiv (c2.xs.length : Int) 2 = (c2.xs.length : Int) / 2 := Int.tdiv_eq_ediv_of_nonneg (by omega)
  have wq := wrap64_id (x := (c2.xs.length : Int) / 2) (by omega) (by have := (PS.St.good HP.out).2.1; omega)
  obtain ⟨c3, e_⟩ : ∃ z, z = c2.need ((c2.xs.length : Int) % 2 == 0 && (decide (2 ≤ (c2.xs.length : Int)) && decide ((c2.xs.length : Int) ≤ 250))) 5 := ⟨_, rfl⟩
  have Ec3 := Aside0.mk e_
  clear e_
  go_cut [] from 64 to 77 (fun wx => Aside0 (PS.St w0 gr g gm wx c3 ({ m with sub := c0.wordV })))
  case first =>
    cases hs0_ : ((c2.xs.length : Int) % 2 == 0) with
    | true =>
      have hs0a_ : ((c2.xs.length : Int) % 2 != 0) = false := by first | exact hs0_ | (rw [bne, hs0_]; rfl) | (have := hs0_; rw [bne] at this; simpa using this)
      have hs0t_ : (Int.tmod (c2.xs.length : Int) 2 == 0) = true := by rw [Int.tmod_eq_emod_of_nonneg (by omega)]; exact hs0_
      cases hs1_ : (decide (2 ≤ (c2.xs.length : Int))) with
      | true =>
        have hs1a_ : (decide ((c2.xs.length : Int) ≥ 2)) = true := by first | exact hs1_ | (rw [bne, hs1_]; rfl) | (have := hs1_; rw [bne] at this; simpa using this)
        have eb_ : ((c2.xs.length : Int) % 2 == 0 && (decide (2 ≤ (c2.xs.length : Int)) && decide ((c2.xs.length : Int) ≤ 250))) = (decide ((c2.xs.length : Int) ≤ 250)) := by first | (simp only [hs0_, hs1_]; first | rfl | (simp; done)) | (simp [hs0_, hs1_]; done) | (simp only [bne, hs0_, hs1_]; first | rfl | (simp; done))
        have EB_ := Aside0.mk eb_
        clear eb_
        go_wp2_with (first | (go_at_call 40; (with_reducible refine (PS.St.need HP.out (decide ((c2.xs.length : Int) ≤ 250)) 5).mono ?_); rintro en x4 ⟨rfl, hp_⟩; have n0_ := Aside0.mk hp_; clear HP hp_; have HP := n0_; clear n0_))
        go_meet
        rw [Ec3.out, EB_.out]
        exact HP
      | false =>
        have hs1a_ : (decide ((c2.xs.length : Int) ≥ 2)) = false := by first | exact hs1_ | (rw [bne, hs1_]; rfl) | (have := hs1_; rw [bne] at this; simpa using this)
        have eb_ : ((c2.xs.length : Int) % 2 == 0 && (decide (2 ≤ (c2.xs.length : Int)) && decide ((c2.xs.length : Int) ≤ 250))) = (false) := by first | (simp only [hs0_, hs1_]; first | rfl | (simp; done)) | (simp [hs0_, hs1_]; done) | (simp only [bne, hs0_, hs1_]; first | rfl | (simp; done))
        have EB_ := Aside0.mk eb_
        clear eb_
        go_wp2_with (first | (go_at_call 40; (with_reducible refine (PS.St.need HP.out (false) 5).mono ?_); rintro en x4 ⟨rfl, hp_⟩; have n0_ := Aside0.mk hp_; clear HP hp_; have HP := n0_; clear n0_))
        go_meet
        rw [Ec3.out, EB_.out]
        exact HP
    | false =>
      have hs0a_ : ((c2.xs.length : Int) % 2 != 0) = true := by first | exact hs0_ | (rw [bne, hs0_]; rfl) | (have := hs0_; rw [bne] at this; simpa using this)
      have hs0t_ : (Int.tmod (c2.xs.length : Int) 2 == 0) = false := by rw [Int.tmod_eq_emod_of_nonneg (by omega)]; exact hs0_
      have eb_ : ((c2.xs.length : Int) % 2 == 0 && (decide (2 ≤ (c2.xs.length : Int)) && decide ((c2.xs.length : Int) ≤ 250))) = (false) := by first | (simp only [hs0_]; first | rfl | (simp; done)) | (simp [hs0_]; done) | (simp only [bne, hs0_]; first | rfl | (simp; done))
      have EB_ := Aside0.mk eb_
      clear eb_
      go_wp2_with (first | (go_at_call 40; (with_reducible refine (PS.St.need HP.out (false) 5).mono ?_); rintro en x4 ⟨rfl, hp_⟩; have n0_ := Aside0.mk hp_; clear HP hp_; have HP := n0_; clear n0_))
      go_meet
      rw [Ec3.out, EB_.out]
      exact HP
  case rest =>
  clear HP
  have HP := hcut
  clear hcut
  have HBY := Aside0.mk (Cu.wordsV_bd (PS.St.good HP.out) ((c2.xs.length : Int) / 2))
  go_wp2_with (first | (go_at_call 42; (with_reducible refine (PS.St.words HP.out ((c2.xs.length : Int) / 2)).mono ?_); rintro en x5 ⟨A5, n5, rfl, hz_, hr_, hp_⟩; obtain ⟨c4, ec_⟩ : ∃ z, z = c3.wordsS ((c2.xs.length : Int) / 2) := ⟨_, rfl⟩; rw [← ec_] at hp_; have Ec4 := Aside0.mk ec_; clear ec_; have R5 := Aside0.mk hr_; have R5z := Aside0.mk hz_; clear hr_ hz_; have n0_ := Aside0.mk hp_; clear HP hp_; have HP := n0_; clear n0_; obtain ⟨Aw, nw, kw, fw⟩ := PS.St.at_words HP.out))
  have hp_ := HP.out.put_words R5z.out HBY.out R5.out
  have n0_ := Aside0.mk hp_
  clear HP hp_
  have HP := n0_
  clear n0_
  have eq_ : lineR 1 m c0 = (c4, { m with sub := c0.wordV, words := c3.wordsV ((c2.xs.length : Int) / 2) }) := by
    have e1 : lineR 1 m c0 = echoR { m with sub := c0.wordV } c2 := by
      rw [Ec2.out, Ec1.out]
      show (if c0.wordV = 0 then (_ : Cu → Cu × Msg) else _) _ = _
      rw [if_pos HZ.out]
      rfl
    rw [e1, Ec4.out, Ec3.out]
    rfl
  rw [eq_]
  exact bodyPost_end (results_none rfl _ _ _) rfl (⟨rfl, HP.out⟩)
theorem line_1_1 {w0 w : World} {gr g gm : Nat} {c0 : Cu} {m : Msg} (h : PS.St w0 gr g gm w c0 m) (hz : c0.wordV ≠ 0) (ho : ((c0.wordS.need (subB c0.wordV && ((1 : Int) == 0 || c0.wordV != 4)) 8).wordsV 1).length = 1) :
    Calls Try.prog 21 #[.int .i64 1, .pointer (some ⟨g, 0, none⟩), .pointer (some ⟨gm, 0, none⟩)] w fun en w' => en = .returned (.tuple #[]) ∧ PS.St w0 gr g gm w' (lineR 1 m c0).1 (lineR 1 m c0).2 := by
  have HP := Aside0.mk h
  have HZ := Aside0.mk hz
  clear h hz
  have HO := Aside0.mk ho
  clear ho
  go_enter Try.func21, Try.ntmps21
  go_upto_region 1 with (first | (go_at_call 39; obtain ⟨l0, h0⟩ := Cu.wordV_bd (PS.St.good HP.out); (with_reducible refine (PS.St.word HP.out).mono ?_); rintro en x1 ⟨rfl, hp_⟩; obtain ⟨c1, ec_⟩ : ∃ z, z = c0.wordS := ⟨_, rfl⟩; rw [← ec_] at hp_; have Ec1 := Aside0.mk ec_; clear ec_; obtain ⟨ksub, fsub⟩ := PS.St.at_sub hp_; have n0_ := Aside0.mk hp_; clear HP hp_; have HP := n0_; clear n0_))
  have hp_ := HP.out.put_sub ⟨l0, h0⟩
  have n0_ := Aside0.mk hp_
  clear HP hp_
  have HP := n0_
  clear n0_
  have HWF := Aside0.mk (show (Lit.int .u16 c0.wordV).wf = true from by simp [Lit.wf, IntKind.min, IntKind.max, IntKind.signed, IntKind.bits]; omega)
  obtain ⟨c2, e_⟩ : ∃ z, z = c1.need (subB c0.wordV && ((1 : Int) == 0 || c0.wordV != 4)) 8 := ⟨_, rfl⟩
  have Ec2 := Aside0.mk e_
  clear e_
  obtain ⟨ksub, fsub⟩ := PS.St.at_sub HP.out
  go_cut [] from 12 to 30 (fun wx => Aside0 (PS.St w0 gr g gm wx c2 ({ m with sub := c0.wordV })))
  case first =>
    cases hs0_ : (subB c0.wordV) with
    | true =>
      have eb_ : (subB c0.wordV && ((1 : Int) == 0 || c0.wordV != 4)) = (c0.wordV != 4) := by first | (simp only [hs0_]; first | rfl | (simp; done)) | (simp [hs0_]; done) | (simp only [bne, hs0_]; first | rfl | (simp; done))
      have EB_ := Aside0.mk eb_
      clear eb_
      go_wp2_with (first | (go_at_call 41; (with_reducible refine (sub_c HWF.out _).mono ?_); rintro en xb ⟨rfl, hb_⟩; have n0_ := Aside0.mk (PS.St.below HP.out hb_); clear HP hb_; have HP := n0_; clear n0_; obtain ⟨ksub, fsub⟩ := PS.St.at_sub HP.out) | (go_at_call 40; (with_reducible refine (PS.St.need HP.out (c0.wordV != 4) 8).mono ?_); rintro en x2 ⟨rfl, hp_⟩; have n0_ := Aside0.mk hp_; clear HP hp_; have HP := n0_; clear n0_))
      go_meet
      rw [Ec2.out, EB_.out]
      exact HP
    | false =>
      have eb_ : (subB c0.wordV && ((1 : Int) == 0 || c0.wordV != 4)) = (false) := by first | (simp only [hs0_]; first | rfl | (simp; done)) | (simp [hs0_]; done) | (simp only [bne, hs0_]; first | rfl | (simp; done))
      have EB_ := Aside0.mk eb_
      clear eb_
      go_wp2_with (first | (go_at_call 41; (with_reducible refine (sub_c HWF.out _).mono ?_); rintro en xb ⟨rfl, hb_⟩; have n0_ := Aside0.mk (PS.St.below HP.out hb_); clear HP hb_; have HP := n0_; clear n0_; obtain ⟨ksub, fsub⟩ := PS.St.at_sub HP.out) | (go_at_call 40; (with_reducible refine (PS.St.need HP.out (false) 8).mono ?_); rintro en x2 ⟨rfl, hp_⟩; have n0_ := Aside0.mk hp_; clear HP hp_; have HP := n0_; clear n0_))
      go_meet
      rw [Ec2.out, EB_.out]
      exact HP
  case rest =>
  clear HP
  have HP := hcut
  clear hcut
  have hz_ : (c0.wordV != 0) = true := by simpa using HZ.out
  obtain ⟨ksub, fsub⟩ := PS.St.at_sub HP.out
  have HBY := Aside0.mk (Cu.wordsV_bd (PS.St.good HP.out) 1)
  go_upto_region 4 with (first | (go_at_call 42; (with_reducible refine (PS.St.words HP.out (1)).mono ?_); rintro en x3 ⟨A5, n5, rfl, hz_, hr_, hp_⟩; obtain ⟨c3, ec_⟩ : ∃ z, z = c2.wordsS (1) := ⟨_, rfl⟩; rw [← ec_] at hp_; have Ec3 := Aside0.mk ec_; clear ec_; have R5 := Aside0.mk hr_; have R5z := Aside0.mk hz_; clear hr_ hz_; have n0_ := Aside0.mk hp_; clear HP hp_; have HP := n0_; clear n0_; obtain ⟨Aw, nw, kw, fw⟩ := PS.St.at_words HP.out))
  clear hz_
  have HE := Aside0.mk (show c0.wordS.need (subB c0.wordV && ((1 : Int) == 0 || c0.wordV != 4)) 8 = c2 by rw [Ec2.out, Ec1.out])
  obtain ⟨v, hv⟩ : ∃ v, c2.wordsV 1 = [v] := by have := HO.out; rw [HE.out] at this; exact List.length_eq_one_iff.1 this
  have hvb := HBY.out v (by rw [hv]; simp)
  rw [hv] at R5 R5z HBY ⊢
  have HV := Aside0.mk hv
  clear hv
  obtain ⟨ad, rfl, hx⟩ := Kd.at_int (R5.out _ (Kept.refl _ _)) (0 : Int) (by simp) (by simp)
  have KW := Aside0.mk (show (World.setCell x3 ⟨gm, 12, none⟩ (.slice (some ad) 1 n5)).cell? ⟨gm, 12, none⟩ = some (.slice (some ad) 1 n5) from World.cell?_setCell_same _ _ _ (by rw [kw]))
  have HK := Aside0.mk (show Kept x3 (World.setCell x3 ⟨gm, 12, none⟩ (.slice (some ad) 1 n5)) (fun k => k = g ∨ k = gm ∨ k = gr) from (Kept.refl _ _).setCell (p := ⟨gm, 12, none⟩) (.inl (.inr (.inl rfl))) _)
  have HX := Aside0.mk (show ∀ W', Kept x3 W' (fun k => k = g ∨ k = gm ∨ k = gr) → W'.cell? ad = some (.int .u16 v) from fun W' hk => by
    obtain ⟨ad2, e2, hx2⟩ := Kd.at_int (R5.out W' hk) (0 : Int) (by simp) (by simp)
    injection e2 with e2
    rw [← e2] at hx2
    simpa [Addr.add, rd] using hx2)
  have hp_ := HP.out.put_words R5z.out HBY.out R5.out
  have n0_ := Aside0.mk hp_
  clear HP hp_
  have HP := n0_
  clear n0_
  clear hx
  have n0_ := Aside0.mk (((below_drew (Below.refl _ _)).cell (World.block_lt_of_cell? _ _ KW.out)).trans KW.out)
  clear KW
  have KW := n0_
  clear n0_
  have n0_ := Aside0.mk (HK.out.below (below_drew (Below.refl _ _)))
  clear HK
  have HK := n0_
  clear n0_
  have n0_ := Aside0.mk (PS.St.below HP.out (below_drew (Below.refl _ _)))
  clear HP
  have HP := n0_
  clear n0_
  have EB := Aside0.mk (show ((c2.wordsV 1).length == 1 && mayB 1 c0.wordV ((c2.wordsV 1).headD 0)) = (mayB 1 c0.wordV v) from by rw [HV.out]; rfl)
  refine start_ (n := 22) (S := fun w' => w'.cell? ⟨gm, 12, none⟩ = some (.slice (some ad) 1 n5) ∧ w'.cell? ⟨gm, 8, none⟩ = some (.int .u16 c0.wordV) ∧ w'.cell? ad = some (.int .u16 v)) (ds := []) (bm 22 0) (by as_aux_lemma => kernel_rfl) rfl (by as_aux_lemma => kernel_rfl) ⟨KW.out, (PS.St.at_sub HP.out).1, (HX.out _ HK.out)⟩ (fun hHeld => ?_)
  refine with_tabW line.tab4 line.bits4 (fun HT_ HW_ => ?_)
  refine pure_ (i := 0) (N := some 40) (v := ?_) (a' := ?_) (bm 22 1) rfl rfl (any_of HT_.out (by as_aux_lemma => kernel_rfl)) (fun _ _ _ h => h) (Or.inl ⟨by rfl, ?_⟩) ?_ ?_
  rotate_left
  · intro w'
    go_simp
    with_reducible rfl
  rotate_left
  · simp only [Act.put, List.setIfInBounds_toArray, List.set_cons_zero, List.set_cons_succ, i64_w, i32_w]
    rfl
  refine pure_ (i := 1) (N := some 41) (v := ?_) (a' := ?_) (bm 22 3) rfl rfl (any_of HT_.out (by as_aux_lemma => kernel_rfl)) (fun _ _ _ h => h) (Or.inl ⟨by rfl, ?_⟩) ?_ ?_
  rotate_left
  · intro w'
    go_simp
    with_reducible rfl
  rotate_left
  · simp only [Act.put, List.setIfInBounds_toArray, List.set_cons_zero, List.set_cons_succ, i64_w, i32_w]
    rfl
  refine pure_ (i := 2) (N := some 42) (v := ?_) (a' := ?_) (bm 22 7) rfl rfl (any_of HT_.out (by as_aux_lemma => kernel_rfl)) (fun _ _ _ h => h) (Or.inl ⟨by rfl, ?_⟩) ?_ ?_
  rotate_left
  · intro w'
    go_simp
    with_reducible rfl
  rotate_left
  · simp only [Act.put, List.setIfInBounds_toArray, List.set_cons_zero, List.set_cons_succ, i64_w, i32_w]
    rfl
  refine pure_ (i := 3) (N := some 43) (v := ?_) (a' := ?_) (bm 22 15) rfl rfl (any_of HT_.out (by as_aux_lemma => kernel_rfl)) (fun _ _ _ h => h) (Or.inl ⟨by rfl, ?_⟩) ?_ ?_
  rotate_left
  · intro w'
    go_simp
    with_reducible rfl
  rotate_left
  · simp only [Act.put, List.setIfInBounds_toArray, List.set_cons_zero, List.set_cons_succ, i64_w, i32_w]
    rfl
  refine take_ (i := 4) (N := some 44) (v := ?_) (a' := ?_) (bm 22 31) rfl rfl (take_ofW HT_.out HW_.out (by as_aux_lemma => kernel_rfl)) (fun _ _ _ h => h) (Or.inl ⟨by rfl, ?_⟩) hHeld ?_ ?_
  rotate_left
  · rintro w' ⟨s0, s1, s2⟩
    go_simp
    with_reducible rfl
  rotate_left
  · simp only [Act.put, List.setIfInBounds_toArray, List.set_cons_zero, List.set_cons_succ, i64_w, i32_w]
    rfl
  refine pure_ (i := 5) (N := some 45) (v := ?_) (a' := ?_) (bm 22 63) rfl rfl (any_of HT_.out (by as_aux_lemma => kernel_rfl)) (fun _ _ _ h => h) (Or.inl ⟨by rfl, ?_⟩) ?_ ?_
  rotate_left
  · intro w'
    go_simp
    with_reducible rfl
  rotate_left
  · simp only [Act.put, List.setIfInBounds_toArray, List.set_cons_zero, List.set_cons_succ, i64_w, i32_w]
    rfl
  refine pure_ (i := 6) (N := some 46) (v := ?_) (a' := ?_) (bm 22 127) rfl rfl (any_of HT_.out (by as_aux_lemma => kernel_rfl)) (fun _ _ _ h => h) (Or.inl ⟨by rfl, ?_⟩) ?_ ?_
  rotate_left
  · intro w'
    go_simp
    with_reducible rfl
  rotate_left
  · simp only [Act.put, List.setIfInBounds_toArray, List.set_cons_zero, List.set_cons_succ, i64_w, i32_w]
    rfl
  refine pure_ (i := 7) (N := some 47) (v := ?_) (a' := ?_) (bm 22 255) rfl rfl (any_of HT_.out (by as_aux_lemma => kernel_rfl)) (fun _ _ _ h => h) (Or.inl ⟨by rfl, ?_⟩) ?_ ?_
  rotate_left
  · intro w'
    go_simp
    with_reducible rfl
  rotate_left
  · simp only [Act.put, List.setIfInBounds_toArray, List.set_cons_zero, List.set_cons_succ, i64_w, i32_w]
    rfl
  refine pure_ (i := 8) (N := some 48) (v := ?_) (a' := ?_) (bm 22 511) rfl rfl (any_of HT_.out (by as_aux_lemma => kernel_rfl)) (fun _ _ _ h => h) (Or.inl ⟨by rfl, ?_⟩) ?_ ?_
  rotate_left
  · intro w'
    go_simp
    with_reducible rfl
  rotate_left
  · simp only [Act.put, List.setIfInBounds_toArray, List.set_cons_zero, List.set_cons_succ, i64_w, i32_w]
    rfl
  refine pure_ (i := 9) (N := some 49) (v := ?_) (a' := ?_) (bm 22 1023) rfl rfl (any_of HT_.out (by as_aux_lemma => kernel_rfl)) (fun _ _ _ h => h) (Or.inl ⟨by rfl, ?_⟩) ?_ ?_
  rotate_left
  · intro w'
    go_simp
    with_reducible rfl
  rotate_left
  · simp only [Act.put, List.setIfInBounds_toArray, List.set_cons_zero, List.set_cons_succ, i64_w, i32_w]
    rfl
  refine pure_ (i := 10) (N := some 50) (v := ?_) (a' := ?_) (bm 22 2047) rfl rfl (any_of HT_.out (by as_aux_lemma => kernel_rfl)) (fun _ _ _ h => h) (Or.inl ⟨by rfl, ?_⟩) ?_ ?_
  rotate_left
  · intro w'
    go_simp
    with_reducible rfl
  rotate_left
  · simp only [Act.put, List.setIfInBounds_toArray, List.set_cons_zero, List.set_cons_succ, i64_w, i32_w]
    rfl
  refine pure_ (i := 11) (N := some 51) (v := ?_) (a' := ?_) (bm 22 4095) rfl rfl (any_of HT_.out (by as_aux_lemma => kernel_rfl)) (fun _ _ _ h => h) (Or.inl ⟨by rfl, ?_⟩) ?_ ?_
  rotate_left
  · intro w'
    go_simp
    with_reducible rfl
  rotate_left
  · simp only [Act.put, List.setIfInBounds_toArray, List.set_cons_zero, List.set_cons_succ, i64_w, i32_w]
    rfl
  refine pure_ (i := 13) (N := some 53) (v := ?_) (a' := ?_) (bm 22 12287) rfl rfl (any_of HT_.out (by as_aux_lemma => kernel_rfl)) (fun _ _ _ h => h) (Or.inl ⟨by rfl, ?_⟩) ?_ ?_
  rotate_left
  · intro w'
    go_simp
    with_reducible rfl
  rotate_left
  · simp only [Act.put, List.setIfInBounds_toArray, List.set_cons_zero, List.set_cons_succ, i64_w, i32_w]
    rfl
  refine pure_ (i := 14) (N := some 54) (v := ?_) (a' := ?_) (bm 22 28671) rfl rfl (any_of HT_.out (by as_aux_lemma => kernel_rfl)) (fun _ _ _ h => h) (Or.inl ⟨by rfl, ?_⟩) ?_ ?_
  rotate_left
  · intro w'
    go_simp
    with_reducible rfl
  rotate_left
  · simp only [Act.put, List.setIfInBounds_toArray, List.set_cons_zero, List.set_cons_succ, i64_w, i32_w]
    rfl
  refine pure_ (i := 15) (N := some 55) (v := ?_) (a' := ?_) (bm 22 61439) rfl rfl (any_of HT_.out (by as_aux_lemma => kernel_rfl)) (fun _ _ _ h => h) (Or.inl ⟨by rfl, ?_⟩) ?_ ?_
  rotate_left
  · intro w'
    go_simp
    with_reducible rfl
  rotate_left
  · simp only [Act.put, List.setIfInBounds_toArray, List.set_cons_zero, List.set_cons_succ, i64_w, i32_w]
    rfl
  refine take_ (i := 12) (N := some 52) (v := ?_) (a' := ?_) (bm 22 65535) rfl rfl (take_ofW HT_.out HW_.out (by as_aux_lemma => kernel_rfl)) (fun _ _ _ h => h) (Or.inl ⟨by rfl, ?_⟩) hHeld ?_ ?_
  rotate_left
  · rintro w' ⟨s0, s1, s2⟩
    go_simp
    with_reducible rfl
  rotate_left
  · simp only [Act.put, List.setIfInBounds_toArray, List.set_cons_zero, List.set_cons_succ, i64_w, i32_w]
    rfl
  refine take_ (i := 16) (N := some 56) (v := ?_) (a' := ?_) (bm 22 131071) rfl rfl (take_ofW HT_.out HW_.out (by as_aux_lemma => kernel_rfl)) (fun _ _ _ h => h) (Or.inl ⟨by rfl, ?_⟩) hHeld ?_ ?_
  rotate_left
  · rintro w' ⟨s0, s1, s2⟩
    go_simp
    with_reducible rfl
  rotate_left
  · simp only [Act.put, List.setIfInBounds_toArray, List.set_cons_zero, List.set_cons_succ, i64_w, i32_w]
    rfl
  refine pure_ (i := 17) (N := some 57) (v := ?_) (a' := ?_) (bm 22 262143) rfl rfl (any_of HT_.out (by as_aux_lemma => kernel_rfl)) (fun _ _ _ h => h) (Or.inl ⟨by rfl, ?_⟩) ?_ ?_
  rotate_left
  · intro w'
    go_simp
    with_reducible rfl
  rotate_left
  · simp only [Act.put, List.setIfInBounds_toArray, List.set_cons_zero, List.set_cons_succ, i64_w, i32_w]
    rfl
  refine take_ (i := 18) (N := some 58) (v := ?_) (a' := ?_) (bm 22 524287) rfl rfl (take_ofW HT_.out HW_.out (by as_aux_lemma => kernel_rfl)) (fun _ _ _ h => h) (Or.inl ⟨by rfl, ?_⟩) hHeld ?_ ?_
  rotate_left
  · rintro w' ⟨s0, s1, s2⟩
    go_simp
    with_reducible rfl
  rotate_left
  · simp only [Act.put, List.setIfInBounds_toArray, List.set_cons_zero, List.set_cons_succ, i64_w, i32_w]
    rfl
  refine one_ (i := 19) (N := some 59) (bm 22 1048575) rfl rfl (one_of HT_.out (by as_aux_lemma => kernel_rfl)) (by as_aux_lemma => decide) (fun K hK => ?_)
  refine goes_ Try.func43 (by as_aux_lemma => kernel_rfl) rfl #[.int .i64 1, .int .u16 c0.wordV, .int .u16 v] (by rfl) rfl rfl (by simp only [List.map_toArray, List.map_cons, List.map_nil]; rfl) ?_
  with_reducible refine (may_any (.inr rfl) ⟨l0, h0⟩ hvb _).mono ?_
  rintro en x90 ⟨rfl, hb_⟩
  have n0_ := Aside0.mk ((hb_.cell (World.block_lt_of_cell? _ _ KW.out)).trans KW.out)
  clear KW
  have KW := n0_
  clear n0_
  have n0_ := Aside0.mk (HK.out.below hb_)
  clear HK
  have HK := n0_
  clear n0_
  have n0_ := Aside0.mk (PS.St.below HP.out hb_)
  clear HP
  have HP := n0_
  clear n0_
  clear hb_
  refine ⟨_, rfl, ?_⟩
  refine hK.out _ _ ⟨KW.out, (PS.St.at_sub HP.out).1, (HX.out _ HK.out)⟩ (fun hHeld => ?_)
  clear hK K
  refine norm_ (a' := ?_) ?_ ?_
  rotate_left
  · show Act.put _ (some 59) _ = _
    simp only [Act.put, List.setIfInBounds_toArray, List.set_cons_zero, List.set_cons_succ, i64_w, i32_w]
    rfl
  refine pure_ (i := 20) (N := some 60) (v := ?_) (a' := ?_) (bm 22 2097151) rfl rfl (any_of HT_.out (by as_aux_lemma => kernel_rfl)) (fun _ _ _ h => h) (Or.inl ⟨by rfl, ?_⟩) ?_ ?_
  rotate_left
  · intro w'
    go_simp
    with_reducible rfl
  rotate_left
  · simp only [Act.put, List.setIfInBounds_toArray, List.set_cons_zero, List.set_cons_succ, i64_w, i32_w]
    rfl
  refine one_ (i := 21) (N := some 61) (bm 22 4194303) rfl rfl (one_of HT_.out (by as_aux_lemma => kernel_rfl)) (by as_aux_lemma => decide) (fun K hK => ?_)
  refine goes_ Try.func40 (by as_aux_lemma => kernel_rfl) rfl #[.pointer (some ⟨g, 0, none⟩), .bool (mayB 1 c0.wordV v), .int .i64 6] (by rfl) rfl rfl (by simp only [List.map_toArray, List.map_cons, List.map_nil]; rfl) ?_
  with_reducible refine (need_k HP.out (mayB 1 c0.wordV v) 6).mono ?_
  rintro en x4 ⟨rfl, hp_, hk_⟩
  rw [← EB.out] at hp_
  have n0_ := Aside0.mk (cell_kept KW.out hk_ (fun e => hp_.h2.1 e))
  clear KW
  have KW := n0_
  clear n0_
  have n0_ := Aside0.mk (HK.out.then_ hk_ (fun k e => .inl (.inl e)))
  clear HK hk_
  have HK := n0_
  clear n0_
  obtain ⟨c4, ec_⟩ : ∃ z, z = c3.need ((c2.wordsV 1).length == 1 && mayB 1 c0.wordV ((c2.wordsV 1).headD 0)) 6 := ⟨_, rfl⟩
  rw [← ec_] at hp_
  have Ec4 := Aside0.mk ec_
  clear ec_
  have n0_ := Aside0.mk hp_
  clear HP hp_
  have HP := n0_
  clear n0_
  refine ⟨_, rfl, ?_⟩
  refine hK.out _ _ ⟨KW.out, (PS.St.at_sub HP.out).1, (HX.out _ HK.out)⟩ (fun hHeld => ?_)
  clear hK K
  refine norm_ (a' := ?_) ?_ ?_
  rotate_left
  · show Act.put _ (some 61) _ = _
    simp only [Act.put, List.setIfInBounds_toArray, List.set_cons_zero, List.set_cons_succ, i64_w, i32_w]
    rfl
  refine done_ (done_of HT_.out (by as_aux_lemma => kernel_rfl)) ?_
  go_wp2
  have eq_ : lineR 1 m c0 = (c4, { m with sub := c0.wordV, words := [v] }) := by
    simp only [lineR, ansR, eventsR, logsR, nameR, Rd.bind, Rd.byte, Rd.word, Rd.bytes, Rd.words, Rd.need, Rd.ret, leftR, ← Ec1.out, ← Ec2.out]
    rw [if_neg HZ.out]
    simp only [ansR, eventsR, logsR, nameR, Rd.bind, Rd.byte, Rd.word, Rd.bytes, Rd.words, Rd.need, Rd.ret, leftR, ← Ec3.out, ← Ec4.out]
    rw [HV.out]
  rw [eq_]
  exact bodyPost_ret (results_none rfl _ _ _) rfl (⟨rfl, HP.out⟩)
theorem line_1_0 {w0 w : World} {gr g gm : Nat} {c0 : Cu} {m : Msg} (h : PS.St w0 gr g gm w c0 m) (hz : c0.wordV ≠ 0) (ho : ((c0.wordS.need (subB c0.wordV && ((1 : Int) == 0 || c0.wordV != 4)) 8).wordsV 1).length ≠ 1) :
    Calls Try.prog 21 #[.int .i64 1, .pointer (some ⟨g, 0, none⟩), .pointer (some ⟨gm, 0, none⟩)] w fun en w' => en = .returned (.tuple #[]) ∧ PS.St w0 gr g gm w' (lineR 1 m c0).1 (lineR 1 m c0).2 := by
  have HP := Aside0.mk h
  have HZ := Aside0.mk hz
  clear h hz
  have HO := Aside0.mk ho
  clear ho
  go_enter Try.func21, Try.ntmps21
  go_upto_region 1 with (first | (go_at_call 39; obtain ⟨l0, h0⟩ := Cu.wordV_bd (PS.St.good HP.out); (with_reducible refine (PS.St.word HP.out).mono ?_); rintro en x1 ⟨rfl, hp_⟩; obtain ⟨c1, ec_⟩ : ∃ z, z = c0.wordS := ⟨_, rfl⟩; rw [← ec_] at hp_; have Ec1 := Aside0.mk ec_; clear ec_; obtain ⟨ksub, fsub⟩ := PS.St.at_sub hp_; have n0_ := Aside0.mk hp_; clear HP hp_; have HP := n0_; clear n0_))
  have hp_ := HP.out.put_sub ⟨l0, h0⟩
  have n0_ := Aside0.mk hp_
  clear HP hp_
  have HP := n0_
  clear n0_
  have HWF := Aside0.mk (show (Lit.int .u16 c0.wordV).wf = true from by simp [Lit.wf, IntKind.min, IntKind.max, IntKind.signed, IntKind.bits]; omega)
  obtain ⟨c2, e_⟩ : ∃ z, z = c1.need (subB c0.wordV && ((1 : Int) == 0 || c0.wordV != 4)) 8 := ⟨_, rfl⟩
  have Ec2 := Aside0.mk e_
  clear e_
  obtain ⟨ksub, fsub⟩ := PS.St.at_sub HP.out
  go_cut [] from 12 to 30 (fun wx => Aside0 (PS.St w0 gr g gm wx c2 ({ m with sub := c0.wordV })))
  case first =>
    cases hs0_ : (subB c0.wordV) with
    | true =>
      have eb_ : (subB c0.wordV && ((1 : Int) == 0 || c0.wordV != 4)) = (c0.wordV != 4) := by first | (simp only [hs0_]; first | rfl | (simp; done)) | (simp [hs0_]; done) | (simp only [bne, hs0_]; first | rfl | (simp; done))
      have EB_ := Aside0.mk eb_
      clear eb_
      go_wp2_with (first | (go_at_call 41; (with_reducible refine (sub_c HWF.out _).mono ?_); rintro en xb ⟨rfl, hb_⟩; have n0_ := Aside0.mk (PS.St.below HP.out hb_); clear HP hb_; have HP := n0_; clear n0_; obtain ⟨ksub, fsub⟩ := PS.St.at_sub HP.out) | (go_at_call 40; (with_reducible refine (PS.St.need HP.out (c0.wordV != 4) 8).mono ?_); rintro en x2 ⟨rfl, hp_⟩; have n0_ := Aside0.mk hp_; clear HP hp_; have HP := n0_; clear n0_))
      go_meet
      rw [Ec2.out, EB_.out]
      exact HP
    | false =>
      have eb_ : (subB c0.wordV && ((1 : Int) == 0 || c0.wordV != 4)) = (false) := by first | (simp only [hs0_]; first | rfl | (simp; done)) | (simp [hs0_]; done) | (simp only [bne, hs0_]; first | rfl | (simp; done))
      have EB_ := Aside0.mk eb_
      clear eb_
      go_wp2_with (first | (go_at_call 41; (with_reducible refine (sub_c HWF.out _).mono ?_); rintro en xb ⟨rfl, hb_⟩; have n0_ := Aside0.mk (PS.St.below HP.out hb_); clear HP hb_; have HP := n0_; clear n0_; obtain ⟨ksub, fsub⟩ := PS.St.at_sub HP.out) | (go_at_call 40; (with_reducible refine (PS.St.need HP.out (false) 8).mono ?_); rintro en x2 ⟨rfl, hp_⟩; have n0_ := Aside0.mk hp_; clear HP hp_; have HP := n0_; clear n0_))
      go_meet
      rw [Ec2.out, EB_.out]
      exact HP
  case rest =>
  clear HP
  have HP := hcut
  clear hcut
  have hz_ : (c0.wordV != 0) = true := by simpa using HZ.out
  obtain ⟨ksub, fsub⟩ := PS.St.at_sub HP.out
  have HBY := Aside0.mk (Cu.wordsV_bd (PS.St.good HP.out) 1)
  go_upto_region 4 with (first | (go_at_call 42; (with_reducible refine (PS.St.words HP.out (1)).mono ?_); rintro en x3 ⟨A5, n5, rfl, hz_, hr_, hp_⟩; obtain ⟨c3, ec_⟩ : ∃ z, z = c2.wordsS (1) := ⟨_, rfl⟩; rw [← ec_] at hp_; have Ec3 := Aside0.mk ec_; clear ec_; have R5 := Aside0.mk hr_; have R5z := Aside0.mk hz_; clear hr_ hz_; have n0_ := Aside0.mk hp_; clear HP hp_; have HP := n0_; clear n0_; obtain ⟨Aw, nw, kw, fw⟩ := PS.St.at_words HP.out))
  clear hz_
  have HE := Aside0.mk (show c0.wordS.need (subB c0.wordV && ((1 : Int) == 0 || c0.wordV != 4)) 8 = c2 by rw [Ec2.out, Ec1.out])
  have KW := Aside0.mk (show (World.setCell x3 ⟨gm, 12, none⟩ (.slice A5 (c2.wordsV 1).length n5)).cell? ⟨gm, 12, none⟩ = some (.slice A5 (c2.wordsV 1).length n5) from World.cell?_setCell_same _ _ _ (by rw [kw]))
  have HK := Aside0.mk (show Kept x3 (World.setCell x3 ⟨gm, 12, none⟩ (.slice A5 (c2.wordsV 1).length n5)) (fun k => k = g ∨ k = gm ∨ k = gr) from (Kept.refl _ _).setCell (p := ⟨gm, 12, none⟩) (.inl (.inr (.inl rfl))) _)
  have hp_ := HP.out.put_words R5z.out HBY.out R5.out
  have n0_ := Aside0.mk hp_
  clear HP hp_
  have HP := n0_
  clear n0_
  have n0_ := Aside0.mk (((below_drew (Below.refl _ _)).cell (World.block_lt_of_cell? _ _ KW.out)).trans KW.out)
  clear KW
  have KW := n0_
  clear n0_
  have n0_ := Aside0.mk (HK.out.below (below_drew (Below.refl _ _)))
  clear HK
  have HK := n0_
  clear n0_
  have n0_ := Aside0.mk (PS.St.below HP.out (below_drew (Below.refl _ _)))
  clear HP
  have HP := n0_
  clear n0_
  have EB := Aside0.mk (show ((c2.wordsV 1).length == 1 && mayB 1 c0.wordV ((c2.wordsV 1).headD 0)) = (false) from by rw [show ((c2.wordsV 1).length == 1) = false from beq_eq_false_iff_ne.2 (by have := HO.out; rw [HE.out] at this; exact this)]; rfl)
  have hl1 : ((((c2.wordsV 1).length : Nat) : Int) == 1) = false := beq_eq_false_iff_ne.2 (by have := HO.out; rw [HE.out] at this; omega)
  refine start_ (n := 22) (S := fun w' => w'.cell? ⟨gm, 12, none⟩ = some (.slice A5 (c2.wordsV 1).length n5)) (ds := []) (bm 22 0) (by as_aux_lemma => kernel_rfl) rfl (by as_aux_lemma => kernel_rfl) (KW.out) (fun hHeld => ?_)
  refine with_tabW line.tab4 line.bits4 (fun HT_ HW_ => ?_)
  refine pure_ (i := 0) (N := some 40) (v := ?_) (a' := ?_) (bm 22 1) rfl rfl (any_of HT_.out (by as_aux_lemma => kernel_rfl)) (fun _ _ _ h => h) (Or.inl ⟨by rfl, ?_⟩) ?_ ?_
  rotate_left
  · intro w'
    go_simp
    with_reducible rfl
  rotate_left
  · simp only [Act.put, List.setIfInBounds_toArray, List.set_cons_zero, List.set_cons_succ, i64_w, i32_w]
    rfl
  refine pure_ (i := 1) (N := some 41) (v := ?_) (a' := ?_) (bm 22 3) rfl rfl (any_of HT_.out (by as_aux_lemma => kernel_rfl)) (fun _ _ _ h => h) (Or.inl ⟨by rfl, ?_⟩) ?_ ?_
  rotate_left
  · intro w'
    go_simp
    with_reducible rfl
  rotate_left
  · simp only [Act.put, List.setIfInBounds_toArray, List.set_cons_zero, List.set_cons_succ, i64_w, i32_w]
    rfl
  refine pure_ (i := 2) (N := some 42) (v := ?_) (a' := ?_) (bm 22 7) rfl rfl (any_of HT_.out (by as_aux_lemma => kernel_rfl)) (fun _ _ _ h => h) (Or.inl ⟨by rfl, ?_⟩) ?_ ?_
  rotate_left
  · intro w'
    go_simp
    with_reducible rfl
  rotate_left
  · simp only [Act.put, List.setIfInBounds_toArray, List.set_cons_zero, List.set_cons_succ, i64_w, i32_w]
    rfl
  refine pure_ (i := 3) (N := some 43) (v := ?_) (a' := ?_) (bm 22 15) rfl rfl (any_of HT_.out (by as_aux_lemma => kernel_rfl)) (fun _ _ _ h => h) (Or.inl ⟨by rfl, ?_⟩) ?_ ?_
  rotate_left
  · intro w'
    go_simp
    with_reducible rfl
  rotate_left
  · simp only [Act.put, List.setIfInBounds_toArray, List.set_cons_zero, List.set_cons_succ, i64_w, i32_w]
    rfl
  refine take_ (i := 4) (N := some 44) (v := ?_) (a' := ?_) (bm 22 31) rfl rfl (take_ofW HT_.out HW_.out (by as_aux_lemma => kernel_rfl)) (fun _ _ _ h => h) (Or.inl ⟨by rfl, ?_⟩) hHeld ?_ ?_
  rotate_left
  · intro w' s0
    go_simp
    with_reducible rfl
  rotate_left
  · simp only [Act.put, List.setIfInBounds_toArray, List.set_cons_zero, List.set_cons_succ, i64_w, i32_w]
    rfl
  refine pure_ (i := 5) (N := some 45) (v := ?_) (a' := ?_) (bm 22 63) rfl rfl (any_of HT_.out (by as_aux_lemma => kernel_rfl)) (fun _ _ _ h => h) (Or.inl ⟨by rfl, ?_⟩) ?_ ?_
  rotate_left
  · intro w'
    go_simp
    with_reducible rfl
  rotate_left
  · simp only [Act.put, List.setIfInBounds_toArray, List.set_cons_zero, List.set_cons_succ, i64_w, i32_w]
    rfl
  refine pure_ (i := 6) (N := some 46) (v := ?_) (a' := ?_) (bm 22 127) rfl rfl (any_of HT_.out (by as_aux_lemma => kernel_rfl)) (fun _ _ _ h => h) (Or.inl ⟨by rfl, ?_⟩) ?_ ?_
  rotate_left
  · intro w'
    go_simp
    with_reducible rfl
  rotate_left
  · simp only [Act.put, List.setIfInBounds_toArray, List.set_cons_zero, List.set_cons_succ, i64_w, i32_w]
    rfl
  refine pure_ (i := 7) (N := some 47) (v := ?_) (a' := ?_) (bm 22 255) rfl rfl (any_of HT_.out (by as_aux_lemma => kernel_rfl)) (fun _ _ _ h => h) (Or.inl ⟨by rfl, ?_⟩) ?_ ?_
  rotate_left
  · intro w'
    go_simp
    with_reducible rfl
  rotate_left
  · simp only [Act.put, List.setIfInBounds_toArray, List.set_cons_zero, List.set_cons_succ, i64_w, i32_w]
    rfl
  refine pure_ (i := 8) (N := some 48) (v := undef) (a' := ?_) (bm 22 511) rfl rfl (any_of HT_.out (by as_aux_lemma => kernel_rfl)) (fun _ _ _ h => h) (Or.inr ⟨by rfl, rfl⟩) ?_ ?_
  rotate_left
  · simp only [Act.put, List.setIfInBounds_toArray, List.set_cons_zero, List.set_cons_succ, i64_w, i32_w]
    rfl
  refine pure_ (i := 9) (N := some 49) (v := undef) (a' := ?_) (bm 22 1023) rfl rfl (any_of HT_.out (by as_aux_lemma => kernel_rfl)) (fun _ _ _ h => h) (Or.inr ⟨by rfl, rfl⟩) ?_ ?_
  rotate_left
  · simp only [Act.put, List.setIfInBounds_toArray, List.set_cons_zero, List.set_cons_succ, i64_w, i32_w]
    rfl
  refine pure_ (i := 10) (N := some 50) (v := undef) (a' := ?_) (bm 22 2047) rfl rfl (any_of HT_.out (by as_aux_lemma => kernel_rfl)) (fun _ _ _ h => h) (Or.inr ⟨by rfl, rfl⟩) ?_ ?_
  rotate_left
  · simp only [Act.put, List.setIfInBounds_toArray, List.set_cons_zero, List.set_cons_succ, i64_w, i32_w]
    rfl
  refine pure_ (i := 11) (N := some 51) (v := undef) (a' := ?_) (bm 22 4095) rfl rfl (any_of HT_.out (by as_aux_lemma => kernel_rfl)) (fun _ _ _ h => h) (Or.inr ⟨by rfl, rfl⟩) ?_ ?_
  rotate_left
  · simp only [Act.put, List.setIfInBounds_toArray, List.set_cons_zero, List.set_cons_succ, i64_w, i32_w]
    rfl
  refine pure_ (i := 12) (N := some 52) (v := undef) (a' := ?_) (bm 22 8191) rfl rfl (any_of HT_.out (by as_aux_lemma => kernel_rfl)) (fun _ _ _ h => h) (Or.inr ⟨by rfl, rfl⟩) ?_ ?_
  rotate_left
  · simp only [Act.put, List.setIfInBounds_toArray, List.set_cons_zero, List.set_cons_succ, i64_w, i32_w]
    rfl
  refine pure_ (i := 13) (N := some 53) (v := undef) (a' := ?_) (bm 22 16383) rfl rfl (any_of HT_.out (by as_aux_lemma => kernel_rfl)) (fun _ _ _ h => h) (Or.inr ⟨by rfl, rfl⟩) ?_ ?_
  rotate_left
  · simp only [Act.put, List.setIfInBounds_toArray, List.set_cons_zero, List.set_cons_succ, i64_w, i32_w]
    rfl
  refine pure_ (i := 14) (N := some 54) (v := undef) (a' := ?_) (bm 22 32767) rfl rfl (any_of HT_.out (by as_aux_lemma => kernel_rfl)) (fun _ _ _ h => h) (Or.inr ⟨by rfl, rfl⟩) ?_ ?_
  rotate_left
  · simp only [Act.put, List.setIfInBounds_toArray, List.set_cons_zero, List.set_cons_succ, i64_w, i32_w]
    rfl
  refine pure_ (i := 15) (N := some 55) (v := undef) (a' := ?_) (bm 22 65535) rfl rfl (any_of HT_.out (by as_aux_lemma => kernel_rfl)) (fun _ _ _ h => h) (Or.inr ⟨by rfl, rfl⟩) ?_ ?_
  rotate_left
  · simp only [Act.put, List.setIfInBounds_toArray, List.set_cons_zero, List.set_cons_succ, i64_w, i32_w]
    rfl
  refine pure_ (i := 16) (N := some 56) (v := undef) (a' := ?_) (bm 22 131071) rfl rfl (any_of HT_.out (by as_aux_lemma => kernel_rfl)) (fun _ _ _ h => h) (Or.inr ⟨by rfl, rfl⟩) ?_ ?_
  rotate_left
  · simp only [Act.put, List.setIfInBounds_toArray, List.set_cons_zero, List.set_cons_succ, i64_w, i32_w]
    rfl
  refine pure_ (i := 17) (N := some 57) (v := undef) (a' := ?_) (bm 22 262143) rfl rfl (any_of HT_.out (by as_aux_lemma => kernel_rfl)) (fun _ _ _ h => h) (Or.inr ⟨by rfl, rfl⟩) ?_ ?_
  rotate_left
  · simp only [Act.put, List.setIfInBounds_toArray, List.set_cons_zero, List.set_cons_succ, i64_w, i32_w]
    rfl
  refine pure_ (i := 18) (N := some 58) (v := undef) (a' := ?_) (bm 22 524287) rfl rfl (any_of HT_.out (by as_aux_lemma => kernel_rfl)) (fun _ _ _ h => h) (Or.inr ⟨by rfl, rfl⟩) ?_ ?_
  rotate_left
  · simp only [Act.put, List.setIfInBounds_toArray, List.set_cons_zero, List.set_cons_succ, i64_w, i32_w]
    rfl
  refine pure_ (i := 19) (N := some 59) (v := undef) (a' := ?_) (bm 22 1048575) rfl rfl (any_of HT_.out (by as_aux_lemma => kernel_rfl)) (fun _ _ _ h => h) (Or.inr ⟨by rfl, rfl⟩) ?_ ?_
  rotate_left
  · simp only [Act.put, List.setIfInBounds_toArray, List.set_cons_zero, List.set_cons_succ, i64_w, i32_w]
    rfl
  refine pure_ (i := 20) (N := some 60) (v := ?_) (a' := ?_) (bm 22 2097151) rfl rfl (any_of HT_.out (by as_aux_lemma => kernel_rfl)) (fun _ _ _ h => h) (Or.inl ⟨by rfl, ?_⟩) ?_ ?_
  rotate_left
  · intro w'
    go_simp
    with_reducible rfl
  rotate_left
  · simp only [Act.put, List.setIfInBounds_toArray, List.set_cons_zero, List.set_cons_succ, i64_w, i32_w]
    rfl
  refine one_ (i := 21) (N := some 61) (bm 22 4194303) rfl rfl (one_of HT_.out (by as_aux_lemma => kernel_rfl)) (by as_aux_lemma => decide) (fun K hK => ?_)
  refine goes_ Try.func40 (by as_aux_lemma => kernel_rfl) rfl #[.pointer (some ⟨g, 0, none⟩), .bool (false), .int .i64 6] (by rfl) rfl rfl (by simp only [List.map_toArray, List.map_cons, List.map_nil]; rfl) ?_
  with_reducible refine (need_k HP.out (false) 6).mono ?_
  rintro en x4 ⟨rfl, hp_, hk_⟩
  rw [← EB.out] at hp_
  have n0_ := Aside0.mk (cell_kept KW.out hk_ (fun e => hp_.h2.1 e))
  clear KW
  have KW := n0_
  clear n0_
  have n0_ := Aside0.mk (HK.out.then_ hk_ (fun k e => .inl (.inl e)))
  clear HK hk_
  have HK := n0_
  clear n0_
  obtain ⟨c4, ec_⟩ : ∃ z, z = c3.need ((c2.wordsV 1).length == 1 && mayB 1 c0.wordV ((c2.wordsV 1).headD 0)) 6 := ⟨_, rfl⟩
  rw [← ec_] at hp_
  have Ec4 := Aside0.mk ec_
  clear ec_
  have n0_ := Aside0.mk hp_
  clear HP hp_
  have HP := n0_
  clear n0_
  refine ⟨_, rfl, ?_⟩
  refine hK.out _ _ (KW.out) (fun hHeld => ?_)
  clear hK K
  refine norm_ (a' := ?_) ?_ ?_
  rotate_left
  · show Act.put _ (some 61) _ = _
    simp only [Act.put, List.setIfInBounds_toArray, List.set_cons_zero, List.set_cons_succ, i64_w, i32_w]
    rfl
  refine done_ (done_of HT_.out (by as_aux_lemma => kernel_rfl)) ?_
  go_wp2
  have eq_ : lineR 1 m c0 = (c4, { m with sub := c0.wordV, words := c2.wordsV 1 }) := by
    simp only [lineR, ansR, eventsR, logsR, nameR, Rd.bind, Rd.byte, Rd.word, Rd.bytes, Rd.words, Rd.need, Rd.ret, leftR, ← Ec1.out, ← Ec2.out]
    rw [if_neg HZ.out]
    simp only [ansR, eventsR, logsR, nameR, Rd.bind, Rd.byte, Rd.word, Rd.bytes, Rd.words, Rd.need, Rd.ret, leftR, ← Ec3.out, ← Ec4.out]
  rw [eq_]
  exact bodyPost_ret (results_none rfl _ _ _) rfl (⟨rfl, HP.out⟩)
theorem line_1 {w0 w : World} {gr g gm : Nat} {c0 : Cu} {m : Msg} (h : PS.St w0 gr g gm w c0 m) : Calls Try.prog 21 #[.int .i64 1, .pointer (some ⟨g, 0, none⟩), .pointer (some ⟨gm, 0, none⟩)] w fun en w' => en = .returned (.tuple #[]) ∧ PS.St w0 gr g gm w' (lineR 1 m c0).1 (lineR 1 m c0).2 := by
  by_cases hz : c0.wordV = 0
  · exact line_1_e h hz
  by_cases ho : ((c0.wordS.need (subB c0.wordV && ((1 : Int) == 0 || c0.wordV != 4)) 8).wordsV 1).length = 1
  · exact line_1_1 h hz ho
  · exact line_1_0 h hz ho
end Go.Proofs.Ytalaochocmcbcaa.Diag
end
