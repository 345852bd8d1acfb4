/- What the laws of this chapter rest on, part 3: what the functions that they reach answer, each shown once. Conditions: what each theorem states. (Merged by a program of this session, wip/tools/merge.py, out of its own texts and of the words that the kit's print wrote for this seat, cut to those that are used.) -/
import Derived.Deep.MidRow
import Derived.Deep.CutRange
import Derived.Laws.EntriesVeiled
import Derived.RangeFuncNested
import Derived.RangeFuncBound
import Derived.RangeFuncCalls
import Derived.Maps.OwnIn
import Derived.WalkKit
import Derived.OwnWalkIn
import Derived.TacticsInMore
import Derived.LoopNIn
import Derived.LoopIn
import Derived.Shelf.Abstract
import Derived.Test.YtdjeekpgcjcffaaOB
set_option linter.unusedVariables false
set_option linter.unusedSimpArgs false
set_option maxHeartbeats 16000000
set_option maxRecDepth 100000
section
namespace Go.Proofs.Ytdjeekpgcjcffaa.Cur
open Go.RowKit Go.Proofs.Ytdjeekpgcjcffaa.P Go.Proofs.Ytdjeekpgcjcffaa.E Go.Proofs.YtdjeekpgcjcffaaW.PrintWords Go.Proofs.YtdjeekpgcjcffaaW.PrintLast Go.Proofs.YtdjeekpgcjcffaaW.PrintMore
def Row16 (lo hi : Nat) (w : World) (A : Option Addr) (xs : List Int) : Prop := ∀ W', Kept w W' (fun k => k < lo ∨ hi ≤ k) → Kd.C (Kd.int .u16) W' A xs.length xs
theorem Row16.now {lo hi : Nat} {w : World} {A : Option Addr} {xs : List Int} (h : Row16 lo hi w A xs) : Kd.C (Kd.int .u16) w A xs.length xs := h w (Kept.refl _ _)
theorem Row16.on {lo hi : Nat} {w w' : World} {A : Option Addr} {xs : List Int} (h : Row16 lo hi w A xs) (hk : Kept w w' (fun k => k < lo ∨ hi ≤ k)) : Row16 lo hi w' A xs := fun W' hk' => h W' (hk.then_ hk' (fun _ h2 => .inl h2))
theorem Row16.wide {lo hi lo' hi' : Nat} {w : World} {A : Option Addr} {xs : List Int} (h : Row16 lo hi w A xs) (h1 : lo' ≤ lo) (h2 : hi ≤ hi') : Row16 lo' hi' w A xs := fun W' hk => h W' (hk.mono fun k hk => by omega)
theorem row16_of_R {w1 : World} {e : Nat} {ok : Nat → Prop} {A : Option Addr} {n c lo : Nat} {xs : List Int} (h : Kd.R (Kd.int .u16) e w1 lo ok (.slice A n c) xs) : n = xs.length ∧ xs.length ≤ c ∧ Row16 lo w1.heap.size w1 A xs := by
  have h2 := Kd.R_reads' h
  obtain ⟨rfl, h3, _⟩ := h2
  exact ⟨rfl, h3, Kd.C_kept_own (Kd.R_bound h) (fun k hk => by omega)⟩
theorem at_row16 {lo hi : Nat} {w : World} {A : Option Addr} {xs : List Int} (h : Row16 lo hi w A xs) (i : Nat) (hi : i < xs.length) : ∃ ad, A = some ad ∧ w.cell? (ad.add i) = some (.int .u16 (xs.getD i 0)) := by
  obtain ⟨ad, e, h2⟩ := Kd.at_int h.now (i : Int) (by omega) (by omega)
  rw [Int.toNat_natCast] at h2
  refine ⟨ad, e, h2.trans ?_⟩
  simp [rd]
theorem take_any (A : Option Addr) (c : Nat) (l : List Int) (w : World) (hr : Kd.C (Kd.int .u8) w A l.length l) (hc : l.length ≤ c) (hb : isBytes l) (hl : l.length ≤ 1000000) :
    Calls Try.prog 64 #[.slice A l.length c] w fun e w' => ∃ A' c', e = .returned (.slice A' (Take.words l).length c') ∧ (Take.words l).length ≤ c' ∧ Row16 w.heap.size w'.heap.size w' A' (Take.words l) ∧ Below w.heap.size w w' := by
  obtain ⟨k, hk⟩ := (Take.take_ev l hb hl).rounds
  refine (word_Take.calls k A c l _ w hr hc hk).mono ?_
  rintro e w' ⟨v, rfl, R, B⟩
  obtain ⟨A2, c2, rfl, h2, h3⟩ := Kd.R_reads R
  obtain ⟨_, h5, h6⟩ := row16_of_R R
  exact ⟨A2, c2, rfl, h5, h6, B⟩
theorem numbers_neg (lo hi g : Nat) (xs : List Int) (s : Bool) (e n most : Int) (w : World) (h : At lo hi w g xs s e) (hn : n < 0 ∨ most < n) :
    Calls Try.prog 63 #[.func (.func 23) #[.pointer (some ⟨g, 0, none⟩)] #[], .int .i64 n, .int .i64 most] w fun en w' => en = .returned (.slice none 0 0) ∧ At lo hi w' g [] true (fstE e 2) ∧ Upd g w w' := by
  have HB := Aside0.mk (bytes_short lo hi g xs s e (-1) w h (.inr (.inl (by decide))))
  clear h
  by_cases c1 : n < 0
  · go_enter Try.func63, Try.ntmps63
    go_wp2_with (go_at_call 23; refine HB.out.mono ?_; rintro en w1 ⟨rfl, b3, b4⟩; have N3 := Aside0.mk b3; have N4 := Aside0.mk b4; clear b3 b4 HB)
    go_ret
    exact ⟨rfl, N3.out, N4.out⟩
  · have c2 : most < n := hn.resolve_left c1
    have c3 : decide (n > most) = true := decide_eq_true c2
    go_enter Try.func63, Try.ntmps63
    go_wp2_with (go_at_call 23; refine HB.out.mono ?_; rintro en w1 ⟨rfl, b3, b4⟩; have N3 := Aside0.mk b3; have N4 := Aside0.mk b4; clear b3 b4 HB)
    go_ret
    exact ⟨rfl, N3.out, N4.out⟩
theorem numbers_few (lo hi g : Nat) (xs : List Int) (s : Bool) (e : Int) (m most : Nat) (w : World) (h : At lo hi w g xs s e) (hm : m ≤ most) (hmost : most ≤ 1000000) (hs : s = true ∨ xs.length < 2 * m) :
    Calls Try.prog 63 #[.func (.func 23) #[.pointer (some ⟨g, 0, none⟩)] #[], .int .i64 m, .int .i64 most] w fun en w' => ∃ A' c', en = .returned (.slice A' 0 c') ∧ At lo hi w' g [] true (fstE e 2) ∧ Upd g w w' := by
  have HB := Aside0.mk (bytes_short lo hi g xs s e ((2 * m : Nat) : Int) w h (by rcases hs with h | h; exact .inl h; exact .inr (.inr (by omega))))
  clear h
  have c1 : decide ((m : Int) < 0) = false := decide_eq_false (by omega)
  have c2 : decide ((m : Int) > (most : Int)) = false := decide_eq_false (by omega)
  have c4 : decide ((most : Int) < (m : Int)) = false := decide_eq_false (by omega)
  have c3 : wrap64 (2 * (m : Int)) = ((2 * m : Nat) : Int) := by rw [wrap64_id (by omega) (by omega)]; omega
  have hT := fun W : World => take_any none 0 [] W (Kd.C_nil _ W) (Nat.le_refl _) (fun x hx => by cases hx) (by simp)
  have HT := Aside0.mk hT
  clear hT
  go_enter Try.func63, Try.ntmps63
  go_wp2_with (first | (go_at_call 23; refine HB.out.mono ?_; rintro en w1 ⟨rfl, b3, b4⟩; have N3 := Aside0.mk b3; have N4 := Aside0.mk b4; clear b3 b4 HB) | (go_at_call 64; refine (HT.out w1).mono ?_; rintro en w2 ⟨A2, c2_, rfl, d1, d2, d3⟩; have D2 := Aside0.mk d2; have D3 := Aside0.mk d3; clear d1 d2 d3))
  go_ret
  have hN : At lo hi w2 g [] true (fstE e 2) := N3.out.below D3.out
  exact ⟨A2, c2_, rfl, hN, N4.out.trans (Upd.of_below D3.out)⟩
theorem numbers_ok (lo hi g : Nat) (xs : List Int) (e : Int) (m most : Nat) (w : World) (h : At lo hi w g xs false e) (hm : m ≤ most) (hmost : most ≤ 1000000) (hs : 2 * m ≤ xs.length) (hl : xs.length ≤ 1000000) (hb : isBytes xs) :
    Calls Try.prog 63 #[.func (.func 23) #[.pointer (some ⟨g, 0, none⟩)] #[], .int .i64 m, .int .i64 most] w fun en w' => ∃ A' c', en = .returned (.slice A' (Take.words (xs.take (2 * m))).length c') ∧ (Take.words (xs.take (2 * m))).length ≤ c' ∧ Row16 w.heap.size w'.heap.size w' A' (Take.words (xs.take (2 * m))) ∧ At lo hi w' g (xs.drop (2 * m)) false e ∧ Upd g w w' := by
  have HB := Aside0.mk (bytes_ok lo hi g xs e (2 * m) w h hs hl)
  clear h
  have c1 : decide ((m : Int) < 0) = false := decide_eq_false (by omega)
  have c2 : decide ((m : Int) > (most : Int)) = false := decide_eq_false (by omega)
  have c4 : decide ((most : Int) < (m : Int)) = false := decide_eq_false (by omega)
  have c3 : wrap64 (2 * (m : Int)) = ((2 * m : Nat) : Int) := by rw [wrap64_id (by omega) (by omega)]; omega
  have hT := fun (W : World) (A : Option Addr) (c : Nat) (hr : Kd.C (Kd.int .u8) W A (xs.take (2 * m)).length (xs.take (2 * m))) (hc : (xs.take (2 * m)).length ≤ c) => take_any A c (xs.take (2 * m)) W hr hc (isBytes_take hb _) (by rw [List.length_take]; omega)
  have HT := Aside0.mk hT
  clear hT
  generalize hws : Take.words (xs.take (2 * m)) = ws at *
  clear hws
  generalize xs.take (2 * m) = bs at *
  go_enter Try.func63, Try.ntmps63
  go_wp2_with (first | (go_at_call 23; refine HB.out.mono ?_; rintro en w1 ⟨A1, c1_, rfl, b1, b2, b3, b4⟩; have N1 := Aside0.mk b1; have N2 := Aside0.mk b2; have N3 := Aside0.mk b3; have N4 := Aside0.mk b4; clear b1 b2 b3 b4 HB) | (go_at_call 64; refine (HT.out w1 A1 c1_ N2.out.now N1.out).mono ?_; rintro en w2 ⟨A2, c2_, rfl, d1, d2, d3⟩; have D1 := Aside0.mk d1; have D2 := Aside0.mk d2; have D3 := Aside0.mk d3; clear d1 d2 d3))
  go_ret
  exact ⟨A2, c2_, rfl, D1.out, D2.out.wide N4.out.kept.1 (Nat.le_refl _), N3.out.below D3.out, N4.out.trans (Upd.of_below D3.out)⟩
theorem words_short (lo hi g : Nat) (xs : List Int) (s : Bool) (e n : Int) (w : World) (h : At lo hi w g xs s e) (hl : xs.length ≤ 1000000) (hn : s = true ∨ n < 0 ∨ (xs.length : Int) < 2 * n) :
    Calls Try.prog 59 #[.pointer (some ⟨g, 0, none⟩), .int .i64 n] w fun en w' => ∃ A' c', en = .returned (.slice A' 0 c') ∧ At lo hi w' g [] true (fstE e 2) ∧ Upd g w w' := by
  have hN : Calls Try.prog 63 #[.func (.func 23) #[.pointer (some ⟨g, 0, none⟩)] #[], .int .i64 n, .int .i64 xs.length] w fun en w' => ∃ A' c', en = .returned (.slice A' 0 c') ∧ At lo hi w' g [] true (fstE e 2) ∧ Upd g w w' := by
    by_cases c1 : n < 0 ∨ (xs.length : Int) < n
    · exact (numbers_neg lo hi g xs s e n xs.length w h c1).mono fun en w' hh => ⟨none, 0, hh⟩
    · obtain ⟨m, rfl⟩ : ∃ m : Nat, n = m := ⟨n.toNat, by omega⟩
      exact numbers_few lo hi g xs s e m xs.length w h (by omega) hl (by rcases hn with h | h | h; exact .inl h; omega; exact .inr (by omega))
  have HN := Aside0.mk hN
  clear hN hn
  obtain ⟨h1, A, c, h2, h3, h4⟩ := h
  obtain ⟨k0, k1, k2, f0, f1, f2⟩ := cells_of h2
  clear h2 h4
  have hu1 := Try.underlying73
  go_enter Try.func59, Try.ntmps59
  go_wp2_with (go_at_call 63; refine HN.out.mono ?_; rintro en w1 ⟨A1, c1, rfl, b3, b4⟩; have N3 := Aside0.mk b3; have N4 := Aside0.mk b4; clear b3 b4 HN)
  go_ret
  exact ⟨A1, c1, rfl, N3.out, N4.out⟩
theorem words_ok (lo hi g : Nat) (xs : List Int) (e : Int) (m : Nat) (w : World) (h : At lo hi w g xs false e) (hs : 2 * m ≤ xs.length) (hl : xs.length ≤ 1000000) (hb : isBytes xs) :
    Calls Try.prog 59 #[.pointer (some ⟨g, 0, none⟩), .int .i64 m] w fun en w' => ∃ A' c', en = .returned (.slice A' (Take.words (xs.take (2 * m))).length c') ∧ (Take.words (xs.take (2 * m))).length ≤ c' ∧ Row16 w.heap.size w'.heap.size w' A' (Take.words (xs.take (2 * m))) ∧ At lo hi w' g (xs.drop (2 * m)) false e ∧ Upd g w w' := by
  have HN := Aside0.mk (numbers_ok lo hi g xs e m xs.length w h (by omega) hl hs hl hb)
  generalize Take.words (xs.take (2 * m)) = ws at *
  obtain ⟨h1, A, c, h2, h3, h4⟩ := h
  obtain ⟨k0, k1, k2, f0, f1, f2⟩ := cells_of h2
  clear h2 h4 hs
  have hu1 := Try.underlying73
  go_enter Try.func59, Try.ntmps59
  go_wp2_with (go_at_call 63; refine HN.out.mono ?_; rintro en w1 ⟨A1, c1, rfl, b1, b2, b3, b4⟩; have N1 := Aside0.mk b1; have N2 := Aside0.mk b2; have N3 := Aside0.mk b3; have N4 := Aside0.mk b4; clear b1 b2 b3 b4 HN)
  go_ret
  exact ⟨A1, c1, rfl, N1.out, N2.out, N3.out, N4.out⟩
theorem words_two (a b : Int) (t : List Int) : Take.words ((a :: b :: t).take (2 * 1)) = [a * 256 + b] := by
  simp [Take.words, Take.pre, Take.wordAt, List.range_succ]
theorem word_ok (lo hi g : Nat) (a b : Int) (xs : List Int) (e : Int) (w : World) (h : At lo hi w g (a :: b :: xs) false e) (hl : (a :: b :: xs).length ≤ 1000000) (hb : isBytes (a :: b :: xs)) :
    Calls Try.prog 58 #[.pointer (some ⟨g, 0, none⟩)] w fun en w' => en = .returned (.int .u16 (a * 256 + b)) ∧ At lo hi w' g xs false e ∧ Upd g w w' := by
  have hB := words_ok lo hi g (a :: b :: xs) e 1 w h (by simp) hl hb
  rw [words_two] at hB
  have HB := Aside0.mk hB
  clear h hB
  go_enter Try.func58, Try.ntmps58
  go_wp2_with (go_at_call 59; refine HB.out.mono ?_; rintro en w1 ⟨A', c', rfl, b1, b2, b3, b4⟩; obtain ⟨ad, rfl, q0⟩ := at_row16 b2 0 (by simp); have N3 := Aside0.mk b3; have N4 := Aside0.mk b4; clear b1 b2 b3 b4 HB)
  have q1 : w1.cell? ad = some (.int .u16 (a * 256 + b)) := by have := q0; rw [Addr.add_zero'] at this; exact this
  clear q0
  go_loopw [8] (fun i wr => i = .int .i64 0 ∧ wr = w1) (fun i _ => 0)
  case atStart => exact ⟨rfl, rfl⟩
  case round =>
    obtain ⟨rfl, rfl⟩ := hrel
    go_wp2
    go_ret
    exact ⟨rfl, N3.out, N4.out⟩
theorem word_short (lo hi g : Nat) (xs : List Int) (s : Bool) (e : Int) (w : World) (h : At lo hi w g xs s e) (hl : xs.length ≤ 1000000) (hs : s = true ∨ xs.length < 2) :
    Calls Try.prog 58 #[.pointer (some ⟨g, 0, none⟩)] w fun en w' => en = .returned (.int .u16 0) ∧ At lo hi w' g [] true (fstE e 2) ∧ Upd g w w' := by
  have HB := Aside0.mk (words_short lo hi g xs s e 1 w h hl (by rcases hs with h | h; exact .inl h; exact .inr (.inr (by omega))))
  clear h
  go_enter Try.func58, Try.ntmps58
  go_wp2_with (go_at_call 59; refine HB.out.mono ?_; rintro en w1 ⟨A', c', rfl, b3, b4⟩; have N3 := Aside0.mk b3; have N4 := Aside0.mk b4; clear b3 b4 HB)
  go_loopw [8] (fun i wr => i = .int .i64 0 ∧ wr = w1) (fun i _ => 0)
  case atStart => exact ⟨rfl, rfl⟩
  case round =>
    obtain ⟨rfl, rfl⟩ := hrel
    go_wp2
    go_ret
    exact ⟨rfl, N3.out, N4.out⟩
end Go.Proofs.Ytdjeekpgcjcffaa.Cur
end
section
namespace Go.Proofs.Ytdjeekpgcjcffaa.RCur
open Go.RowKit Go.Proofs.Ytdjeekpgcjcffaa.P Go.Proofs.Ytdjeekpgcjcffaa.E Go.Proofs.Ytdjeekpgcjcffaa.Cur Go.Proofs.YtdjeekpgcjcffaaW.PrintWords Go.Proofs.YtdjeekpgcjcffaaW.PrintLast Go.Proofs.YtdjeekpgcjcffaaW.PrintMore
def RAt (hi : Nat) (w : World) (g : Nat) (xs : List Int) (n : Nat) (s : Bool) (e : Int) : Prop :=
  hi ≤ g ∧ n ≤ xs.length ∧ xs.length ≤ 1000000 ∧ ∃ A c, w.heap[g]? = some (.cells #[.slice A xs.length c, .int .i64 n, .bool s, .int .i64 e] 78 (0, 0)) ∧ xs.length ≤ c ∧ Row 0 hi w A xs
theorem RAt.lt {hi : Nat} {w : World} {g : Nat} {xs : List Int} {n : Nat} {s : Bool} {e : Int} (h : RAt hi w g xs n s e) : g < w.heap.size := by
  obtain ⟨_, _, _, A, c, h1, _⟩ := h
  exact blk_lt h1
theorem RAt.on {hi : Nat} {w w' : World} {g : Nat} {xs : List Int} {n : Nat} {s : Bool} {e : Int} {S : Nat → Prop} (h : RAt hi w g xs n s e) (hk : Kept w w' S) (h1 : ∀ k, S k → hi ≤ k) (h2 : ¬ S g) : RAt hi w' g xs n s e := by
  obtain ⟨h3, h7, h8, A, c, h4, h5, h6⟩ := h
  exact ⟨h3, h7, h8, A, c, blk_kept h4 hk h2, h5, h6.on (hk.mono fun k hk => .inr (h1 k hk))⟩
theorem RAt.below {hi : Nat} {w w' : World} {g : Nat} {xs : List Int} {n : Nat} {s : Bool} {e : Int} (h : RAt hi w g xs n s e) (hb : Below w.heap.size w w') : RAt hi w' g xs n s e :=
  h.on (Kept.of_below hb (fun _ => False)) (fun _ h => h.elim) (fun h => h)
theorem cells4 {w : World} {g : Nat} {t : TypeId} {v0 v1 v2 v3 : Value} (h : w.heap[g]? = some (.cells #[v0, v1, v2, v3] t (0, 0))) : (w.cell? ⟨g, 0, none⟩ = some v0 ∧ w.cell? ⟨g, 1, none⟩ = some v1 ∧ w.cell? ⟨g, 2, none⟩ = some v2 ∧ w.cell? ⟨g, 3, none⟩ = some v3) ∧ w.frozen? ⟨g, 0, none⟩ = false ∧ w.frozen? ⟨g, 1, none⟩ = false ∧ w.frozen? ⟨g, 2, none⟩ = false ∧ w.frozen? ⟨g, 3, none⟩ = false :=
  ⟨⟨blk_cell h 0, blk_cell h 1, blk_cell h 2, blk_cell h 3⟩, blk_frozen h 0, blk_frozen h 1, blk_frozen h 2, blk_frozen h 3⟩
def bm (n m : Nat) : Array Bool := ⟨(List.range n).map fun i => m.testBit i⟩
theorem need_set (hi g : Nat) (xs : List Int) (n : Nat) (s : Bool) (f : Int) (w : World) (h : RAt hi w g xs n s 0) :
    Calls Try.prog 46 #[.pointer (some ⟨g, 0, none⟩), .bool false, .int .i64 f] w fun en w' => en = .returned (.tuple #[]) ∧ RAt hi w' g xs n s f ∧ Upd g w w' := by
  obtain ⟨h1, hn, hx, A, c, h2, h3, h4⟩ := h
  obtain ⟨⟨k0, k1, k2, k3⟩, f0, f1, f2, f3⟩ := cells4 h2
  have H2 := Aside0.mk h2
  have H4 := Aside0.mk h4
  clear h2 h4
  have hu1 := Try.underlying78
  go_enter Try.func46, Try.ntmps46
  go_wp2
  first
  | exact bodyPost_end (results_none rfl _ _ _) rfl ⟨rfl, ⟨h1, hn, hx, A, c, blk_put H2.out 3 _ rfl, h3, H4.out.on ((Upd.set w g 3 _).kept.mono (fun k hk => .inr (by omega)))⟩, Upd.set _ _ _ _⟩
  | exact bodyPost_ret (results_none rfl _ _ _) rfl ⟨rfl, ⟨h1, hn, hx, A, c, blk_put H2.out 3 _ rfl, h3, H4.out.on ((Upd.set w g 3 _).kept.mono (fun k hk => .inr (by omega)))⟩, Upd.set _ _ _ _⟩
theorem need_met (hi g : Nat) (xs : List Int) (n : Nat) (s : Bool) (e : Int) (w : World) (h : RAt hi w g xs n s e) (f : Int) :
    Calls Try.prog 46 #[.pointer (some ⟨g, 0, none⟩), .bool true, .int .i64 f] w fun en w' => en = .returned (.tuple #[]) ∧ RAt hi w' g xs n s e ∧ Upd g w w' := by
  obtain ⟨h1, hn, hx, A, c, h2, h3, h4⟩ := h
  obtain ⟨⟨k0, k1, k2, k3⟩, f0, f1, f2, f3⟩ := cells4 h2
  have H2 := Aside0.mk h2
  have H4 := Aside0.mk h4
  clear h2 h4
  have hu1 := Try.underlying78
  go_enter Try.func46, Try.ntmps46
  go_wp2
  exact bodyPost_ret (results_none rfl _ _ _) rfl ⟨rfl, ⟨h1, hn, hx, A, c, H2.out, h3, H4.out⟩, Upd.refl _ _⟩
theorem need_keep (hi g : Nat) (xs : List Int) (n : Nat) (s : Bool) (e : Int) (w : World) (h : RAt hi w g xs n s e) (f : Int) (he : e ≠ 0) :
    Calls Try.prog 46 #[.pointer (some ⟨g, 0, none⟩), .bool false, .int .i64 f] w fun en w' => en = .returned (.tuple #[]) ∧ RAt hi w' g xs n s e ∧ Upd g w w' := by
  have e1 : (e == 0) = false := beq_eq_false_iff_ne.2 he
  have e2 : (e != 0) = true := bne_iff_ne.2 he
  clear he
  obtain ⟨h1, hn, hx, A, c, h2, h3, h4⟩ := h
  obtain ⟨⟨k0, k1, k2, k3⟩, f0, f1, f2, f3⟩ := cells4 h2
  have H2 := Aside0.mk h2
  have H4 := Aside0.mk h4
  clear h2 h4
  have hu1 := Try.underlying78
  go_enter Try.func46, Try.ntmps46
  go_wp2
  exact bodyPost_ret (results_none rfl _ _ _) rfl ⟨rfl, ⟨h1, hn, hx, A, c, H2.out, h3, H4.out⟩, Upd.refl _ _⟩
theorem need_any (hi g : Nat) (xs : List Int) (n : Nat) (s : Bool) (e : Int) (w : World) (h : RAt hi w g xs n s e) (f : Int) :
    Calls Try.prog 46 #[.pointer (some ⟨g, 0, none⟩), .bool false, .int .i64 f] w fun en w' => en = .returned (.tuple #[]) ∧ RAt hi w' g xs n s (fstE e f) ∧ Upd g w w' := by
  by_cases he : e = 0
  · subst he
    exact need_set hi g xs n s f w h
  · have := need_keep hi g xs n s e w h f he
    rw [show fstE e f = e from if_neg he]
    exact this
def rleft.T1 : Bool × List (List Nat × List Nat) := (true, [([], []), ([0], [0]), ([1], [1]), ([2], [2]), ([3], [3]), ([], []), ([5], [5]), ([6], [6]), ([7], [7]), ([4, 8], [4, 8]), ([9, 0, 1, 2, 3, 4, 5, 6, 7, 8, 9], [9])])
def rleft.B1 : List Nat := [0, 1, 3, 7, 15, 0, 32, 96, 224, 511, 1023]
theorem rleft.tab1 : rtab .any (opsOf Try.f44 1) = rleft.T1 := by kernel_rfl
theorem rleft.bits1 : waitsOk rleft.T1.2 rleft.B1 = true := by kernel_rfl
theorem left_any (hi g : Nat) (xs : List Int) (n : Nat) (s : Bool) (e : Int) (w : World) (h : RAt hi w g xs n s e) :
    Calls Try.prog 44 #[.pointer (some ⟨g, 0, none⟩)] w fun en w' => en = .returned (.int .i64 ((xs.length : Int) - n)) ∧ RAt hi w' g xs n s e ∧ Upd g w w' := by
  obtain ⟨h1, hn, hx, A, c, h2, h3, h4⟩ := h
  obtain ⟨⟨k0, k1, k2, k3⟩, f0, f1, f2, f3⟩ := cells4 h2
  have H2 := Aside0.mk h2
  have H4 := Aside0.mk h4
  clear h2 h4
  have hu1 := Try.underlying78
  have c1 : wrap64 ((xs.length : Int) - (n : Int)) = (xs.length : Int) - (n : Int) := wrap64_id (by omega) (by omega)
  go_enter Try.func44, Try.ntmps44
  go_wp2
  refine start_ (n := 11) (S := fun w' => w'.cell? ⟨g, 0, none⟩ = some (.slice A xs.length c) ∧ w'.cell? ⟨g, 1, none⟩ = some (.int .i64 n) ∧ w'.cell? ⟨g, 2, none⟩ = some (.bool s) ∧ Aside0 (w'.heap[g]? = some (.cells #[.slice A xs.length c, .int .i64 n, .bool s, .int .i64 e] 78 (0, 0))) ∧ Aside0 (Upd g w w')) (ds := []) (bm 11 0) (by as_aux_lemma => kernel_rfl) rfl (by as_aux_lemma => kernel_rfl) ⟨k0, k1, k2, (Aside0.mk H2.out), (Aside0.mk ⟨rfl, rfl, rfl, (Kept.refl _ _).drew⟩)⟩ (fun hHeld => ?_)
  refine with_tabW rleft.tab1 rleft.bits1 (fun HT_ HW_ => ?_)
  refine pure_ (i := 0) (N := some 3) (v := ?_) (a' := ?_) (bm 11 1) rfl rfl (any_of HT_.out (by as_aux_lemma => kernel_rfl)) (fun _ _ _ h => h) (Or.inl ⟨by rfl, ?_⟩) ?_ ?_
  rotate_left
  · intro w'
    go_simp
    with_reducible rfl
  rotate_left
  · simp only [Act.put, List.setIfInBounds_toArray, List.set_cons_zero, List.set_cons_succ, i64_w, i32_w]
    rfl
  refine pure_ (i := 1) (N := some 4) (v := ?_) (a' := ?_) (bm 11 3) rfl rfl (any_of HT_.out (by as_aux_lemma => kernel_rfl)) (fun _ _ _ h => h) (Or.inl ⟨by rfl, ?_⟩) ?_ ?_
  rotate_left
  · intro w'
    go_simp
    with_reducible rfl
  rotate_left
  · simp only [Act.put, List.setIfInBounds_toArray, List.set_cons_zero, List.set_cons_succ, i64_w, i32_w]
    rfl
  refine pure_ (i := 2) (N := some 5) (v := ?_) (a' := ?_) (bm 11 7) rfl rfl (any_of HT_.out (by as_aux_lemma => kernel_rfl)) (fun _ _ _ h => h) (Or.inl ⟨by rfl, ?_⟩) ?_ ?_
  rotate_left
  · intro w'
    go_simp
    with_reducible rfl
  rotate_left
  · simp only [Act.put, List.setIfInBounds_toArray, List.set_cons_zero, List.set_cons_succ, i64_w, i32_w]
    rfl
  refine pure_ (i := 5) (N := some 8) (v := ?_) (a' := ?_) (bm 11 39) rfl rfl (any_of HT_.out (by as_aux_lemma => kernel_rfl)) (fun _ _ _ h => h) (Or.inl ⟨by rfl, ?_⟩) ?_ ?_
  rotate_left
  · intro w'
    go_simp
    with_reducible rfl
  rotate_left
  · simp only [Act.put, List.setIfInBounds_toArray, List.set_cons_zero, List.set_cons_succ, i64_w, i32_w]
    rfl
  refine pure_ (i := 6) (N := some 9) (v := ?_) (a' := ?_) (bm 11 103) rfl rfl (any_of HT_.out (by as_aux_lemma => kernel_rfl)) (fun _ _ _ h => h) (Or.inl ⟨by rfl, ?_⟩) ?_ ?_
  rotate_left
  · intro w'
    go_simp
    with_reducible rfl
  rotate_left
  · simp only [Act.put, List.setIfInBounds_toArray, List.set_cons_zero, List.set_cons_succ, i64_w, i32_w]
    rfl
  refine pure_ (i := 7) (N := some 10) (v := ?_) (a' := ?_) (bm 11 231) rfl rfl (any_of HT_.out (by as_aux_lemma => kernel_rfl)) (fun _ _ _ h => h) (Or.inl ⟨by rfl, ?_⟩) ?_ ?_
  rotate_left
  · intro w'
    go_simp
    with_reducible rfl
  rotate_left
  · simp only [Act.put, List.setIfInBounds_toArray, List.set_cons_zero, List.set_cons_succ, i64_w, i32_w]
    rfl
  refine take_ (i := 3) (N := some 6) (v := ?_) (a' := ?_) (bm 11 239) rfl rfl (take_ofW HT_.out HW_.out (by as_aux_lemma => kernel_rfl)) (fun _ _ _ h => h) (Or.inl ⟨by rfl, ?_⟩) hHeld ?_ ?_
  rotate_left
  · rintro w' ⟨s0, s1, s2, s3, s4⟩
    go_simp
    with_reducible rfl
  rotate_left
  · simp only [Act.put, List.setIfInBounds_toArray, List.set_cons_zero, List.set_cons_succ, i64_w, i32_w]
    rfl
  refine pure_ (i := 4) (N := some 7) (v := ?_) (a' := ?_) (bm 11 255) rfl rfl (any_of HT_.out (by as_aux_lemma => kernel_rfl)) (fun _ _ _ h => h) (Or.inl ⟨by rfl, ?_⟩) ?_ ?_
  rotate_left
  · intro w'
    go_simp
    with_reducible rfl
  rotate_left
  · simp only [Act.put, List.setIfInBounds_toArray, List.set_cons_zero, List.set_cons_succ, i64_w, i32_w]
    rfl
  refine take_ (i := 8) (N := some 11) (v := ?_) (a' := ?_) (bm 11 511) rfl rfl (take_ofW HT_.out HW_.out (by as_aux_lemma => kernel_rfl)) (fun _ _ _ h => h) (Or.inl ⟨by rfl, ?_⟩) hHeld ?_ ?_
  rotate_left
  · rintro w' ⟨s0, s1, s2, s3, s4⟩
    go_simp
    with_reducible rfl
  rotate_left
  · simp only [Act.put, List.setIfInBounds_toArray, List.set_cons_zero, List.set_cons_succ, i64_w, i32_w]
    rfl
  refine pure_ (i := 9) (N := some 12) (v := ?_) (a' := ?_) (bm 11 1023) rfl rfl (any_of HT_.out (by as_aux_lemma => kernel_rfl)) (fun _ _ _ h => h) (Or.inl ⟨by rfl, ?_⟩) ?_ ?_
  rotate_left
  · intro w'
    go_simp
    with_reducible rfl
  rotate_left
  · simp only [Act.put, List.setIfInBounds_toArray, List.set_cons_zero, List.set_cons_succ, i64_w, i32_w]
    rfl
  refine pure_ (i := 10) (N := some 2) (v := ?_) (a' := ?_) (bm 11 2047) rfl rfl (any_of HT_.out (by as_aux_lemma => kernel_rfl)) (fun _ _ _ h => h) (Or.inl ⟨by rfl, ?_⟩) ?_ ?_
  rotate_left
  · intro w'
    go_simp
    with_reducible rfl
  rotate_left
  · simp only [Act.put, List.setIfInBounds_toArray, List.set_cons_zero, List.set_cons_succ, i64_w, i32_w]
    rfl
  refine done_ (done_of HT_.out (by as_aux_lemma => kernel_rfl)) ?_
  go_wp2
  go_ret
  exact ⟨rfl, ⟨h1, hn, hx, A, c, hHeld.2.2.2.1.out, h3, H4.out.on (hHeld.2.2.2.2.out.kept.mono (fun k hk => .inr (by omega)))⟩, hHeld.2.2.2.2.out⟩
def rbytes.T1 : Bool × List (List Nat × List Nat) := (true, [([], []), ([0], [0]), ([1], [1]), ([2], [2]), ([3], [3]), ([4], [4]), ([5, 4], [4, 5]), ([4, 6], [4, 6]), ([7, 4], [7]), ([8], [8]), ([8], [8]), ([10, 8], [8, 10]), ([11, 8], [8, 11]), ([12, 8], [8, 12]), ([13, 8], [8, 13]), ([8], [8]), ([15, 8], [8, 15]), ([16, 8], [8, 16]), ([17, 8], [8, 17]), ([14, 18, 8], [8, 14, 18]), ([9, 19, 8], [8, 9, 19]), ([8, 20], [8, 20])])
def rbytes.B1 : List Nat := [0, 1, 3, 7, 15, 31, 63, 127, 255, 511, 511, 1535, 3583, 7679, 15871, 511, 33279, 98815, 229887, 523775, 1048575, 2097151]
theorem rbytes.tab1 : rtab .any (opsOf Try.f60 1) = rbytes.T1 := by kernel_rfl
theorem rbytes.bits1 : waitsOk rbytes.T1.2 rbytes.B1 = true := by kernel_rfl
def rbytes.T7 : Bool × List (List Nat × List Nat) := (true, [([], []), ([0], [0]), ([1], [1]), ([2], [2]), ([], []), ([4], [4]), ([5], [5]), ([6], [6]), ([], []), ([7, 8], [7, 8]), ([], []), ([10], [10]), ([11], [11]), ([12], [12]), ([3, 9, 13], [3, 9, 13]), ([14, 0, 1, 2, 3, 4, 5, 6, 7, 8, 9, 10, 11, 12, 13, 14], [14])])
def rbytes.B7 : List Nat := [0, 1, 3, 7, 0, 16, 48, 112, 0, 496, 0, 1024, 3072, 7168, 16383, 32767]
theorem rbytes.tab7 : rtab .any (opsOf Try.f60 7) = rbytes.T7 := by kernel_rfl
theorem rbytes.bits7 : waitsOk rbytes.T7.2 rbytes.B7 = true := by kernel_rfl
theorem bytes_s (hi g : Nat) (xs : List Int) (n : Nat) (e m : Int) (w : World) (h : RAt hi w g xs n true e)  :
    Calls Try.prog 60 #[.pointer (some ⟨g, 0, none⟩), .int .i64 m] w fun en w' => en = .returned (.slice none 0 0) ∧ RAt hi w' g xs xs.length true (fstE e 2) ∧ Upd g w w' := by
  obtain ⟨h1, hn, hx, A, c, h2, h3, h4⟩ := h
  obtain ⟨⟨k0, k1, k2, k3⟩, f0, f1, f2, f3⟩ := cells4 h2
  have H2 := Aside0.mk h2
  have H4 := Aside0.mk h4
  clear h2 h4
  have hu1 := Try.underlying78
  have c1 : wrap64 ((xs.length : Int) - (n : Int)) = (xs.length : Int) - (n : Int) := wrap64_id (by omega) (by omega)
  have FIN := Aside0.mk (fun (W : World) (hW : RAt hi W g xs xs.length true e) => need_any hi g xs xs.length true e W hW 2)
  go_enter Try.func60, Try.ntmps60
  go_wp2
  refine start_ (n := 22) (S := fun w' => w'.cell? ⟨g, 0, none⟩ = some (.slice A xs.length c) ∧ w'.cell? ⟨g, 1, none⟩ = some (.int .i64 n) ∧ w'.cell? ⟨g, 2, none⟩ = some (.bool true) ∧ Aside0 (w'.heap[g]? = some (.cells #[.slice A xs.length c, .int .i64 n, .bool true, .int .i64 e] 78 (0, 0))) ∧ Aside0 (Upd g w w')) (ds := []) (bm 22 0) (by as_aux_lemma => kernel_rfl) rfl (by as_aux_lemma => kernel_rfl) ⟨k0, k1, k2, (Aside0.mk H2.out), (Aside0.mk ⟨rfl, rfl, rfl, (Kept.refl _ _).drew⟩)⟩ (fun hHeld => ?_)
  refine with_tabW rbytes.tab1 rbytes.bits1 (fun HT_ HW_ => ?_)
  refine pure_ (i := 0) (N := some 5) (v := ?_) (a' := ?_) (bm 22 1) rfl rfl (any_of HT_.out (by as_aux_lemma => kernel_rfl)) (fun _ _ _ h => h) (Or.inl ⟨by rfl, ?_⟩) ?_ ?_
  rotate_left
  · intro w'
    go_simp
    with_reducible rfl
  rotate_left
  · simp only [Act.put, List.setIfInBounds_toArray, List.set_cons_zero, List.set_cons_succ, i64_w, i32_w]
    rfl
  refine pure_ (i := 1) (N := some 6) (v := ?_) (a' := ?_) (bm 22 3) rfl rfl (any_of HT_.out (by as_aux_lemma => kernel_rfl)) (fun _ _ _ h => h) (Or.inl ⟨by rfl, ?_⟩) ?_ ?_
  rotate_left
  · intro w'
    go_simp
    with_reducible rfl
  rotate_left
  · simp only [Act.put, List.setIfInBounds_toArray, List.set_cons_zero, List.set_cons_succ, i64_w, i32_w]
    rfl
  refine pure_ (i := 2) (N := some 7) (v := ?_) (a' := ?_) (bm 22 7) rfl rfl (any_of HT_.out (by as_aux_lemma => kernel_rfl)) (fun _ _ _ h => h) (Or.inl ⟨by rfl, ?_⟩) ?_ ?_
  rotate_left
  · intro w'
    go_simp
    with_reducible rfl
  rotate_left
  · simp only [Act.put, List.setIfInBounds_toArray, List.set_cons_zero, List.set_cons_succ, i64_w, i32_w]
    rfl
  refine take_ (i := 3) (N := some 8) (v := ?_) (a' := ?_) (bm 22 15) rfl rfl (take_ofW HT_.out HW_.out (by as_aux_lemma => kernel_rfl)) (fun _ _ _ h => h) (Or.inl ⟨by rfl, ?_⟩) hHeld ?_ ?_
  rotate_left
  · rintro w' ⟨s0, s1, s2, s3, s4⟩
    go_simp
    with_reducible rfl
  rotate_left
  · simp only [Act.put, List.setIfInBounds_toArray, List.set_cons_zero, List.set_cons_succ, i64_w, i32_w]
    rfl
  refine pure_ (i := 4) (N := some 9) (v := ?_) (a' := ?_) (bm 22 31) rfl rfl (any_of HT_.out (by as_aux_lemma => kernel_rfl)) (fun _ _ _ h => h) (Or.inl ⟨by rfl, ?_⟩) ?_ ?_
  rotate_left
  · intro w'
    go_simp
    with_reducible rfl
  rotate_left
  · simp only [Act.put, List.setIfInBounds_toArray, List.set_cons_zero, List.set_cons_succ, i64_w, i32_w]
    rfl
  refine pure_ (i := 5) (N := some 10) (v := undef) (a' := ?_) (bm 22 63) rfl rfl (any_of HT_.out (by as_aux_lemma => kernel_rfl)) (fun _ _ _ h => h) (Or.inr ⟨by rfl, rfl⟩) ?_ ?_
  rotate_left
  · simp only [Act.put, List.setIfInBounds_toArray, List.set_cons_zero, List.set_cons_succ, i64_w, i32_w]
    rfl
  refine pure_ (i := 6) (N := some 11) (v := undef) (a' := ?_) (bm 22 127) rfl rfl (any_of HT_.out (by as_aux_lemma => kernel_rfl)) (fun _ _ _ h => h) (Or.inr ⟨by rfl, rfl⟩) ?_ ?_
  rotate_left
  · simp only [Act.put, List.setIfInBounds_toArray, List.set_cons_zero, List.set_cons_succ, i64_w, i32_w]
    rfl
  refine pure_ (i := 7) (N := some 12) (v := ?_) (a' := ?_) (bm 22 255) rfl rfl (any_of HT_.out (by as_aux_lemma => kernel_rfl)) (fun _ _ _ h => h) (Or.inl ⟨by rfl, ?_⟩) ?_ ?_
  rotate_left
  · intro w'
    go_simp
    with_reducible rfl
  rotate_left
  · simp only [Act.put, List.setIfInBounds_toArray, List.set_cons_zero, List.set_cons_succ, i64_w, i32_w]
    rfl
  refine pure_ (i := 8) (N := some 13) (v := ?_) (a' := ?_) (bm 22 511) rfl rfl (any_of HT_.out (by as_aux_lemma => kernel_rfl)) (fun _ _ _ h => h) (Or.inl ⟨by rfl, ?_⟩) ?_ ?_
  rotate_left
  · intro w'
    go_simp
    with_reducible rfl
  rotate_left
  · simp only [Act.put, List.setIfInBounds_toArray, List.set_cons_zero, List.set_cons_succ, i64_w, i32_w]
    rfl
  refine pure_ (i := 9) (N := some 14) (v := undef) (a' := ?_) (bm 22 1023) rfl rfl (any_of HT_.out (by as_aux_lemma => kernel_rfl)) (fun _ _ _ h => h) (Or.inr ⟨by rfl, rfl⟩) ?_ ?_
  rotate_left
  · simp only [Act.put, List.setIfInBounds_toArray, List.set_cons_zero, List.set_cons_succ, i64_w, i32_w]
    rfl
  refine pure_ (i := 10) (N := some 15) (v := undef) (a' := ?_) (bm 22 2047) rfl rfl (any_of HT_.out (by as_aux_lemma => kernel_rfl)) (fun _ _ _ h => h) (Or.inr ⟨by rfl, rfl⟩) ?_ ?_
  rotate_left
  · simp only [Act.put, List.setIfInBounds_toArray, List.set_cons_zero, List.set_cons_succ, i64_w, i32_w]
    rfl
  refine pure_ (i := 11) (N := some 16) (v := undef) (a' := ?_) (bm 22 4095) rfl rfl (any_of HT_.out (by as_aux_lemma => kernel_rfl)) (fun _ _ _ h => h) (Or.inr ⟨by rfl, rfl⟩) ?_ ?_
  rotate_left
  · simp only [Act.put, List.setIfInBounds_toArray, List.set_cons_zero, List.set_cons_succ, i64_w, i32_w]
    rfl
  refine pure_ (i := 12) (N := some 17) (v := undef) (a' := ?_) (bm 22 8191) rfl rfl (any_of HT_.out (by as_aux_lemma => kernel_rfl)) (fun _ _ _ h => h) (Or.inr ⟨by rfl, rfl⟩) ?_ ?_
  rotate_left
  · simp only [Act.put, List.setIfInBounds_toArray, List.set_cons_zero, List.set_cons_succ, i64_w, i32_w]
    rfl
  refine pure_ (i := 13) (N := some 18) (v := undef) (a' := ?_) (bm 22 16383) rfl rfl (any_of HT_.out (by as_aux_lemma => kernel_rfl)) (fun _ _ _ h => h) (Or.inr ⟨by rfl, rfl⟩) ?_ ?_
  rotate_left
  · simp only [Act.put, List.setIfInBounds_toArray, List.set_cons_zero, List.set_cons_succ, i64_w, i32_w]
    rfl
  refine pure_ (i := 14) (N := some 19) (v := undef) (a' := ?_) (bm 22 32767) rfl rfl (any_of HT_.out (by as_aux_lemma => kernel_rfl)) (fun _ _ _ h => h) (Or.inr ⟨by rfl, rfl⟩) ?_ ?_
  rotate_left
  · simp only [Act.put, List.setIfInBounds_toArray, List.set_cons_zero, List.set_cons_succ, i64_w, i32_w]
    rfl
  refine pure_ (i := 15) (N := some 20) (v := undef) (a' := ?_) (bm 22 65535) rfl rfl (any_of HT_.out (by as_aux_lemma => kernel_rfl)) (fun _ _ _ h => h) (Or.inr ⟨by rfl, rfl⟩) ?_ ?_
  rotate_left
  · simp only [Act.put, List.setIfInBounds_toArray, List.set_cons_zero, List.set_cons_succ, i64_w, i32_w]
    rfl
  refine pure_ (i := 16) (N := some 21) (v := undef) (a' := ?_) (bm 22 131071) rfl rfl (any_of HT_.out (by as_aux_lemma => kernel_rfl)) (fun _ _ _ h => h) (Or.inr ⟨by rfl, rfl⟩) ?_ ?_
  rotate_left
  · simp only [Act.put, List.setIfInBounds_toArray, List.set_cons_zero, List.set_cons_succ, i64_w, i32_w]
    rfl
  refine pure_ (i := 17) (N := some 22) (v := undef) (a' := ?_) (bm 22 262143) rfl rfl (any_of HT_.out (by as_aux_lemma => kernel_rfl)) (fun _ _ _ h => h) (Or.inr ⟨by rfl, rfl⟩) ?_ ?_
  rotate_left
  · simp only [Act.put, List.setIfInBounds_toArray, List.set_cons_zero, List.set_cons_succ, i64_w, i32_w]
    rfl
  refine pure_ (i := 18) (N := some 23) (v := undef) (a' := ?_) (bm 22 524287) rfl rfl (any_of HT_.out (by as_aux_lemma => kernel_rfl)) (fun _ _ _ h => h) (Or.inr ⟨by rfl, rfl⟩) ?_ ?_
  rotate_left
  · simp only [Act.put, List.setIfInBounds_toArray, List.set_cons_zero, List.set_cons_succ, i64_w, i32_w]
    rfl
  refine pure_ (i := 19) (N := some 24) (v := undef) (a' := ?_) (bm 22 1048575) rfl rfl (any_of HT_.out (by as_aux_lemma => kernel_rfl)) (fun _ _ _ h => h) (Or.inr ⟨by rfl, rfl⟩) ?_ ?_
  rotate_left
  · simp only [Act.put, List.setIfInBounds_toArray, List.set_cons_zero, List.set_cons_succ, i64_w, i32_w]
    rfl
  refine pure_ (i := 20) (N := some 25) (v := undef) (a' := ?_) (bm 22 2097151) rfl rfl (any_of HT_.out (by as_aux_lemma => kernel_rfl)) (fun _ _ _ h => h) (Or.inr ⟨by rfl, rfl⟩) ?_ ?_
  rotate_left
  · simp only [Act.put, List.setIfInBounds_toArray, List.set_cons_zero, List.set_cons_succ, i64_w, i32_w]
    rfl
  refine pure_ (i := 21) (N := some 26) (v := ?_) (a' := ?_) (bm 22 4194303) rfl rfl (any_of HT_.out (by as_aux_lemma => kernel_rfl)) (fun _ _ _ h => h) (Or.inl ⟨by rfl, ?_⟩) ?_ ?_
  rotate_left
  · intro w'
    go_simp
    with_reducible rfl
  rotate_left
  · simp only [Act.put, List.setIfInBounds_toArray, List.set_cons_zero, List.set_cons_succ, i64_w, i32_w]
    rfl
  refine done_ (done_of HT_.out (by as_aux_lemma => kernel_rfl)) ?_
  have hb := hHeld.2.2.2.1.out
  have hU := hHeld.2.2.2.2.out
  obtain ⟨⟨q0, q1, q2, q3⟩, p0, p1, p2, p3⟩ := cells4 hb
  clear hHeld
  generalize World.drew w = wd at *
  have HS := Aside0.mk (fun (W : World) (hW : W = (wd.setCell ⟨g, 2, none⟩ (.bool true)).setCell ⟨g, 1, none⟩ (.int .i64 xs.length)) => (by
    subst hW
    exact ⟨h1, Nat.le_refl _, hx, A, c, blk_put (blk_put hb 2 _ rfl) 1 _ rfl, h3, H4.out.on ((hU.trans ((Upd.set _ _ _ _).trans (Upd.set _ _ _ _))).kept.mono (fun k hk => .inr (by omega)))⟩ : RAt hi W g xs xs.length true e))
  have HU := Aside0.mk (hU.trans ((Upd.set wd g 2 (.bool true)).trans (Upd.set _ g 1 (.int .i64 xs.length))))
  clear hb hU
  go_wp2_with (go_at_call 46; refine (FIN.out _ ?hw).mono ?_; (case hw => exact HS.out _ rfl); rintro en w2 ⟨rfl, b1, b2⟩; have N1 := Aside0.mk b1; have N2 := Aside0.mk b2; clear b1 b2)
  go_ret
  exact ⟨rfl, N1.out, HU.out.trans N2.out⟩
theorem bytes_neg (hi g : Nat) (xs : List Int) (n : Nat) (e m : Int) (w : World) (h : RAt hi w g xs n false e) (hm : m < 0) :
    Calls Try.prog 60 #[.pointer (some ⟨g, 0, none⟩), .int .i64 m] w fun en w' => en = .returned (.slice none 0 0) ∧ RAt hi w' g xs xs.length true (fstE e 2) ∧ Upd g w w' := by
  obtain ⟨h1, hn, hx, A, c, h2, h3, h4⟩ := h
  obtain ⟨⟨k0, k1, k2, k3⟩, f0, f1, f2, f3⟩ := cells4 h2
  have H2 := Aside0.mk h2
  have H4 := Aside0.mk h4
  clear h2 h4
  have hu1 := Try.underlying78
  have d1 : decide (m < 0) = true := decide_eq_true hm
  have c1 : wrap64 ((xs.length : Int) - (n : Int)) = (xs.length : Int) - (n : Int) := wrap64_id (by omega) (by omega)
  have FIN := Aside0.mk (fun (W : World) (hW : RAt hi W g xs xs.length true e) => need_any hi g xs xs.length true e W hW 2)
  go_enter Try.func60, Try.ntmps60
  go_wp2
  refine start_ (n := 22) (S := fun w' => w'.cell? ⟨g, 0, none⟩ = some (.slice A xs.length c) ∧ w'.cell? ⟨g, 1, none⟩ = some (.int .i64 n) ∧ w'.cell? ⟨g, 2, none⟩ = some (.bool false) ∧ Aside0 (w'.heap[g]? = some (.cells #[.slice A xs.length c, .int .i64 n, .bool false, .int .i64 e] 78 (0, 0))) ∧ Aside0 (Upd g w w')) (ds := []) (bm 22 0) (by as_aux_lemma => kernel_rfl) rfl (by as_aux_lemma => kernel_rfl) ⟨k0, k1, k2, (Aside0.mk H2.out), (Aside0.mk ⟨rfl, rfl, rfl, (Kept.refl _ _).drew⟩)⟩ (fun hHeld => ?_)
  refine with_tabW rbytes.tab1 rbytes.bits1 (fun HT_ HW_ => ?_)
  refine pure_ (i := 0) (N := some 5) (v := ?_) (a' := ?_) (bm 22 1) rfl rfl (any_of HT_.out (by as_aux_lemma => kernel_rfl)) (fun _ _ _ h => h) (Or.inl ⟨by rfl, ?_⟩) ?_ ?_
  rotate_left
  · intro w'
    go_simp
    with_reducible rfl
  rotate_left
  · simp only [Act.put, List.setIfInBounds_toArray, List.set_cons_zero, List.set_cons_succ, i64_w, i32_w]
    rfl
  refine pure_ (i := 1) (N := some 6) (v := ?_) (a' := ?_) (bm 22 3) rfl rfl (any_of HT_.out (by as_aux_lemma => kernel_rfl)) (fun _ _ _ h => h) (Or.inl ⟨by rfl, ?_⟩) ?_ ?_
  rotate_left
  · intro w'
    go_simp
    with_reducible rfl
  rotate_left
  · simp only [Act.put, List.setIfInBounds_toArray, List.set_cons_zero, List.set_cons_succ, i64_w, i32_w]
    rfl
  refine pure_ (i := 2) (N := some 7) (v := ?_) (a' := ?_) (bm 22 7) rfl rfl (any_of HT_.out (by as_aux_lemma => kernel_rfl)) (fun _ _ _ h => h) (Or.inl ⟨by rfl, ?_⟩) ?_ ?_
  rotate_left
  · intro w'
    go_simp
    with_reducible rfl
  rotate_left
  · simp only [Act.put, List.setIfInBounds_toArray, List.set_cons_zero, List.set_cons_succ, i64_w, i32_w]
    rfl
  refine take_ (i := 3) (N := some 8) (v := ?_) (a' := ?_) (bm 22 15) rfl rfl (take_ofW HT_.out HW_.out (by as_aux_lemma => kernel_rfl)) (fun _ _ _ h => h) (Or.inl ⟨by rfl, ?_⟩) hHeld ?_ ?_
  rotate_left
  · rintro w' ⟨s0, s1, s2, s3, s4⟩
    go_simp
    with_reducible rfl
  rotate_left
  · simp only [Act.put, List.setIfInBounds_toArray, List.set_cons_zero, List.set_cons_succ, i64_w, i32_w]
    rfl
  refine pure_ (i := 4) (N := some 9) (v := ?_) (a' := ?_) (bm 22 31) rfl rfl (any_of HT_.out (by as_aux_lemma => kernel_rfl)) (fun _ _ _ h => h) (Or.inl ⟨by rfl, ?_⟩) ?_ ?_
  rotate_left
  · intro w'
    go_simp
    with_reducible rfl
  rotate_left
  · simp only [Act.put, List.setIfInBounds_toArray, List.set_cons_zero, List.set_cons_succ, i64_w, i32_w]
    rfl
  refine pure_ (i := 5) (N := some 10) (v := ?_) (a' := ?_) (bm 22 63) rfl rfl (any_of HT_.out (by as_aux_lemma => kernel_rfl)) (fun _ _ _ h => h) (Or.inl ⟨by rfl, ?_⟩) ?_ ?_
  rotate_left
  · intro w'
    go_simp
    with_reducible rfl
  rotate_left
  · simp only [Act.put, List.setIfInBounds_toArray, List.set_cons_zero, List.set_cons_succ, i64_w, i32_w]
    rfl
  refine pure_ (i := 6) (N := some 11) (v := ?_) (a' := ?_) (bm 22 127) rfl rfl (any_of HT_.out (by as_aux_lemma => kernel_rfl)) (fun _ _ _ h => h) (Or.inl ⟨by rfl, ?_⟩) ?_ ?_
  rotate_left
  · intro w'
    go_simp
    with_reducible rfl
  rotate_left
  · simp only [Act.put, List.setIfInBounds_toArray, List.set_cons_zero, List.set_cons_succ, i64_w, i32_w]
    rfl
  refine pure_ (i := 7) (N := some 12) (v := ?_) (a' := ?_) (bm 22 255) rfl rfl (any_of HT_.out (by as_aux_lemma => kernel_rfl)) (fun _ _ _ h => h) (Or.inl ⟨by rfl, ?_⟩) ?_ ?_
  rotate_left
  · intro w'
    go_simp
    with_reducible rfl
  rotate_left
  · simp only [Act.put, List.setIfInBounds_toArray, List.set_cons_zero, List.set_cons_succ, i64_w, i32_w]
    rfl
  refine pure_ (i := 8) (N := some 13) (v := ?_) (a' := ?_) (bm 22 511) rfl rfl (any_of HT_.out (by as_aux_lemma => kernel_rfl)) (fun _ _ _ h => h) (Or.inl ⟨by rfl, ?_⟩) ?_ ?_
  rotate_left
  · intro w'
    go_simp
    with_reducible rfl
  rotate_left
  · simp only [Act.put, List.setIfInBounds_toArray, List.set_cons_zero, List.set_cons_succ, i64_w, i32_w]
    rfl
  refine pure_ (i := 9) (N := some 14) (v := undef) (a' := ?_) (bm 22 1023) rfl rfl (any_of HT_.out (by as_aux_lemma => kernel_rfl)) (fun _ _ _ h => h) (Or.inr ⟨by rfl, rfl⟩) ?_ ?_
  rotate_left
  · simp only [Act.put, List.setIfInBounds_toArray, List.set_cons_zero, List.set_cons_succ, i64_w, i32_w]
    rfl
  refine pure_ (i := 10) (N := some 15) (v := undef) (a' := ?_) (bm 22 2047) rfl rfl (any_of HT_.out (by as_aux_lemma => kernel_rfl)) (fun _ _ _ h => h) (Or.inr ⟨by rfl, rfl⟩) ?_ ?_
  rotate_left
  · simp only [Act.put, List.setIfInBounds_toArray, List.set_cons_zero, List.set_cons_succ, i64_w, i32_w]
    rfl
  refine pure_ (i := 11) (N := some 16) (v := undef) (a' := ?_) (bm 22 4095) rfl rfl (any_of HT_.out (by as_aux_lemma => kernel_rfl)) (fun _ _ _ h => h) (Or.inr ⟨by rfl, rfl⟩) ?_ ?_
  rotate_left
  · simp only [Act.put, List.setIfInBounds_toArray, List.set_cons_zero, List.set_cons_succ, i64_w, i32_w]
    rfl
  refine pure_ (i := 12) (N := some 17) (v := undef) (a' := ?_) (bm 22 8191) rfl rfl (any_of HT_.out (by as_aux_lemma => kernel_rfl)) (fun _ _ _ h => h) (Or.inr ⟨by rfl, rfl⟩) ?_ ?_
  rotate_left
  · simp only [Act.put, List.setIfInBounds_toArray, List.set_cons_zero, List.set_cons_succ, i64_w, i32_w]
    rfl
  refine pure_ (i := 13) (N := some 18) (v := undef) (a' := ?_) (bm 22 16383) rfl rfl (any_of HT_.out (by as_aux_lemma => kernel_rfl)) (fun _ _ _ h => h) (Or.inr ⟨by rfl, rfl⟩) ?_ ?_
  rotate_left
  · simp only [Act.put, List.setIfInBounds_toArray, List.set_cons_zero, List.set_cons_succ, i64_w, i32_w]
    rfl
  refine pure_ (i := 14) (N := some 19) (v := undef) (a' := ?_) (bm 22 32767) rfl rfl (any_of HT_.out (by as_aux_lemma => kernel_rfl)) (fun _ _ _ h => h) (Or.inr ⟨by rfl, rfl⟩) ?_ ?_
  rotate_left
  · simp only [Act.put, List.setIfInBounds_toArray, List.set_cons_zero, List.set_cons_succ, i64_w, i32_w]
    rfl
  refine pure_ (i := 15) (N := some 20) (v := undef) (a' := ?_) (bm 22 65535) rfl rfl (any_of HT_.out (by as_aux_lemma => kernel_rfl)) (fun _ _ _ h => h) (Or.inr ⟨by rfl, rfl⟩) ?_ ?_
  rotate_left
  · simp only [Act.put, List.setIfInBounds_toArray, List.set_cons_zero, List.set_cons_succ, i64_w, i32_w]
    rfl
  refine pure_ (i := 16) (N := some 21) (v := undef) (a' := ?_) (bm 22 131071) rfl rfl (any_of HT_.out (by as_aux_lemma => kernel_rfl)) (fun _ _ _ h => h) (Or.inr ⟨by rfl, rfl⟩) ?_ ?_
  rotate_left
  · simp only [Act.put, List.setIfInBounds_toArray, List.set_cons_zero, List.set_cons_succ, i64_w, i32_w]
    rfl
  refine pure_ (i := 17) (N := some 22) (v := undef) (a' := ?_) (bm 22 262143) rfl rfl (any_of HT_.out (by as_aux_lemma => kernel_rfl)) (fun _ _ _ h => h) (Or.inr ⟨by rfl, rfl⟩) ?_ ?_
  rotate_left
  · simp only [Act.put, List.setIfInBounds_toArray, List.set_cons_zero, List.set_cons_succ, i64_w, i32_w]
    rfl
  refine pure_ (i := 18) (N := some 23) (v := undef) (a' := ?_) (bm 22 524287) rfl rfl (any_of HT_.out (by as_aux_lemma => kernel_rfl)) (fun _ _ _ h => h) (Or.inr ⟨by rfl, rfl⟩) ?_ ?_
  rotate_left
  · simp only [Act.put, List.setIfInBounds_toArray, List.set_cons_zero, List.set_cons_succ, i64_w, i32_w]
    rfl
  refine pure_ (i := 19) (N := some 24) (v := undef) (a' := ?_) (bm 22 1048575) rfl rfl (any_of HT_.out (by as_aux_lemma => kernel_rfl)) (fun _ _ _ h => h) (Or.inr ⟨by rfl, rfl⟩) ?_ ?_
  rotate_left
  · simp only [Act.put, List.setIfInBounds_toArray, List.set_cons_zero, List.set_cons_succ, i64_w, i32_w]
    rfl
  refine pure_ (i := 20) (N := some 25) (v := undef) (a' := ?_) (bm 22 2097151) rfl rfl (any_of HT_.out (by as_aux_lemma => kernel_rfl)) (fun _ _ _ h => h) (Or.inr ⟨by rfl, rfl⟩) ?_ ?_
  rotate_left
  · simp only [Act.put, List.setIfInBounds_toArray, List.set_cons_zero, List.set_cons_succ, i64_w, i32_w]
    rfl
  refine pure_ (i := 21) (N := some 26) (v := ?_) (a' := ?_) (bm 22 4194303) rfl rfl (any_of HT_.out (by as_aux_lemma => kernel_rfl)) (fun _ _ _ h => h) (Or.inl ⟨by rfl, ?_⟩) ?_ ?_
  rotate_left
  · intro w'
    go_simp
    with_reducible rfl
  rotate_left
  · simp only [Act.put, List.setIfInBounds_toArray, List.set_cons_zero, List.set_cons_succ, i64_w, i32_w]
    rfl
  refine done_ (done_of HT_.out (by as_aux_lemma => kernel_rfl)) ?_
  have hb := hHeld.2.2.2.1.out
  have hU := hHeld.2.2.2.2.out
  obtain ⟨⟨q0, q1, q2, q3⟩, p0, p1, p2, p3⟩ := cells4 hb
  clear hHeld
  generalize World.drew w = wd at *
  have HS := Aside0.mk (fun (W : World) (hW : W = (wd.setCell ⟨g, 2, none⟩ (.bool true)).setCell ⟨g, 1, none⟩ (.int .i64 xs.length)) => (by
    subst hW
    exact ⟨h1, Nat.le_refl _, hx, A, c, blk_put (blk_put hb 2 _ rfl) 1 _ rfl, h3, H4.out.on ((hU.trans ((Upd.set _ _ _ _).trans (Upd.set _ _ _ _))).kept.mono (fun k hk => .inr (by omega)))⟩ : RAt hi W g xs xs.length true e))
  have HU := Aside0.mk (hU.trans ((Upd.set wd g 2 (.bool true)).trans (Upd.set _ g 1 (.int .i64 xs.length))))
  clear hb hU
  go_wp2_with (go_at_call 46; refine (FIN.out _ ?hw).mono ?_; (case hw => exact HS.out _ rfl); rintro en w2 ⟨rfl, b1, b2⟩; have N1 := Aside0.mk b1; have N2 := Aside0.mk b2; clear b1 b2)
  go_ret
  exact ⟨rfl, N1.out, HU.out.trans N2.out⟩
theorem bytes_over (hi g : Nat) (xs : List Int) (n : Nat) (e m : Int) (w : World) (h : RAt hi w g xs n false e) (hm : ¬ m < 0) (ho : (xs.length : Int) - n < m) :
    Calls Try.prog 60 #[.pointer (some ⟨g, 0, none⟩), .int .i64 m] w fun en w' => en = .returned (.slice none 0 0) ∧ RAt hi w' g xs xs.length true (fstE e 2) ∧ Upd g w w' := by
  obtain ⟨h1, hn, hx, A, c, h2, h3, h4⟩ := h
  obtain ⟨⟨k0, k1, k2, k3⟩, f0, f1, f2, f3⟩ := cells4 h2
  have H2 := Aside0.mk h2
  have H4 := Aside0.mk h4
  clear h2 h4
  have hu1 := Try.underlying78
  have d1 : decide (m < 0) = false := decide_eq_false hm
  have d2 : decide (m > (xs.length : Int) - (n : Int)) = true := decide_eq_true ho
  have d3 : decide ((xs.length : Int) - (n : Int) < m) = true := decide_eq_true ho
  have c1 : wrap64 ((xs.length : Int) - (n : Int)) = (xs.length : Int) - (n : Int) := wrap64_id (by omega) (by omega)
  have FIN := Aside0.mk (fun (W : World) (hW : RAt hi W g xs xs.length true e) => need_any hi g xs xs.length true e W hW 2)
  go_enter Try.func60, Try.ntmps60
  go_wp2
  refine start_ (n := 22) (S := fun w' => w'.cell? ⟨g, 0, none⟩ = some (.slice A xs.length c) ∧ w'.cell? ⟨g, 1, none⟩ = some (.int .i64 n) ∧ w'.cell? ⟨g, 2, none⟩ = some (.bool false) ∧ Aside0 (w'.heap[g]? = some (.cells #[.slice A xs.length c, .int .i64 n, .bool false, .int .i64 e] 78 (0, 0))) ∧ Aside0 (Upd g w w')) (ds := []) (bm 22 0) (by as_aux_lemma => kernel_rfl) rfl (by as_aux_lemma => kernel_rfl) ⟨k0, k1, k2, (Aside0.mk H2.out), (Aside0.mk ⟨rfl, rfl, rfl, (Kept.refl _ _).drew⟩)⟩ (fun hHeld => ?_)
  refine with_tabW rbytes.tab1 rbytes.bits1 (fun HT_ HW_ => ?_)
  refine pure_ (i := 0) (N := some 5) (v := ?_) (a' := ?_) (bm 22 1) rfl rfl (any_of HT_.out (by as_aux_lemma => kernel_rfl)) (fun _ _ _ h => h) (Or.inl ⟨by rfl, ?_⟩) ?_ ?_
  rotate_left
  · intro w'
    go_simp
    with_reducible rfl
  rotate_left
  · simp only [Act.put, List.setIfInBounds_toArray, List.set_cons_zero, List.set_cons_succ, i64_w, i32_w]
    rfl
  refine pure_ (i := 1) (N := some 6) (v := ?_) (a' := ?_) (bm 22 3) rfl rfl (any_of HT_.out (by as_aux_lemma => kernel_rfl)) (fun _ _ _ h => h) (Or.inl ⟨by rfl, ?_⟩) ?_ ?_
  rotate_left
  · intro w'
    go_simp
    with_reducible rfl
  rotate_left
  · simp only [Act.put, List.setIfInBounds_toArray, List.set_cons_zero, List.set_cons_succ, i64_w, i32_w]
    rfl
  refine pure_ (i := 2) (N := some 7) (v := ?_) (a' := ?_) (bm 22 7) rfl rfl (any_of HT_.out (by as_aux_lemma => kernel_rfl)) (fun _ _ _ h => h) (Or.inl ⟨by rfl, ?_⟩) ?_ ?_
  rotate_left
  · intro w'
    go_simp
    with_reducible rfl
  rotate_left
  · simp only [Act.put, List.setIfInBounds_toArray, List.set_cons_zero, List.set_cons_succ, i64_w, i32_w]
    rfl
  refine take_ (i := 3) (N := some 8) (v := ?_) (a' := ?_) (bm 22 15) rfl rfl (take_ofW HT_.out HW_.out (by as_aux_lemma => kernel_rfl)) (fun _ _ _ h => h) (Or.inl ⟨by rfl, ?_⟩) hHeld ?_ ?_
  rotate_left
  · rintro w' ⟨s0, s1, s2, s3, s4⟩
    go_simp
    with_reducible rfl
  rotate_left
  · simp only [Act.put, List.setIfInBounds_toArray, List.set_cons_zero, List.set_cons_succ, i64_w, i32_w]
    rfl
  refine pure_ (i := 4) (N := some 9) (v := ?_) (a' := ?_) (bm 22 31) rfl rfl (any_of HT_.out (by as_aux_lemma => kernel_rfl)) (fun _ _ _ h => h) (Or.inl ⟨by rfl, ?_⟩) ?_ ?_
  rotate_left
  · intro w'
    go_simp
    with_reducible rfl
  rotate_left
  · simp only [Act.put, List.setIfInBounds_toArray, List.set_cons_zero, List.set_cons_succ, i64_w, i32_w]
    rfl
  refine pure_ (i := 5) (N := some 10) (v := ?_) (a' := ?_) (bm 22 63) rfl rfl (any_of HT_.out (by as_aux_lemma => kernel_rfl)) (fun _ _ _ h => h) (Or.inl ⟨by rfl, ?_⟩) ?_ ?_
  rotate_left
  · intro w'
    go_simp
    with_reducible rfl
  rotate_left
  · simp only [Act.put, List.setIfInBounds_toArray, List.set_cons_zero, List.set_cons_succ, i64_w, i32_w]
    rfl
  refine pure_ (i := 6) (N := some 11) (v := ?_) (a' := ?_) (bm 22 127) rfl rfl (any_of HT_.out (by as_aux_lemma => kernel_rfl)) (fun _ _ _ h => h) (Or.inl ⟨by rfl, ?_⟩) ?_ ?_
  rotate_left
  · intro w'
    go_simp
    with_reducible rfl
  rotate_left
  · simp only [Act.put, List.setIfInBounds_toArray, List.set_cons_zero, List.set_cons_succ, i64_w, i32_w]
    rfl
  refine pure_ (i := 7) (N := some 12) (v := ?_) (a' := ?_) (bm 22 255) rfl rfl (any_of HT_.out (by as_aux_lemma => kernel_rfl)) (fun _ _ _ h => h) (Or.inl ⟨by rfl, ?_⟩) ?_ ?_
  rotate_left
  · intro w'
    go_simp
    with_reducible rfl
  rotate_left
  · simp only [Act.put, List.setIfInBounds_toArray, List.set_cons_zero, List.set_cons_succ, i64_w, i32_w]
    rfl
  refine pure_ (i := 8) (N := some 13) (v := ?_) (a' := ?_) (bm 22 511) rfl rfl (any_of HT_.out (by as_aux_lemma => kernel_rfl)) (fun _ _ _ h => h) (Or.inl ⟨by rfl, ?_⟩) ?_ ?_
  rotate_left
  · intro w'
    go_simp
    with_reducible rfl
  rotate_left
  · simp only [Act.put, List.setIfInBounds_toArray, List.set_cons_zero, List.set_cons_succ, i64_w, i32_w]
    rfl
  refine pure_ (i := 9) (N := some 14) (v := ?_) (a' := ?_) (bm 22 1023) rfl rfl (any_of HT_.out (by as_aux_lemma => kernel_rfl)) (fun _ _ _ h => h) (Or.inl ⟨by rfl, ?_⟩) ?_ ?_
  rotate_left
  · intro w'
    go_simp
    with_reducible rfl
  rotate_left
  · simp only [Act.put, List.setIfInBounds_toArray, List.set_cons_zero, List.set_cons_succ, i64_w, i32_w]
    rfl
  refine pure_ (i := 10) (N := some 15) (v := ?_) (a' := ?_) (bm 22 2047) rfl rfl (any_of HT_.out (by as_aux_lemma => kernel_rfl)) (fun _ _ _ h => h) (Or.inl ⟨by rfl, ?_⟩) ?_ ?_
  rotate_left
  · intro w'
    go_simp
    with_reducible rfl
  rotate_left
  · simp only [Act.put, List.setIfInBounds_toArray, List.set_cons_zero, List.set_cons_succ, i64_w, i32_w]
    rfl
  refine pure_ (i := 11) (N := some 16) (v := ?_) (a' := ?_) (bm 22 4095) rfl rfl (any_of HT_.out (by as_aux_lemma => kernel_rfl)) (fun _ _ _ h => h) (Or.inl ⟨by rfl, ?_⟩) ?_ ?_
  rotate_left
  · intro w'
    go_simp
    with_reducible rfl
  rotate_left
  · simp only [Act.put, List.setIfInBounds_toArray, List.set_cons_zero, List.set_cons_succ, i64_w, i32_w]
    rfl
  refine pure_ (i := 12) (N := some 17) (v := ?_) (a' := ?_) (bm 22 8191) rfl rfl (any_of HT_.out (by as_aux_lemma => kernel_rfl)) (fun _ _ _ h => h) (Or.inl ⟨by rfl, ?_⟩) ?_ ?_
  rotate_left
  · intro w'
    go_simp
    with_reducible rfl
  rotate_left
  · simp only [Act.put, List.setIfInBounds_toArray, List.set_cons_zero, List.set_cons_succ, i64_w, i32_w]
    rfl
  refine pure_ (i := 15) (N := some 20) (v := ?_) (a' := ?_) (bm 22 40959) rfl rfl (any_of HT_.out (by as_aux_lemma => kernel_rfl)) (fun _ _ _ h => h) (Or.inl ⟨by rfl, ?_⟩) ?_ ?_
  rotate_left
  · intro w'
    go_simp
    with_reducible rfl
  rotate_left
  · simp only [Act.put, List.setIfInBounds_toArray, List.set_cons_zero, List.set_cons_succ, i64_w, i32_w]
    rfl
  refine pure_ (i := 16) (N := some 21) (v := ?_) (a' := ?_) (bm 22 106495) rfl rfl (any_of HT_.out (by as_aux_lemma => kernel_rfl)) (fun _ _ _ h => h) (Or.inl ⟨by rfl, ?_⟩) ?_ ?_
  rotate_left
  · intro w'
    go_simp
    with_reducible rfl
  rotate_left
  · simp only [Act.put, List.setIfInBounds_toArray, List.set_cons_zero, List.set_cons_succ, i64_w, i32_w]
    rfl
  refine pure_ (i := 17) (N := some 22) (v := ?_) (a' := ?_) (bm 22 237567) rfl rfl (any_of HT_.out (by as_aux_lemma => kernel_rfl)) (fun _ _ _ h => h) (Or.inl ⟨by rfl, ?_⟩) ?_ ?_
  rotate_left
  · intro w'
    go_simp
    with_reducible rfl
  rotate_left
  · simp only [Act.put, List.setIfInBounds_toArray, List.set_cons_zero, List.set_cons_succ, i64_w, i32_w]
    rfl
  refine take_ (i := 13) (N := some 18) (v := ?_) (a' := ?_) (bm 22 245759) rfl rfl (take_ofW HT_.out HW_.out (by as_aux_lemma => kernel_rfl)) (fun _ _ _ h => h) (Or.inl ⟨by rfl, ?_⟩) hHeld ?_ ?_
  rotate_left
  · rintro w' ⟨s0, s1, s2, s3, s4⟩
    go_simp
    with_reducible rfl
  rotate_left
  · simp only [Act.put, List.setIfInBounds_toArray, List.set_cons_zero, List.set_cons_succ, i64_w, i32_w]
    rfl
  refine pure_ (i := 14) (N := some 19) (v := ?_) (a' := ?_) (bm 22 262143) rfl rfl (any_of HT_.out (by as_aux_lemma => kernel_rfl)) (fun _ _ _ h => h) (Or.inl ⟨by rfl, ?_⟩) ?_ ?_
  rotate_left
  · intro w'
    go_simp
    with_reducible rfl
  rotate_left
  · simp only [Act.put, List.setIfInBounds_toArray, List.set_cons_zero, List.set_cons_succ, i64_w, i32_w]
    rfl
  refine take_ (i := 18) (N := some 23) (v := ?_) (a' := ?_) (bm 22 524287) rfl rfl (take_ofW HT_.out HW_.out (by as_aux_lemma => kernel_rfl)) (fun _ _ _ h => h) (Or.inl ⟨by rfl, ?_⟩) hHeld ?_ ?_
  rotate_left
  · rintro w' ⟨s0, s1, s2, s3, s4⟩
    go_simp
    with_reducible rfl
  rotate_left
  · simp only [Act.put, List.setIfInBounds_toArray, List.set_cons_zero, List.set_cons_succ, i64_w, i32_w]
    rfl
  refine pure_ (i := 19) (N := some 24) (v := ?_) (a' := ?_) (bm 22 1048575) rfl rfl (any_of HT_.out (by as_aux_lemma => kernel_rfl)) (fun _ _ _ h => h) (Or.inl ⟨by rfl, ?_⟩) ?_ ?_
  rotate_left
  · intro w'
    go_simp
    with_reducible rfl
  rotate_left
  · simp only [Act.put, List.setIfInBounds_toArray, List.set_cons_zero, List.set_cons_succ, i64_w, i32_w]
    rfl
  refine pure_ (i := 20) (N := some 25) (v := ?_) (a' := ?_) (bm 22 2097151) rfl rfl (any_of HT_.out (by as_aux_lemma => kernel_rfl)) (fun _ _ _ h => h) (Or.inl ⟨by rfl, ?_⟩) ?_ ?_
  rotate_left
  · intro w'
    go_simp
    with_reducible rfl
  rotate_left
  · simp only [Act.put, List.setIfInBounds_toArray, List.set_cons_zero, List.set_cons_succ, i64_w, i32_w]
    rfl
  refine pure_ (i := 21) (N := some 26) (v := ?_) (a' := ?_) (bm 22 4194303) rfl rfl (any_of HT_.out (by as_aux_lemma => kernel_rfl)) (fun _ _ _ h => h) (Or.inl ⟨by rfl, ?_⟩) ?_ ?_
  rotate_left
  · intro w'
    go_simp
    with_reducible rfl
  rotate_left
  · simp only [Act.put, List.setIfInBounds_toArray, List.set_cons_zero, List.set_cons_succ, i64_w, i32_w]
    rfl
  refine done_ (done_of HT_.out (by as_aux_lemma => kernel_rfl)) ?_
  have hb := hHeld.2.2.2.1.out
  have hU := hHeld.2.2.2.2.out
  obtain ⟨⟨q0, q1, q2, q3⟩, p0, p1, p2, p3⟩ := cells4 hb
  clear hHeld
  generalize World.drew w = wd at *
  have HS := Aside0.mk (fun (W : World) (hW : W = (wd.setCell ⟨g, 2, none⟩ (.bool true)).setCell ⟨g, 1, none⟩ (.int .i64 xs.length)) => (by
    subst hW
    exact ⟨h1, Nat.le_refl _, hx, A, c, blk_put (blk_put hb 2 _ rfl) 1 _ rfl, h3, H4.out.on ((hU.trans ((Upd.set _ _ _ _).trans (Upd.set _ _ _ _))).kept.mono (fun k hk => .inr (by omega)))⟩ : RAt hi W g xs xs.length true e))
  have HU := Aside0.mk (hU.trans ((Upd.set wd g 2 (.bool true)).trans (Upd.set _ g 1 (.int .i64 xs.length))))
  clear hb hU
  go_wp2_with (go_at_call 46; refine (FIN.out _ ?hw).mono ?_; (case hw => exact HS.out _ rfl); rintro en w2 ⟨rfl, b1, b2⟩; have N1 := Aside0.mk b1; have N2 := Aside0.mk b2; clear b1 b2)
  go_ret
  exact ⟨rfl, N1.out, HU.out.trans N2.out⟩
theorem bytes_ok (hi g : Nat) (xs : List Int) (n : Nat) (e : Int) (m : Nat) (w : World) (h : RAt hi w g xs n false e) (hm : m ≤ xs.length - n) :
    Calls Try.prog 60 #[.pointer (some ⟨g, 0, none⟩), .int .i64 m] w fun en w' => ∃ A' c', en = .returned (.slice A' ((xs.drop n).take m).length c') ∧ ((xs.drop n).take m).length ≤ c' ∧ Row 0 hi w' A' ((xs.drop n).take m) ∧ RAt hi w' g xs (n + m) false e ∧ Upd g w w' := by
  obtain ⟨h1, hn, hx, A, c, h2, h3, h4⟩ := h
  obtain ⟨⟨k0, k1, k2, k3⟩, f0, f1, f2, f3⟩ := cells4 h2
  have H2 := Aside0.mk h2
  have H4 := Aside0.mk h4
  clear h2 h4
  have hu1 := Try.underlying78
  have c1 : wrap64 ((xs.length : Int) - (n : Int)) = (xs.length : Int) - (n : Int) := wrap64_id (by omega) (by omega)
  have d1 : decide ((m : Int) < 0) = false := decide_eq_false (by omega)
  have d2 : decide ((m : Int) > (xs.length : Int) - (n : Int)) = false := decide_eq_false (by omega)
  have d3 : decide ((xs.length : Int) - (n : Int) < (m : Int)) = false := decide_eq_false (by omega)
  have c2 : wrap64 ((n : Int) + (m : Int)) = (n : Int) + (m : Int) := wrap64_id (by omega) (by omega)
  have c3 : wrap64 ((n : Int) + (m : Int) - (m : Int)) = (n : Int) := by rw [wrap64_id (by omega) (by omega)]; omega
  have c5 : wrap64 (n : Int) = (n : Int) := wrap64_id (by omega) (by omega)
  have c4 : (n : Int) + (m : Int) - (m : Int) = (n : Int) := by omega
  clear c3
  obtain ⟨i, hi1, hi2⟩ := u8_info
  have cut := cut_mid 22 5 .i64 .i64 Try.underlying22 hi1 1 hi2 A xs.length c (n : Int) ((n : Int) + (m : Int)) (by omega) (by omega) (by omega) h3
  have hl : ((xs.drop n).take m).length = m := by rw [List.length_take, List.length_drop]; omega
  have hZt : ((n : Int) + (m : Int)).toNat = n + m := by omega
  have hZm : n + m - n = m := by omega
  rw [hZt, Int.toNat_natCast, hZm] at cut
  obtain ⟨A2, hA2⟩ : ∃ A2, A2 = if c = n then A else A.map fun x => x.add (n * 1) := ⟨_, rfl⟩
  rw [← hA2] at cut
  have HR : ∀ W', Kept w W' (fun k => k < 0 ∨ hi ≤ k) → Kd.C (Kd.int .u8) W' A2 ((xs.drop n).take m).length ((xs.drop n).take m) := fun W' hk => Kd.C_take (by have := Kd.C_drop (H4.out W' hk) hn h3; rw [hA2]; exact this) (by rw [List.length_drop]; omega)
  have HRR := Aside0.mk HR
  have hcn : m ≤ c - n := by omega
  clear HR hA2 hi1 hZm hZt
  rw [hl]
  go_enter Try.func60, Try.ntmps60
  go_wp2
  refine start_ (n := 22) (S := fun w' => w'.cell? ⟨g, 0, none⟩ = some (.slice A xs.length c) ∧ w'.cell? ⟨g, 1, none⟩ = some (.int .i64 n) ∧ w'.cell? ⟨g, 2, none⟩ = some (.bool false) ∧ Aside0 (w'.heap[g]? = some (.cells #[.slice A xs.length c, .int .i64 n, .bool false, .int .i64 e] 78 (0, 0))) ∧ Aside0 (Upd g w w')) (ds := []) (bm 22 0) (by as_aux_lemma => kernel_rfl) rfl (by as_aux_lemma => kernel_rfl) ⟨k0, k1, k2, (Aside0.mk H2.out), (Aside0.mk ⟨rfl, rfl, rfl, (Kept.refl _ _).drew⟩)⟩ (fun hHeld => ?_)
  refine with_tabW rbytes.tab1 rbytes.bits1 (fun HT_ HW_ => ?_)
  refine pure_ (i := 0) (N := some 5) (v := ?_) (a' := ?_) (bm 22 1) rfl rfl (any_of HT_.out (by as_aux_lemma => kernel_rfl)) (fun _ _ _ h => h) (Or.inl ⟨by rfl, ?_⟩) ?_ ?_
  rotate_left
  · intro w'
    go_simp
    with_reducible rfl
  rotate_left
  · simp only [Act.put, List.setIfInBounds_toArray, List.set_cons_zero, List.set_cons_succ, i64_w, i32_w]
    rfl
  refine pure_ (i := 1) (N := some 6) (v := ?_) (a' := ?_) (bm 22 3) rfl rfl (any_of HT_.out (by as_aux_lemma => kernel_rfl)) (fun _ _ _ h => h) (Or.inl ⟨by rfl, ?_⟩) ?_ ?_
  rotate_left
  · intro w'
    go_simp
    with_reducible rfl
  rotate_left
  · simp only [Act.put, List.setIfInBounds_toArray, List.set_cons_zero, List.set_cons_succ, i64_w, i32_w]
    rfl
  refine pure_ (i := 2) (N := some 7) (v := ?_) (a' := ?_) (bm 22 7) rfl rfl (any_of HT_.out (by as_aux_lemma => kernel_rfl)) (fun _ _ _ h => h) (Or.inl ⟨by rfl, ?_⟩) ?_ ?_
  rotate_left
  · intro w'
    go_simp
    with_reducible rfl
  rotate_left
  · simp only [Act.put, List.setIfInBounds_toArray, List.set_cons_zero, List.set_cons_succ, i64_w, i32_w]
    rfl
  refine take_ (i := 3) (N := some 8) (v := ?_) (a' := ?_) (bm 22 15) rfl rfl (take_ofW HT_.out HW_.out (by as_aux_lemma => kernel_rfl)) (fun _ _ _ h => h) (Or.inl ⟨by rfl, ?_⟩) hHeld ?_ ?_
  rotate_left
  · rintro w' ⟨s0, s1, s2, s3, s4⟩
    go_simp
    with_reducible rfl
  rotate_left
  · simp only [Act.put, List.setIfInBounds_toArray, List.set_cons_zero, List.set_cons_succ, i64_w, i32_w]
    rfl
  refine pure_ (i := 4) (N := some 9) (v := ?_) (a' := ?_) (bm 22 31) rfl rfl (any_of HT_.out (by as_aux_lemma => kernel_rfl)) (fun _ _ _ h => h) (Or.inl ⟨by rfl, ?_⟩) ?_ ?_
  rotate_left
  · intro w'
    go_simp
    with_reducible rfl
  rotate_left
  · simp only [Act.put, List.setIfInBounds_toArray, List.set_cons_zero, List.set_cons_succ, i64_w, i32_w]
    rfl
  refine pure_ (i := 5) (N := some 10) (v := ?_) (a' := ?_) (bm 22 63) rfl rfl (any_of HT_.out (by as_aux_lemma => kernel_rfl)) (fun _ _ _ h => h) (Or.inl ⟨by rfl, ?_⟩) ?_ ?_
  rotate_left
  · intro w'
    go_simp
    with_reducible rfl
  rotate_left
  · simp only [Act.put, List.setIfInBounds_toArray, List.set_cons_zero, List.set_cons_succ, i64_w, i32_w]
    rfl
  refine pure_ (i := 6) (N := some 11) (v := ?_) (a' := ?_) (bm 22 127) rfl rfl (any_of HT_.out (by as_aux_lemma => kernel_rfl)) (fun _ _ _ h => h) (Or.inl ⟨by rfl, ?_⟩) ?_ ?_
  rotate_left
  · intro w'
    go_simp
    with_reducible rfl
  rotate_left
  · simp only [Act.put, List.setIfInBounds_toArray, List.set_cons_zero, List.set_cons_succ, i64_w, i32_w]
    rfl
  refine pure_ (i := 7) (N := some 12) (v := ?_) (a' := ?_) (bm 22 255) rfl rfl (any_of HT_.out (by as_aux_lemma => kernel_rfl)) (fun _ _ _ h => h) (Or.inl ⟨by rfl, ?_⟩) ?_ ?_
  rotate_left
  · intro w'
    go_simp
    with_reducible rfl
  rotate_left
  · simp only [Act.put, List.setIfInBounds_toArray, List.set_cons_zero, List.set_cons_succ, i64_w, i32_w]
    rfl
  refine pure_ (i := 8) (N := some 13) (v := ?_) (a' := ?_) (bm 22 511) rfl rfl (any_of HT_.out (by as_aux_lemma => kernel_rfl)) (fun _ _ _ h => h) (Or.inl ⟨by rfl, ?_⟩) ?_ ?_
  rotate_left
  · intro w'
    go_simp
    with_reducible rfl
  rotate_left
  · simp only [Act.put, List.setIfInBounds_toArray, List.set_cons_zero, List.set_cons_succ, i64_w, i32_w]
    rfl
  refine pure_ (i := 9) (N := some 14) (v := ?_) (a' := ?_) (bm 22 1023) rfl rfl (any_of HT_.out (by as_aux_lemma => kernel_rfl)) (fun _ _ _ h => h) (Or.inl ⟨by rfl, ?_⟩) ?_ ?_
  rotate_left
  · intro w'
    go_simp
    with_reducible rfl
  rotate_left
  · simp only [Act.put, List.setIfInBounds_toArray, List.set_cons_zero, List.set_cons_succ, i64_w, i32_w]
    rfl
  refine pure_ (i := 10) (N := some 15) (v := ?_) (a' := ?_) (bm 22 2047) rfl rfl (any_of HT_.out (by as_aux_lemma => kernel_rfl)) (fun _ _ _ h => h) (Or.inl ⟨by rfl, ?_⟩) ?_ ?_
  rotate_left
  · intro w'
    go_simp
    with_reducible rfl
  rotate_left
  · simp only [Act.put, List.setIfInBounds_toArray, List.set_cons_zero, List.set_cons_succ, i64_w, i32_w]
    rfl
  refine pure_ (i := 11) (N := some 16) (v := ?_) (a' := ?_) (bm 22 4095) rfl rfl (any_of HT_.out (by as_aux_lemma => kernel_rfl)) (fun _ _ _ h => h) (Or.inl ⟨by rfl, ?_⟩) ?_ ?_
  rotate_left
  · intro w'
    go_simp
    with_reducible rfl
  rotate_left
  · simp only [Act.put, List.setIfInBounds_toArray, List.set_cons_zero, List.set_cons_succ, i64_w, i32_w]
    rfl
  refine pure_ (i := 12) (N := some 17) (v := ?_) (a' := ?_) (bm 22 8191) rfl rfl (any_of HT_.out (by as_aux_lemma => kernel_rfl)) (fun _ _ _ h => h) (Or.inl ⟨by rfl, ?_⟩) ?_ ?_
  rotate_left
  · intro w'
    go_simp
    with_reducible rfl
  rotate_left
  · simp only [Act.put, List.setIfInBounds_toArray, List.set_cons_zero, List.set_cons_succ, i64_w, i32_w]
    rfl
  refine pure_ (i := 15) (N := some 20) (v := ?_) (a' := ?_) (bm 22 40959) rfl rfl (any_of HT_.out (by as_aux_lemma => kernel_rfl)) (fun _ _ _ h => h) (Or.inl ⟨by rfl, ?_⟩) ?_ ?_
  rotate_left
  · intro w'
    go_simp
    with_reducible rfl
  rotate_left
  · simp only [Act.put, List.setIfInBounds_toArray, List.set_cons_zero, List.set_cons_succ, i64_w, i32_w]
    rfl
  refine pure_ (i := 16) (N := some 21) (v := ?_) (a' := ?_) (bm 22 106495) rfl rfl (any_of HT_.out (by as_aux_lemma => kernel_rfl)) (fun _ _ _ h => h) (Or.inl ⟨by rfl, ?_⟩) ?_ ?_
  rotate_left
  · intro w'
    go_simp
    with_reducible rfl
  rotate_left
  · simp only [Act.put, List.setIfInBounds_toArray, List.set_cons_zero, List.set_cons_succ, i64_w, i32_w]
    rfl
  refine pure_ (i := 17) (N := some 22) (v := ?_) (a' := ?_) (bm 22 237567) rfl rfl (any_of HT_.out (by as_aux_lemma => kernel_rfl)) (fun _ _ _ h => h) (Or.inl ⟨by rfl, ?_⟩) ?_ ?_
  rotate_left
  · intro w'
    go_simp
    with_reducible rfl
  rotate_left
  · simp only [Act.put, List.setIfInBounds_toArray, List.set_cons_zero, List.set_cons_succ, i64_w, i32_w]
    rfl
  refine take_ (i := 13) (N := some 18) (v := ?_) (a' := ?_) (bm 22 245759) rfl rfl (take_ofW HT_.out HW_.out (by as_aux_lemma => kernel_rfl)) (fun _ _ _ h => h) (Or.inl ⟨by rfl, ?_⟩) hHeld ?_ ?_
  rotate_left
  · rintro w' ⟨s0, s1, s2, s3, s4⟩
    go_simp
    with_reducible rfl
  rotate_left
  · simp only [Act.put, List.setIfInBounds_toArray, List.set_cons_zero, List.set_cons_succ, i64_w, i32_w]
    rfl
  refine pure_ (i := 14) (N := some 19) (v := ?_) (a' := ?_) (bm 22 262143) rfl rfl (any_of HT_.out (by as_aux_lemma => kernel_rfl)) (fun _ _ _ h => h) (Or.inl ⟨by rfl, ?_⟩) ?_ ?_
  rotate_left
  · intro w'
    go_simp
    with_reducible rfl
  rotate_left
  · simp only [Act.put, List.setIfInBounds_toArray, List.set_cons_zero, List.set_cons_succ, i64_w, i32_w]
    rfl
  refine take_ (i := 18) (N := some 23) (v := ?_) (a' := ?_) (bm 22 524287) rfl rfl (take_ofW HT_.out HW_.out (by as_aux_lemma => kernel_rfl)) (fun _ _ _ h => h) (Or.inl ⟨by rfl, ?_⟩) hHeld ?_ ?_
  rotate_left
  · rintro w' ⟨s0, s1, s2, s3, s4⟩
    go_simp
    with_reducible rfl
  rotate_left
  · simp only [Act.put, List.setIfInBounds_toArray, List.set_cons_zero, List.set_cons_succ, i64_w, i32_w]
    rfl
  refine pure_ (i := 19) (N := some 24) (v := ?_) (a' := ?_) (bm 22 1048575) rfl rfl (any_of HT_.out (by as_aux_lemma => kernel_rfl)) (fun _ _ _ h => h) (Or.inl ⟨by rfl, ?_⟩) ?_ ?_
  rotate_left
  · intro w'
    go_simp
    with_reducible rfl
  rotate_left
  · simp only [Act.put, List.setIfInBounds_toArray, List.set_cons_zero, List.set_cons_succ, i64_w, i32_w]
    rfl
  refine pure_ (i := 20) (N := some 25) (v := ?_) (a' := ?_) (bm 22 2097151) rfl rfl (any_of HT_.out (by as_aux_lemma => kernel_rfl)) (fun _ _ _ h => h) (Or.inl ⟨by rfl, ?_⟩) ?_ ?_
  rotate_left
  · intro w'
    go_simp
    with_reducible rfl
  rotate_left
  · simp only [Act.put, List.setIfInBounds_toArray, List.set_cons_zero, List.set_cons_succ, i64_w, i32_w]
    rfl
  refine pure_ (i := 21) (N := some 26) (v := ?_) (a' := ?_) (bm 22 4194303) rfl rfl (any_of HT_.out (by as_aux_lemma => kernel_rfl)) (fun _ _ _ h => h) (Or.inl ⟨by rfl, ?_⟩) ?_ ?_
  rotate_left
  · intro w'
    go_simp
    with_reducible rfl
  rotate_left
  · simp only [Act.put, List.setIfInBounds_toArray, List.set_cons_zero, List.set_cons_succ, i64_w, i32_w]
    rfl
  refine done_ (done_of HT_.out (by as_aux_lemma => kernel_rfl)) ?_
  have hb := hHeld.2.2.2.1.out
  have hU := hHeld.2.2.2.2.out
  obtain ⟨⟨q0, q1, q2, q3⟩, p0, p1, p2, p3⟩ := cells4 hb
  clear hHeld
  clear hb hU
  go_wp2
  have hb2 : (w.setCell ⟨g, 1, none⟩ (.int .i64 ((n : Int) + (m : Int)))).heap[g]? = some (.cells #[.slice A xs.length c, .int .i64 ((n : Int) + (m : Int)), .bool false, .int .i64 e] 78 (0, 0)) := blk_put H2.out 1 _ rfl
  have hU2 := Upd.set w g 1 (.int .i64 ((n : Int) + (m : Int)))
  obtain ⟨⟨r0, r1, r2, r3⟩, _⟩ := cells4 hb2
  refine start_ (n := 16) (S := fun w' => w'.cell? ⟨g, 0, none⟩ = some (.slice A xs.length c) ∧ w'.cell? ⟨g, 1, none⟩ = some (.int .i64 ((n : Int) + (m : Int))) ∧ w'.cell? ⟨g, 2, none⟩ = some (.bool false) ∧ Aside0 (w'.heap[g]? = some (.cells #[.slice A xs.length c, .int .i64 ((n : Int) + (m : Int)), .bool false, .int .i64 e] 78 (0, 0))) ∧ Aside0 (Upd g w w')) (ds := []) (bm 16 0) (by as_aux_lemma => kernel_rfl) rfl (by as_aux_lemma => kernel_rfl) ⟨r0, r1, r2, (Aside0.mk hb2), (Aside0.mk ⟨hU2.os, hU2.tape, hU2.output, hU2.kept⟩)⟩ (fun hHeld => ?_)
  refine with_tabW rbytes.tab7 rbytes.bits7 (fun HT_ HW_ => ?_)
  refine pure_ (i := 0) (N := some 49) (v := ?_) (a' := ?_) (bm 16 1) rfl rfl (any_of HT_.out (by as_aux_lemma => kernel_rfl)) (fun _ _ _ h => h) (Or.inl ⟨by rfl, ?_⟩) ?_ ?_
  rotate_left
  · intro w'
    go_simp
    with_reducible rfl
  rotate_left
  · simp only [Act.put, List.setIfInBounds_toArray, List.set_cons_zero, List.set_cons_succ, i64_w, i32_w]
    rfl
  refine pure_ (i := 1) (N := some 50) (v := ?_) (a' := ?_) (bm 16 3) rfl rfl (any_of HT_.out (by as_aux_lemma => kernel_rfl)) (fun _ _ _ h => h) (Or.inl ⟨by rfl, ?_⟩) ?_ ?_
  rotate_left
  · intro w'
    go_simp
    with_reducible rfl
  rotate_left
  · simp only [Act.put, List.setIfInBounds_toArray, List.set_cons_zero, List.set_cons_succ, i64_w, i32_w]
    rfl
  refine pure_ (i := 2) (N := some 51) (v := ?_) (a' := ?_) (bm 16 7) rfl rfl (any_of HT_.out (by as_aux_lemma => kernel_rfl)) (fun _ _ _ h => h) (Or.inl ⟨by rfl, ?_⟩) ?_ ?_
  rotate_left
  · intro w'
    go_simp
    with_reducible rfl
  rotate_left
  · simp only [Act.put, List.setIfInBounds_toArray, List.set_cons_zero, List.set_cons_succ, i64_w, i32_w]
    rfl
  refine pure_ (i := 4) (N := some 53) (v := ?_) (a' := ?_) (bm 16 23) rfl rfl (any_of HT_.out (by as_aux_lemma => kernel_rfl)) (fun _ _ _ h => h) (Or.inl ⟨by rfl, ?_⟩) ?_ ?_
  rotate_left
  · intro w'
    go_simp
    with_reducible rfl
  rotate_left
  · simp only [Act.put, List.setIfInBounds_toArray, List.set_cons_zero, List.set_cons_succ, i64_w, i32_w]
    rfl
  refine pure_ (i := 5) (N := some 54) (v := ?_) (a' := ?_) (bm 16 55) rfl rfl (any_of HT_.out (by as_aux_lemma => kernel_rfl)) (fun _ _ _ h => h) (Or.inl ⟨by rfl, ?_⟩) ?_ ?_
  rotate_left
  · intro w'
    go_simp
    with_reducible rfl
  rotate_left
  · simp only [Act.put, List.setIfInBounds_toArray, List.set_cons_zero, List.set_cons_succ, i64_w, i32_w]
    rfl
  refine pure_ (i := 6) (N := some 55) (v := ?_) (a' := ?_) (bm 16 119) rfl rfl (any_of HT_.out (by as_aux_lemma => kernel_rfl)) (fun _ _ _ h => h) (Or.inl ⟨by rfl, ?_⟩) ?_ ?_
  rotate_left
  · intro w'
    go_simp
    with_reducible rfl
  rotate_left
  · simp only [Act.put, List.setIfInBounds_toArray, List.set_cons_zero, List.set_cons_succ, i64_w, i32_w]
    rfl
  refine pure_ (i := 8) (N := some 57) (v := ?_) (a' := ?_) (bm 16 375) rfl rfl (any_of HT_.out (by as_aux_lemma => kernel_rfl)) (fun _ _ _ h => h) (Or.inl ⟨by rfl, ?_⟩) ?_ ?_
  rotate_left
  · intro w'
    go_simp
    with_reducible rfl
  rotate_left
  · simp only [Act.put, List.setIfInBounds_toArray, List.set_cons_zero, List.set_cons_succ, i64_w, i32_w]
    rfl
  refine pure_ (i := 10) (N := some 59) (v := ?_) (a' := ?_) (bm 16 1399) rfl rfl (any_of HT_.out (by as_aux_lemma => kernel_rfl)) (fun _ _ _ h => h) (Or.inl ⟨by rfl, ?_⟩) ?_ ?_
  rotate_left
  · intro w'
    go_simp
    with_reducible rfl
  rotate_left
  · simp only [Act.put, List.setIfInBounds_toArray, List.set_cons_zero, List.set_cons_succ, i64_w, i32_w]
    rfl
  refine pure_ (i := 11) (N := some 60) (v := ?_) (a' := ?_) (bm 16 3447) rfl rfl (any_of HT_.out (by as_aux_lemma => kernel_rfl)) (fun _ _ _ h => h) (Or.inl ⟨by rfl, ?_⟩) ?_ ?_
  rotate_left
  · intro w'
    go_simp
    with_reducible rfl
  rotate_left
  · simp only [Act.put, List.setIfInBounds_toArray, List.set_cons_zero, List.set_cons_succ, i64_w, i32_w]
    rfl
  refine pure_ (i := 12) (N := some 61) (v := ?_) (a' := ?_) (bm 16 7543) rfl rfl (any_of HT_.out (by as_aux_lemma => kernel_rfl)) (fun _ _ _ h => h) (Or.inl ⟨by rfl, ?_⟩) ?_ ?_
  rotate_left
  · intro w'
    go_simp
    with_reducible rfl
  rotate_left
  · simp only [Act.put, List.setIfInBounds_toArray, List.set_cons_zero, List.set_cons_succ, i64_w, i32_w]
    rfl
  refine take_ (i := 3) (N := some 52) (v := ?_) (a' := ?_) (bm 16 7551) rfl rfl (take_ofW HT_.out HW_.out (by as_aux_lemma => kernel_rfl)) (fun _ _ _ h => h) (Or.inl ⟨by rfl, ?_⟩) hHeld ?_ ?_
  rotate_left
  · rintro w' ⟨s0, s1, s2, s3, s4⟩
    go_simp
    with_reducible rfl
  rotate_left
  · simp only [Act.put, List.setIfInBounds_toArray, List.set_cons_zero, List.set_cons_succ, i64_w, i32_w]
    rfl
  refine take_ (i := 7) (N := some 56) (v := ?_) (a' := ?_) (bm 16 7679) rfl rfl (take_ofW HT_.out HW_.out (by as_aux_lemma => kernel_rfl)) (fun _ _ _ h => h) (Or.inl ⟨by rfl, ?_⟩) hHeld ?_ ?_
  rotate_left
  · rintro w' ⟨s0, s1, s2, s3, s4⟩
    go_simp
    with_reducible rfl
  rotate_left
  · simp only [Act.put, List.setIfInBounds_toArray, List.set_cons_zero, List.set_cons_succ, i64_w, i32_w]
    rfl
  refine pure_ (i := 9) (N := some 58) (v := ?_) (a' := ?_) (bm 16 8191) rfl rfl (any_of HT_.out (by as_aux_lemma => kernel_rfl)) (fun _ _ _ h => h) (Or.inl ⟨by rfl, ?_⟩) ?_ ?_
  rotate_left
  · intro w'
    go_simp
    with_reducible rfl
  rotate_left
  · simp only [Act.put, List.setIfInBounds_toArray, List.set_cons_zero, List.set_cons_succ, i64_w, i32_w]
    rfl
  refine take_ (i := 13) (N := some 62) (v := ?_) (a' := ?_) (bm 16 16383) rfl rfl (take_ofW HT_.out HW_.out (by as_aux_lemma => kernel_rfl)) (fun _ _ _ h => h) (Or.inl ⟨by rfl, ?_⟩) hHeld ?_ ?_
  rotate_left
  · rintro w' ⟨s0, s1, s2, s3, s4⟩
    go_simp
    with_reducible rfl
  rotate_left
  · simp only [Act.put, List.setIfInBounds_toArray, List.set_cons_zero, List.set_cons_succ, i64_w, i32_w]
    rfl
  refine pure_ (i := 14) (N := some 63) (v := ?_) (a' := ?_) (bm 16 32767) rfl rfl (any_of HT_.out (by as_aux_lemma => kernel_rfl)) (fun _ _ _ h => h) (Or.inl ⟨by rfl, ?_⟩) ?_ ?_
  rotate_left
  · intro w'
    go_simp
    with_reducible rfl
  rotate_left
  · simp only [Act.put, List.setIfInBounds_toArray, List.set_cons_zero, List.set_cons_succ, i64_w, i32_w]
    rfl
  refine pure_ (i := 15) (N := some 4) (v := ?_) (a' := ?_) (bm 16 65535) rfl rfl (any_of HT_.out (by as_aux_lemma => kernel_rfl)) (fun _ _ _ h => h) (Or.inl ⟨by rfl, ?_⟩) ?_ ?_
  rotate_left
  · intro w'
    go_simp
    with_reducible rfl
  rotate_left
  · simp only [Act.put, List.setIfInBounds_toArray, List.set_cons_zero, List.set_cons_succ, i64_w, i32_w]
    rfl
  refine done_ (done_of HT_.out (by as_aux_lemma => kernel_rfl)) ?_
  go_wp2
  go_ret
  have hK := hHeld.2.2.2.2.out
  refine ⟨A2, c - n, rfl, hcn, fun W' hk => HRR.out W' ((hK.kept.mono (fun k hk => .inr (by omega))).then_ hk (fun _ h2 => .inl h2)), ⟨h1, by omega, hx, A, c, ?_, h3, H4.out.on (hK.kept.mono (fun k hk => .inr (by omega)))⟩, hK⟩
  rw [Int.natCast_add]
  exact hHeld.2.2.2.1.out
end Go.Proofs.Ytdjeekpgcjcffaa.RCur
end
section
namespace Go.Proofs.Ytdjeekpgcjcffaa.RCur
open Go.RowKit Go.Proofs.Ytdjeekpgcjcffaa.P Go.Proofs.Ytdjeekpgcjcffaa.E Go.Proofs.Ytdjeekpgcjcffaa.Cur Go.Proofs.YtdjeekpgcjcffaaW.PrintWords Go.Proofs.YtdjeekpgcjcffaaW.PrintLast Go.Proofs.YtdjeekpgcjcffaaW.PrintMore
theorem reftake_any (A : Option Addr) (c : Nat) (l : List Int) (w : World) (hr : Kd.C (Kd.int .u8) w A l.length l) (hc : l.length ≤ c) (hb : isBytes l) (hl : l.length ≤ 1000000) :
    Calls Try.prog 61 #[.slice A l.length c] w fun e w' => ∃ A' c', e = .returned (.slice A' (Take.words l).length c') ∧ (Take.words l).length ≤ c' ∧ Row16 w.heap.size w'.heap.size w' A' (Take.words l) ∧ Below w.heap.size w w' := by
  obtain ⟨k, hk⟩ := (Take.reftake_ev l hb hl).rounds
  refine (busbarref04_Take.calls k A c l _ w hr hc hk).mono ?_
  rintro e w' ⟨v, rfl, R, B⟩
  obtain ⟨A2, c2, rfl, h2, h3⟩ := Kd.R_reads R
  obtain ⟨_, h5, h6⟩ := row16_of_R R
  exact ⟨A2, c2, rfl, h5, h6, B⟩
theorem reftake_nil (w : World) : Calls Try.prog 61 #[.slice none 0 0] w fun e w' => ∃ A' c', e = .returned (.slice A' 0 c') ∧ Below w.heap.size w w' := by
  refine (reftake_any none 0 [] w (Kd.C_nil _ w) (Nat.le_refl _) (fun x hx => by cases hx) (by simp)).mono ?_
  rintro e w' ⟨A', c', rfl, _, _, h⟩
  exact ⟨A', c', rfl, h⟩
theorem bytes_short (hi g : Nat) (xs : List Int) (n : Nat) (s : Bool) (e m : Int) (w : World) (h : RAt hi w g xs n s e) (hm : s = true ∨ m < 0 ∨ (xs.length : Int) - n < m) :
    Calls Try.prog 60 #[.pointer (some ⟨g, 0, none⟩), .int .i64 m] w fun en w' => en = .returned (.slice none 0 0) ∧ RAt hi w' g xs xs.length true (fstE e 2) ∧ Upd g w w' := by
  cases s with
  | true => exact bytes_s hi g xs n e m w h
  | false =>
    by_cases c1 : m < 0
    · exact bytes_neg hi g xs n e m w h c1
    · exact bytes_over hi g xs n e m w h c1 (by rcases hm with h | h | h; cases h; exact absurd h c1; exact h)
theorem byte_ok (hi g : Nat) (xs : List Int) (n : Nat) (e : Int) (w : World) (h : RAt hi w g xs n false e) (hn : n < xs.length) :
    Calls Try.prog 45 #[.pointer (some ⟨g, 0, none⟩)] w fun en w' => en = .returned (.int .u8 (xs.getD n 0)) ∧ RAt hi w' g xs (n + 1) false e ∧ Upd g w w' := by
  have hL : (xs.drop n).take 1 = [xs.getD n 0] := by rw [drop_cons hn 0]; rfl
  have hB := bytes_ok hi g xs n e 1 w h (by omega)
  rw [hL] at hB
  have HB := Aside0.mk hB
  clear h hB hL
  generalize xs.getD n 0 = x at HB ⊢
  go_enter Try.func45, Try.ntmps45
  go_wp2_with (go_at_call 60; refine HB.out.mono ?_; rintro en w1 ⟨A', c', rfl, b1, b2, b3, b4⟩; obtain ⟨ad, rfl, q0⟩ := at_row b2 0 (by simp); rw [Addr.add_zero'] at q0; have q1 : w1.cell? ad = some (.int .u8 x) := q0; have N3 := Aside0.mk b3; have N4 := Aside0.mk b4; clear b1 b2 b3 b4 HB q0)
  go_ret
  exact ⟨rfl, N3.out, N4.out⟩
theorem byte_short (hi g : Nat) (xs : List Int) (n : Nat) (s : Bool) (e : Int) (w : World) (h : RAt hi w g xs n s e) (hs : s = true ∨ xs.length ≤ n) :
    Calls Try.prog 45 #[.pointer (some ⟨g, 0, none⟩)] w fun en w' => en = .returned (.int .u8 0) ∧ RAt hi w' g xs xs.length true (fstE e 2) ∧ Upd g w w' := by
  have HB := Aside0.mk (bytes_short hi g xs n s e 1 w h (by rcases hs with h | h; exact .inl h; exact .inr (.inr (by omega))))
  clear h
  go_enter Try.func45, Try.ntmps45
  go_wp2_with (go_at_call 60; refine HB.out.mono ?_; rintro en w1 ⟨rfl, b3, b4⟩; have N3 := Aside0.mk b3; have N4 := Aside0.mk b4; clear b3 b4 HB)
  go_ret
  exact ⟨rfl, N3.out, N4.out⟩
theorem words_neg (hi g : Nat) (xs : List Int) (n : Nat) (s : Bool) (e m : Int) (w : World) (h : RAt hi w g xs n s e) (hm : m < 0) :
    Calls Try.prog 47 #[.pointer (some ⟨g, 0, none⟩), .int .i64 m] w fun en w' => ∃ A' c', en = .returned (.slice A' 0 c') ∧ RAt hi w' g xs xs.length true (fstE e 2) ∧ Upd g w w' := by
  have HA := Aside0.mk h
  obtain ⟨h1, hn, hx, A, c, h2, h3, h4⟩ := h
  obtain ⟨⟨k0, k1, k2, k3⟩, f0, f1, f2, f3⟩ := cells4 h2
  clear h2 h4
  have hu1 := Try.underlying78
  have d1 : decide (m < 0) = true := decide_eq_true hm
  go_enter Try.func47, Try.ntmps47
  go_wp2_with (first | (go_at_call 60; refine (bytes_short hi g xs n s e _ _ HA.out (.inr (.inl (by decide)))).mono ?_; rintro en w1 ⟨rfl, b3, b4⟩; have N3 := Aside0.mk b3; have N4 := Aside0.mk b4; clear b3 b4) | (go_at_call 61; refine (reftake_nil _).mono ?_; rintro en w2 ⟨A2, c2_, rfl, d3⟩; have D3 := Aside0.mk d3; clear d3))
  go_ret
  have hN : RAt hi w2 g xs xs.length true (fstE e 2) := N3.out.below D3.out
  exact ⟨A2, c2_, rfl, hN, N4.out.trans (Upd.of_below D3.out)⟩
theorem words_over (hi g : Nat) (xs : List Int) (n : Nat) (s : Bool) (e m : Int) (w : World) (h : RAt hi w g xs n s e) (hm : ¬ m < 0) (ho : (xs.length : Int) < m) :
    Calls Try.prog 47 #[.pointer (some ⟨g, 0, none⟩), .int .i64 m] w fun en w' => ∃ A' c', en = .returned (.slice A' 0 c') ∧ RAt hi w' g xs xs.length true (fstE e 2) ∧ Upd g w w' := by
  have HA := Aside0.mk h
  obtain ⟨h1, hn, hx, A, c, h2, h3, h4⟩ := h
  obtain ⟨⟨k0, k1, k2, k3⟩, f0, f1, f2, f3⟩ := cells4 h2
  clear h2 h4
  have hu1 := Try.underlying78
  have d1 : decide (m < 0) = false := decide_eq_false hm
  have d2 : decide (m > (xs.length : Int)) = true := decide_eq_true ho
  have d3 : decide ((xs.length : Int) < m) = true := decide_eq_true ho
  go_enter Try.func47, Try.ntmps47
  go_wp2_with (first | (go_at_call 60; refine (bytes_short hi g xs n s e _ _ HA.out (.inr (.inl (by decide)))).mono ?_; rintro en w1 ⟨rfl, b3, b4⟩; have N3 := Aside0.mk b3; have N4 := Aside0.mk b4; clear b3 b4) | (go_at_call 61; refine (reftake_nil _).mono ?_; rintro en w2 ⟨A2, c2_, rfl, d3⟩; have D3 := Aside0.mk d3; clear d3))
  go_ret
  have hN : RAt hi w2 g xs xs.length true (fstE e 2) := N3.out.below D3.out
  exact ⟨A2, c2_, rfl, hN, N4.out.trans (Upd.of_below D3.out)⟩
theorem words_few (hi g : Nat) (xs : List Int) (n : Nat) (s : Bool) (e m : Int) (w : World) (h : RAt hi w g xs n s e) (hm : ¬ m < 0) (ho : ¬ (xs.length : Int) < m) (hs : s = true ∨ (xs.length : Int) - n < m + m) :
    Calls Try.prog 47 #[.pointer (some ⟨g, 0, none⟩), .int .i64 m] w fun en w' => ∃ A' c', en = .returned (.slice A' 0 c') ∧ RAt hi w' g xs xs.length true (fstE e 2) ∧ Upd g w w' := by
  have HA := Aside0.mk h
  obtain ⟨h1, hn, hx, A, c, h2, h3, h4⟩ := h
  obtain ⟨⟨k0, k1, k2, k3⟩, f0, f1, f2, f3⟩ := cells4 h2
  clear h2 h4
  have hu1 := Try.underlying78
  have d1 : decide (m < 0) = false := decide_eq_false hm
  have d2 : decide (m > (xs.length : Int)) = false := decide_eq_false ho
  have d3 : decide ((xs.length : Int) < m) = false := decide_eq_false ho
  have d4 : wrap64 (m + m) = m + m := wrap64_id (by omega) (by omega)
  have HS := Aside0.mk hs
  clear hs
  go_enter Try.func47, Try.ntmps47
  go_wp2_with (first | (go_at_call 60; refine (bytes_short hi g xs n s e _ _ HA.out (HS.out.elim .inl (fun h => .inr (.inr h)))).mono ?_; rintro en w1 ⟨rfl, b3, b4⟩; have N3 := Aside0.mk b3; have N4 := Aside0.mk b4; clear b3 b4) | (go_at_call 61; refine (reftake_nil _).mono ?_; rintro en w2 ⟨A2, c2_, rfl, d3⟩; have D3 := Aside0.mk d3; clear d3))
  go_ret
  have hN : RAt hi w2 g xs xs.length true (fstE e 2) := N3.out.below D3.out
  exact ⟨A2, c2_, rfl, hN, N4.out.trans (Upd.of_below D3.out)⟩
theorem words_short (hi g : Nat) (xs : List Int) (n : Nat) (s : Bool) (e m : Int) (w : World) (h : RAt hi w g xs n s e) (hm : s = true ∨ m < 0 ∨ (xs.length : Int) - n < 2 * m) :
    Calls Try.prog 47 #[.pointer (some ⟨g, 0, none⟩), .int .i64 m] w fun en w' => ∃ A' c', en = .returned (.slice A' 0 c') ∧ RAt hi w' g xs xs.length true (fstE e 2) ∧ Upd g w w' := by
  by_cases c1 : m < 0
  · exact words_neg hi g xs n s e m w h c1
  by_cases c2 : (xs.length : Int) < m
  · exact words_over hi g xs n s e m w h c1 c2
  · exact words_few hi g xs n s e m w h c1 c2 (by rcases hm with h | h | h; exact .inl h; exact absurd h c1; exact .inr (by omega))
theorem words_ok (hi g : Nat) (xs : List Int) (n : Nat) (e : Int) (m : Nat) (w : World) (h : RAt hi w g xs n false e) (hm : 2 * m ≤ xs.length - n) (hb : isBytes xs) :
    Calls Try.prog 47 #[.pointer (some ⟨g, 0, none⟩), .int .i64 m] w fun en w' => ∃ A' c', en = .returned (.slice A' (Take.words ((xs.drop n).take (2 * m))).length c') ∧ (Take.words ((xs.drop n).take (2 * m))).length ≤ c' ∧ Row16 w.heap.size w'.heap.size w' A' (Take.words ((xs.drop n).take (2 * m))) ∧ RAt hi w' g xs (n + 2 * m) false e ∧ Upd g w w' := by
  have hlen : ((xs.drop n).take (2 * m)).length ≤ 1000000 := by have := h.2.2.1; rw [List.length_take, List.length_drop]; omega
  have hbb : isBytes ((xs.drop n).take (2 * m)) := isBytes_take (isBytes_drop hb n) _
  have hB := bytes_ok hi g xs n e (2 * m) w h hm
  rw [show ((2 * m : Nat) : Int) = (m : Int) + (m : Int) by omega] at hB
  have HB := Aside0.mk hB
  have hT := fun (W : World) (A : Option Addr) (c : Nat) (hr : Kd.C (Kd.int .u8) W A ((xs.drop n).take (2 * m)).length ((xs.drop n).take (2 * m))) (hc : ((xs.drop n).take (2 * m)).length ≤ c) => reftake_any A c ((xs.drop n).take (2 * m)) W hr hc hbb hlen
  have HT := Aside0.mk hT
  clear hB hT hlen hbb
  have HA := Aside0.mk h
  obtain ⟨h1, hn, hx, A, c, h2, h3, h4⟩ := h
  obtain ⟨⟨k0, k1, k2, k3⟩, f0, f1, f2, f3⟩ := cells4 h2
  clear h2 h4
  have hu1 := Try.underlying78
  have d1 : decide ((m : Int) < 0) = false := decide_eq_false (by omega)
  have d2 : decide ((m : Int) > (xs.length : Int)) = false := decide_eq_false (by omega)
  have d3 : decide ((xs.length : Int) < (m : Int)) = false := decide_eq_false (by omega)
  have d4 : wrap64 ((m : Int) + (m : Int)) = (m : Int) + (m : Int) := wrap64_id (by omega) (by omega)
  have d5 : ¬ xs.length < m := by omega
  have d6 : decide (xs.length < m) = false := decide_eq_false d5
  clear hm
  generalize hws : Take.words ((xs.drop n).take (2 * m)) = ws at HT ⊢
  clear hws
  generalize (xs.drop n).take (2 * m) = bs at HT HB
  go_enter Try.func47, Try.ntmps47
  go_wp2_with (first | (go_at_call 60; refine HB.out.mono ?_; rintro en w1 ⟨A1, c1_, rfl, b1, b2, b3, b4⟩; have N1 := Aside0.mk b1; have N2 := Aside0.mk b2; have N3 := Aside0.mk b3; have N4 := Aside0.mk b4; clear b1 b2 b3 b4 HB) | (go_at_call 61; refine (HT.out w1 A1 c1_ N2.out.now N1.out).mono ?_; rintro en w2 ⟨A2, c2_, rfl, g1, g2, g3⟩; have D1 := Aside0.mk g1; have D2 := Aside0.mk g2; have D3 := Aside0.mk g3; clear g1 g2 g3))
  go_ret
  exact ⟨A2, c2_, rfl, D1.out, D2.out.wide N4.out.kept.1 (Nat.le_refl _), N3.out.below D3.out, N4.out.trans (Upd.of_below D3.out)⟩
theorem word_ok (hi g : Nat) (xs : List Int) (n : Nat) (e : Int) (w : World) (h : RAt hi w g xs n false e) (hn : n + 2 ≤ xs.length) (hb : isBytes xs) :
    Calls Try.prog 62 #[.pointer (some ⟨g, 0, none⟩)] w fun en w' => en = .returned (.int .u16 (xs.getD n 0 * 256 + xs.getD (n + 1) 0)) ∧ RAt hi w' g xs (n + 2) false e ∧ Upd g w w' := by
  have hL : Take.words ((xs.drop n).take (2 * 1)) = [xs.getD n 0 * 256 + xs.getD (n + 1) 0] := by rw [drop_cons (show n < xs.length by omega) 0, drop_cons (show n + 1 < xs.length by omega) 0]; exact words_two _ _ _
  have hB := words_ok hi g xs n e 1 w h (by omega) hb
  rw [hL] at hB
  have HB := Aside0.mk hB
  clear h hB hL
  generalize xs.getD n 0 * 256 + xs.getD (n + 1) 0 = x at HB ⊢
  go_enter Try.func62, Try.ntmps62
  go_wp2_with (go_at_call 47; refine HB.out.mono ?_; rintro en w1 ⟨A', c', rfl, b1, b2, b3, b4⟩; obtain ⟨ad, rfl, q0⟩ := at_row16 b2 0 (by simp); rw [Addr.add_zero'] at q0; have q1 : w1.cell? ad = some (.int .u16 x) := q0; have N3 := Aside0.mk b3; have N4 := Aside0.mk b4; clear b1 b2 b3 b4 HB q0)
  go_ret
  exact ⟨rfl, N3.out, N4.out⟩
theorem word_short (hi g : Nat) (xs : List Int) (n : Nat) (s : Bool) (e : Int) (w : World) (h : RAt hi w g xs n s e) (hs : s = true ∨ xs.length < n + 2) :
    Calls Try.prog 62 #[.pointer (some ⟨g, 0, none⟩)] w fun en w' => en = .returned (.int .u16 0) ∧ RAt hi w' g xs xs.length true (fstE e 2) ∧ Upd g w w' := by
  have HB := Aside0.mk (words_short hi g xs n s e 1 w h (by rcases hs with h | h; exact .inl h; exact .inr (.inr (by omega))))
  clear h
  go_enter Try.func62, Try.ntmps62
  go_wp2_with (go_at_call 47; refine HB.out.mono ?_; rintro en w1 ⟨A1, c1, rfl, b3, b4⟩; have N3 := Aside0.mk b3; have N4 := Aside0.mk b4; clear b3 b4 HB)
  go_ret
  exact ⟨rfl, N3.out, N4.out⟩
end Go.Proofs.Ytdjeekpgcjcffaa.RCur
end
section
namespace Go.Proofs.Ytdjeekpgcjcffaa.Cu
open Go.RowKit Go.Proofs.Ytdjeekpgcjcffaa.E Go.Proofs.Ytdjeekpgcjcffaa.Cur Go.Proofs.Ytdjeekpgcjcffaa.RCur Go.Proofs.YtdjeekpgcjcffaaW.PrintWords Go.Proofs.YtdjeekpgcjcffaaW.PrintLast Go.Proofs.YtdjeekpgcjcffaaW.PrintMore
structure Cu where
  xs : List Int
  s : Bool
  e : Int
def Cu.good (c : Cu) : Prop := isBytes c.xs ∧ c.xs.length ≤ 1000000 ∧ (c.s = true → c.xs = [])
def Cu.fail (c : Cu) : Cu := ⟨[], true, fstE c.e 2⟩
def Cu.okB (c : Cu) (n : Int) : Bool := !c.s && decide (0 ≤ n) && decide (n ≤ (c.xs.length : Int))
def Cu.bytesV (c : Cu) (n : Int) : List Int := if c.okB n = true then c.xs.take n.toNat else []
def Cu.bytesS (c : Cu) (n : Int) : Cu := if c.okB n = true then ⟨c.xs.drop n.toNat, c.s, c.e⟩ else c.fail
def Cu.byteV (c : Cu) : Int := (c.bytesV 1).headD 0
def Cu.byteS (c : Cu) : Cu := c.bytesS 1
def Cu.need (c : Cu) (ok : Bool) (f : Int) : Cu := ⟨c.xs, c.s, if c.e = 0 ∧ ok = false then f else c.e⟩
def Cu.fin (c : Cu) : Cu := c.need (decide (c.xs = [])) 3
theorem Cu.good_fail (c : Cu) : c.fail.good := by
  refine ⟨?_, ?_, ?_⟩
  · intro x h; cases h
  · simp [Cu.fail]
  · intro _; rfl
theorem Cu.good_need {c : Cu} (h : c.good) (ok : Bool) (f : Int) : (c.need ok f).good := h
theorem Cu.okB_iff (c : Cu) (n : Int) : c.okB n = true ↔ c.s = false ∧ 0 ≤ n ∧ n ≤ (c.xs.length : Int) := by
  simp [Cu.okB, and_assoc]
theorem Cu.good_bytesS {c : Cu} (h : c.good) (n : Int) : (c.bytesS n).good := by
  unfold Cu.bytesS
  split
  · rename_i hk
    refine ⟨isBytes_drop h.1 _, by have := h.2.1; simp only [List.length_drop]; omega, fun hs => ?_⟩
    rw [((Cu.okB_iff c n).1 hk).1] at hs
    cases hs
  · exact Cu.good_fail c
theorem Cu.good_byteS {c : Cu} (h : c.good) : c.byteS.good := Cu.good_bytesS h 1
theorem Cu.bytes_bytesV {c : Cu} (h : c.good) (n : Int) : isBytes (c.bytesV n) := by
  unfold Cu.bytesV
  split
  · exact isBytes_take h.1 _
  · exact fun x h => by cases h
theorem Cu.byteV_bd {c : Cu} (h : c.good) : 0 ≤ c.byteV ∧ c.byteV < 256 := by
  have := Cu.bytes_bytesV h 1
  unfold Cu.byteV
  cases hv : c.bytesV 1 with
  | nil => simp
  | cons x l => rw [hv] at this; exact this x List.mem_cons_self
theorem Cu.not_okB {c : Cu} {n : Int} (h : ¬ c.okB n = true) : c.s = true ∨ n < 0 ∨ (c.xs.length : Int) < n := by
  rw [Cu.okB_iff] at h
  cases hs : c.s with
  | true => exact .inl rfl
  | false => exact .inr (by have : ¬ (0 ≤ n ∧ n ≤ (c.xs.length : Int)) := fun hh => h ⟨hs, hh.1, hh.2⟩; omega)
def PAt (lo hi : Nat) (w : World) (g : Nat) (c : Cu) : Prop := At lo hi w g c.xs c.s c.e ∧ c.good
theorem PAt.on {lo hi : Nat} {w w' : World} {g : Nat} {c : Cu} {S : Nat → Prop} (h : PAt lo hi w g c) (hk : Kept w w' S) (h1 : ∀ k, S k → k < lo ∨ hi ≤ k) (h2 : ¬ S g) : PAt lo hi w' g c := ⟨h.1.on hk h1 h2, h.2⟩
theorem PAt.below {lo hi : Nat} {w w' : World} {g : Nat} {c : Cu} (h : PAt lo hi w g c) (hb : Below w.heap.size w w') : PAt lo hi w' g c := ⟨h.1.below hb, h.2⟩
theorem p_new (A : Option Addr) (c : Nat) (l : List Int) (w : World) (hr : Kd.C (Kd.int .u8) w A l.length l) (hc : l.length ≤ c) (hs : l.length ≤ 1000000) (hb : isBytes l) :
    Calls Try.prog 20 #[.slice A l.length c] w fun e w' => ∃ g, e = .returned (.pointer (some ⟨g, 0, none⟩)) ∧ w.heap.size ≤ g ∧ PAt w.heap.size g w' g ⟨l, false, 0⟩ ∧ Below w.heap.size w w' ∧ w'.heap.size = g + 1 :=
  (new_any A c l w hr hc hs).mono fun e w' ⟨g, h1, h2, h3, h4, h5⟩ => ⟨g, h1, h2, ⟨h3, hb, hs, fun h => by cases h⟩, h4, h5⟩
theorem p_bytes {lo hi g : Nat} {c : Cu} {w : World} (h : PAt lo hi w g c) (n : Int) :
    Calls Try.prog 23 #[.pointer (some ⟨g, 0, none⟩), .int .i64 n] w fun en w' => ∃ A' c', en = .returned (.slice A' (c.bytesV n).length c') ∧ (c.bytesV n).length ≤ c' ∧ Row w.heap.size w'.heap.size w' A' (c.bytesV n) ∧ PAt lo hi w' g (c.bytesS n) ∧ Upd g w w' := by
  have hg := Cu.good_bytesS h.2 n
  unfold Cu.bytesV PAt
  unfold Cu.bytesS at hg ⊢
  by_cases hk : c.okB n = true
  · rw [if_pos hk] at hg ⊢
    rw [if_pos hk]
    obtain ⟨h1, h2, h3⟩ := (Cu.okB_iff c n).1 hk
    obtain ⟨m, rfl⟩ := Int.eq_ofNat_of_zero_le h2
    have ha := h.1
    rw [h1] at ha
    refine (bytes_ok lo hi g c.xs c.e m w ha (by omega) h.2.2.1).mono ?_
    rintro en w' ⟨A', c', rfl, b1, b2, b3, b4⟩
    refine ⟨A', c', rfl, b1, b2, ⟨?_, hg⟩, b4⟩
    show At lo hi w' g _ c.s c.e
    rw [h1]
    exact b3
  · rw [if_neg hk] at hg ⊢
    rw [if_neg hk]
    refine (Cur.bytes_short lo hi g c.xs c.s c.e n w h.1 (Cu.not_okB hk)).mono ?_
    rintro en w' ⟨rfl, b3, b4⟩
    exact ⟨none, 0, rfl, Nat.le_refl _, Row.nil _ _ _, ⟨b3, hg⟩, b4⟩
theorem one_of {c : Cu} (h : c.okB 1 = true) : ∃ x l, c.xs = x :: l := by
  obtain ⟨_, _, h3⟩ := (Cu.okB_iff c 1).1 h
  cases hx : c.xs with
  | nil => rw [hx] at h3; simp at h3
  | cons x l => exact ⟨x, l, rfl⟩
theorem p_byte {lo hi g : Nat} {c : Cu} {w : World} (h : PAt lo hi w g c) :
    Calls Try.prog 21 #[.pointer (some ⟨g, 0, none⟩)] w fun en w' => en = .returned (.int .u8 c.byteV) ∧ PAt lo hi w' g c.byteS ∧ Upd g w w' := by
  have hg := Cu.good_byteS h.2
  unfold Cu.byteV Cu.bytesV PAt
  unfold Cu.byteS Cu.bytesS at hg ⊢
  by_cases hk : c.okB 1 = true
  · rw [if_pos hk] at hg ⊢
    rw [if_pos hk]
    obtain ⟨x, l, hx⟩ := one_of hk
    have h1 := ((Cu.okB_iff c 1).1 hk).1
    have ha := h.1
    have hl := h.2.2.1
    rw [h1, hx] at ha
    rw [hx] at hl
    refine (byte_ok lo hi g x l c.e w ha hl).mono ?_
    rintro en w' ⟨rfl, b3, b4⟩
    refine ⟨by rw [hx]; rfl, ⟨?_, hg⟩, b4⟩
    show At lo hi w' g (c.xs.drop 1) c.s c.e
    rw [h1, hx]
    exact b3
  · rw [if_neg hk] at hg ⊢
    rw [if_neg hk]
    refine (byte_short lo hi g c.xs c.s c.e w h.1 ?_).mono ?_
    · rcases Cu.not_okB hk with h | h | h
      · exact .inl h
      · omega
      · exact .inr (List.eq_nil_of_length_eq_zero (by omega))
    rintro en w' ⟨rfl, b3, b4⟩
    exact ⟨rfl, ⟨b3, hg⟩, b4⟩
theorem p_need {lo hi g : Nat} {c : Cu} {w : World} (h : PAt lo hi w g c) (ok : Bool) (f : Int) :
    Calls Try.prog 22 #[.pointer (some ⟨g, 0, none⟩), .bool ok, .int .i64 f] w fun en w' => en = .returned (.tuple #[]) ∧ PAt lo hi w' g (c.need ok f) ∧ Upd g w w' :=
  (Cur.need_any lo hi g c.xs c.s c.e ok f w h.1).mono fun en w' ⟨h1, h2, h3⟩ => ⟨h1, ⟨h2, h.2⟩, h3⟩
theorem p_left {lo hi g : Nat} {c : Cu} {w : World} (h : PAt lo hi w g c) :
    Calls Try.prog 43 #[.pointer (some ⟨g, 0, none⟩)] w fun en w' => en = .returned (.int .i64 c.xs.length) ∧ w' = w := Cur.left_any lo hi g c.xs c.s c.e w h.1
theorem p_err {lo hi g : Nat} {c : Cu} {w : World} (h : PAt lo hi w g c) :
    Calls Try.prog 25 #[.pointer (some ⟨g, 0, none⟩)] w fun en w' => en = .returned (.int .i64 c.e) ∧ w' = w := Cur.err_any lo hi g c.xs c.s c.e w h.1
theorem fin_eq (c : Cu) : c.fin = ⟨c.xs, c.s, if c.xs = [] then c.e else fstE c.e 3⟩ := by
  unfold Cu.fin Cu.need fstE
  by_cases hx : c.xs = [] <;> simp [hx]
theorem p_end {lo hi g : Nat} {c : Cu} {w : World} (h : PAt lo hi w g c) :
    Calls Try.prog 27 #[.pointer (some ⟨g, 0, none⟩)] w fun en w' => en = .returned (.tuple #[]) ∧ PAt lo hi w' g c.fin ∧ Upd g w w' := by
  have hg : c.fin.good := Cu.good_need h.2 _ _
  rw [fin_eq] at hg ⊢
  exact (Cur.end_any lo hi g c.xs c.s c.e w h.1).mono fun en w' ⟨h1, h2, h3⟩ => ⟨h1, ⟨h2, hg⟩, h3⟩
def QAt (hi : Nat) (w : World) (g : Nat) (c : Cu) : Prop := ∃ all n, RAt hi w g all n c.s c.e ∧ c.xs = all.drop n ∧ isBytes all ∧ (c.s = true → n = all.length)
theorem QAt.on {hi : Nat} {w w' : World} {g : Nat} {c : Cu} {S : Nat → Prop} (h : QAt hi w g c) (hk : Kept w w' S) (h1 : ∀ k, S k → hi ≤ k) (h2 : ¬ S g) : QAt hi w' g c := by
  obtain ⟨all, n, a1, a2, a3, a4⟩ := h
  exact ⟨all, n, a1.on hk h1 h2, a2, a3, a4⟩
theorem QAt.good {hi : Nat} {w : World} {g : Nat} {c : Cu} (h : QAt hi w g c) : c.good := by
  obtain ⟨all, n, a1, a2, a3, a4⟩ := h
  have := a1.2.2.1
  refine ⟨by rw [a2]; exact isBytes_drop a3 _, by rw [a2, List.length_drop]; omega, fun hs => ?_⟩
  rw [a2, a4 hs, List.drop_length]
theorem QAt.cells {hi : Nat} {w : World} {g : Nat} {c : Cu} (h : QAt hi w g c) : w.cell? ⟨g, 2, none⟩ = some (.bool c.s) ∧ w.cell? ⟨g, 3, none⟩ = some (.int .i64 c.e) := by
  obtain ⟨all, n, ⟨_, _, _, A, c', a1, _⟩, _⟩ := h
  exact ⟨(cells4 a1).1.2.2.1, (cells4 a1).1.2.2.2⟩
theorem QAt.lt {hi : Nat} {w : World} {g : Nat} {c : Cu} (h : QAt hi w g c) : g < w.heap.size := by
  obtain ⟨all, n, a1, _⟩ := h
  exact a1.lt
theorem QAt.hi {hi : Nat} {w : World} {g : Nat} {c : Cu} (h : QAt hi w g c) : hi ≤ g := by
  obtain ⟨all, n, a1, _⟩ := h
  exact a1.1
theorem q_new {w : World} {A : Option Addr} {c : Nat} {l : List Int} (hr : Row 0 w.heap.size w A l) (hc : l.length ≤ c) (hs : l.length ≤ 1000000) (hb : isBytes l) {W : World} (hk : Kept w W (fun _ => False)) :
    QAt w.heap.size (W.alloc (.cells #[.slice A l.length c, .int .i64 0, .bool false, .int .i64 0] 78)) W.heap.size ⟨l, false, 0⟩ :=
  ⟨l, 0, ⟨hk.1, Nat.zero_le _, hs, A, c, blk_new _ _, hc, hr.on ((hk.alloc _).mono fun _ h => h.elim)⟩, rfl, hb, fun h => by cases h⟩
theorem q_left {hi g : Nat} {c : Cu} {w : World} (h : QAt hi w g c) :
    Calls Try.prog 44 #[.pointer (some ⟨g, 0, none⟩)] w fun en w' => en = .returned (.int .i64 c.xs.length) ∧ QAt hi w' g c ∧ Upd g w w' := by
  obtain ⟨all, n, a1, a2, a3, a4⟩ := h
  have hn := a1.2.1
  have e1 : ((all.length : Int) - n) = (c.xs.length : Int) := by rw [a2, List.length_drop]; omega
  refine (RCur.left_any hi g all n c.s c.e w a1).mono ?_
  rintro en w' ⟨rfl, b1, b2⟩
  exact ⟨by rw [e1], ⟨all, n, b1, a2, a3, a4⟩, b2⟩
theorem q_need {hi g : Nat} {c : Cu} {w : World} (h : QAt hi w g c) (ok : Bool) (f : Int) :
    Calls Try.prog 46 #[.pointer (some ⟨g, 0, none⟩), .bool ok, .int .i64 f] w fun en w' => en = .returned (.tuple #[]) ∧ QAt hi w' g (c.need ok f) ∧ Upd g w w' := by
  obtain ⟨all, n, a1, a2, a3, a4⟩ := h
  cases ok with
  | true =>
    refine (RCur.need_met hi g all n c.s c.e w a1 f).mono ?_
    rintro en w' ⟨rfl, b1, b2⟩
    refine ⟨rfl, ⟨all, n, ?_, a2, a3, a4⟩, b2⟩
    simpa [Cu.need] using b1
  | false =>
    refine (RCur.need_any hi g all n c.s c.e w a1 f).mono ?_
    rintro en w' ⟨rfl, b1, b2⟩
    refine ⟨rfl, ⟨all, n, ?_, a2, a3, a4⟩, b2⟩
    simpa [Cu.need, fstE] using b1
theorem q_byte {hi g : Nat} {c : Cu} {w : World} (h : QAt hi w g c) :
    Calls Try.prog 45 #[.pointer (some ⟨g, 0, none⟩)] w fun en w' => en = .returned (.int .u8 c.byteV) ∧ QAt hi w' g c.byteS ∧ Upd g w w' := by
  obtain ⟨all, k, a1, a2, a3, a4⟩ := h
  have hn := a1.2.1
  have hl : c.xs.length = all.length - k := by rw [a2, List.length_drop]
  unfold Cu.byteV Cu.byteS Cu.bytesV Cu.bytesS
  by_cases hk : c.okB 1 = true
  · rw [if_pos hk, if_pos hk]
    obtain ⟨h1, h2, h3⟩ := (Cu.okB_iff c 1).1 hk
    have ha := a1
    rw [h1] at ha
    refine (RCur.byte_ok hi g all k c.e w ha (by omega)).mono ?_
    rintro en w' ⟨rfl, b3, b4⟩
    have e1 : all.getD k 0 = (c.xs.take (1 : Int).toNat).headD 0 := by
      rw [a2, drop_cons (show k < all.length by omega) 0]
      rfl
    refine ⟨by rw [e1], ⟨all, k + 1, ?_, ?_, a3, ?_⟩, b4⟩
    · show RAt hi w' g all (k + 1) c.s c.e
      rw [h1]
      exact b3
    · show c.xs.drop 1 = _
      rw [a2, List.drop_drop]
    · intro hs
      rw [show c.s = true from hs] at h1
      cases h1
  · rw [if_neg hk, if_neg hk]
    refine (RCur.byte_short hi g all k c.s c.e w a1 ?_).mono ?_
    · rcases Cu.not_okB hk with h | h | h
      · exact .inl h
      · omega
      · exact .inr (by omega)
    rintro en w' ⟨rfl, b3, b4⟩
    exact ⟨rfl, ⟨all, all.length, b3, (List.drop_length).symm, a3, fun _ => rfl⟩, b4⟩
def Cu.okW (c : Cu) (n : Int) : Bool := !c.s && decide (0 ≤ n) && decide (2 * n ≤ (c.xs.length : Int))
def Cu.wordsV (c : Cu) (n : Int) : List Int := if c.okW n = true then Take.words (c.xs.take (2 * n.toNat)) else []
def Cu.wordsS (c : Cu) (n : Int) : Cu := if c.okW n = true then ⟨c.xs.drop (2 * n.toNat), c.s, c.e⟩ else c.fail
theorem Cu.okW_iff (c : Cu) (n : Int) : c.okW n = true ↔ c.s = false ∧ 0 ≤ n ∧ 2 * n ≤ (c.xs.length : Int) := by
  simp [Cu.okW, and_assoc]
theorem Cu.good_wordsS {c : Cu} (h : c.good) (n : Int) : (c.wordsS n).good := by
  unfold Cu.wordsS
  split
  · rename_i hk
    refine ⟨isBytes_drop h.1 _, by have := h.2.1; simp only [List.length_drop]; omega, fun hs => ?_⟩
    rw [((Cu.okW_iff c n).1 hk).1] at hs
    cases hs
  · exact Cu.good_fail c
theorem Cu.not_okW {c : Cu} {n : Int} (h : ¬ c.okW n = true) : c.s = true ∨ n < 0 ∨ (c.xs.length : Int) < 2 * n := by
  rw [Cu.okW_iff] at h
  cases hs : c.s with
  | true => exact .inl rfl
  | false => exact .inr (by have : ¬ (0 ≤ n ∧ 2 * n ≤ (c.xs.length : Int)) := fun hh => h ⟨hs, hh.1, hh.2⟩; omega)
theorem row16_nil (A : Option Addr) (lo hi : Nat) (w : World) : Row16 lo hi w A [] := fun W' _ => ⟨rfl, Nat.zero_le _, fun h => absurd h (Nat.lt_irrefl 0)⟩
theorem p_words {lo hi g : Nat} {c : Cu} {w : World} (h : PAt lo hi w g c) (n : Int) :
    Calls Try.prog 59 #[.pointer (some ⟨g, 0, none⟩), .int .i64 n] w fun en w' => ∃ A' c', en = .returned (.slice A' (c.wordsV n).length c') ∧ (c.wordsV n).length ≤ c' ∧ Row16 w.heap.size w'.heap.size w' A' (c.wordsV n) ∧ PAt lo hi w' g (c.wordsS n) ∧ Upd g w w' := by
  have hg := Cu.good_wordsS h.2 n
  unfold Cu.wordsV PAt
  unfold Cu.wordsS at hg ⊢
  by_cases hk : c.okW n = true
  · rw [if_pos hk] at hg ⊢
    rw [if_pos hk]
    obtain ⟨h1, h2, h3⟩ := (Cu.okW_iff c n).1 hk
    obtain ⟨m, rfl⟩ := Int.eq_ofNat_of_zero_le h2
    have ha := h.1
    rw [h1] at ha
    refine (Cur.words_ok lo hi g c.xs c.e m w ha (by omega) h.2.2.1 h.2.1).mono ?_
    rintro en w' ⟨A', c', rfl, b1, b2, b3, b4⟩
    refine ⟨A', c', rfl, b1, b2, ⟨?_, hg⟩, b4⟩
    show At lo hi w' g _ c.s c.e
    rw [h1]
    exact b3
  · rw [if_neg hk] at hg ⊢
    rw [if_neg hk]
    refine (Cur.words_short lo hi g c.xs c.s c.e n w h.1 h.2.2.1 (Cu.not_okW hk)).mono ?_
    rintro en w' ⟨A', c', rfl, b3, b4⟩
    exact ⟨A', c', rfl, Nat.zero_le _, row16_nil _ _ _ _, ⟨b3, hg⟩, b4⟩
theorem q_words {hi g : Nat} {c : Cu} {w : World} (h : QAt hi w g c) (n : Int) :
    Calls Try.prog 47 #[.pointer (some ⟨g, 0, none⟩), .int .i64 n] w fun en w' => ∃ A' c', en = .returned (.slice A' (c.wordsV n).length c') ∧ (c.wordsV n).length ≤ c' ∧ Row16 w.heap.size w'.heap.size w' A' (c.wordsV n) ∧ QAt hi w' g (c.wordsS n) ∧ Upd g w w' := by
  obtain ⟨all, k, a1, a2, a3, a4⟩ := h
  have hn := a1.2.1
  have hl : c.xs.length = all.length - k := by rw [a2, List.length_drop]
  unfold Cu.wordsV Cu.wordsS
  by_cases hk : c.okW n = true
  · rw [if_pos hk, if_pos hk]
    obtain ⟨h1, h2, h3⟩ := (Cu.okW_iff c n).1 hk
    obtain ⟨m, rfl⟩ := Int.eq_ofNat_of_zero_le h2
    have ha := a1
    rw [h1] at ha
    refine (RCur.words_ok hi g all k c.e m w ha (by omega) a3).mono ?_
    rintro en w' ⟨A', c', rfl, b1, b2, b3, b4⟩
    rw [← a2] at b1 b2
    refine ⟨A', c', by rw [a2]; rfl, b1, b2, ⟨all, k + 2 * m, ?_, ?_, a3, ?_⟩, b4⟩
    · show RAt hi w' g all (k + 2 * m) c.s c.e
      rw [h1]
      exact b3
    · show c.xs.drop (2 * m) = _
      rw [a2, List.drop_drop]
    · intro hs
      rw [show c.s = true from hs] at h1
      cases h1
  · rw [if_neg hk, if_neg hk]
    refine (RCur.words_short hi g all k c.s c.e n w a1 ?_).mono ?_
    · rcases Cu.not_okW hk with h | h | h
      · exact .inl h
      · exact .inr (.inl h)
      · exact .inr (.inr (by omega))
    rintro en w' ⟨A', c', rfl, b3, b4⟩
    exact ⟨A', c', rfl, Nat.zero_le _, row16_nil _ _ _ _, ⟨all, all.length, b3, (List.drop_length).symm, a3, fun _ => rfl⟩, b4⟩
theorem Take.wordsBd {l : List Int} (h : isBytes l) : ∀ x ∈ Take.words l, 0 ≤ x ∧ x < 65536 := by
  unfold Take.words Take.pre
  split
  · intro x hx
    obtain ⟨j, _, rfl⟩ := List.mem_map.1 hx
    have h1 := isBytes_rd h (2 * j)
    have h2 := isBytes_rd h (2 * j + 1)
    unfold Take.wordAt
    omega
  · intro x hx
    cases hx
theorem Cu.wordsV_bd {c : Cu} (h : c.good) (n : Int) : ∀ x ∈ c.wordsV n, 0 ≤ x ∧ x < 65536 := by
  unfold Cu.wordsV
  split
  · exact Take.wordsBd (isBytes_take h.1 _)
  · intro x hx
    cases hx
def Cu.wordV (c : Cu) : Int := (c.wordsV 1).headD 0
def Cu.wordS (c : Cu) : Cu := c.wordsS 1
theorem Cu.good_wordS {c : Cu} (h : c.good) : c.wordS.good := Cu.good_wordsS h 1
theorem Cu.wordV_bd {c : Cu} (h : c.good) : 0 ≤ c.wordV ∧ c.wordV < 65536 := by
  have := Cu.wordsV_bd h 1
  unfold Cu.wordV
  cases hv : c.wordsV 1 with
  | nil => simp
  | cons x l => rw [hv] at this; exact this x List.mem_cons_self
theorem two_of {c : Cu} (h : c.okW 1 = true) : ∃ x y l, c.xs = x :: y :: l := by
  obtain ⟨_, _, h3⟩ := (Cu.okW_iff c 1).1 h
  match hx : c.xs with
  | [] => rw [hx] at h3; simp at h3
  | [x] => rw [hx] at h3; simp at h3
  | x :: y :: l => exact ⟨x, y, l, rfl⟩
theorem p_word {lo hi g : Nat} {c : Cu} {w : World} (h : PAt lo hi w g c) :
    Calls Try.prog 58 #[.pointer (some ⟨g, 0, none⟩)] w fun en w' => en = .returned (.int .u16 c.wordV) ∧ PAt lo hi w' g c.wordS ∧ Upd g w w' := by
  have hg := Cu.good_wordS h.2
  unfold Cu.wordV Cu.wordsV PAt
  unfold Cu.wordS Cu.wordsS at hg ⊢
  by_cases hk : c.okW 1 = true
  · rw [if_pos hk] at hg ⊢
    rw [if_pos hk]
    obtain ⟨x, y, l, hx⟩ := two_of hk
    have h1 := ((Cu.okW_iff c 1).1 hk).1
    have ha := h.1
    have hl := h.2.2.1
    have hbb := h.2.1
    rw [h1, hx] at ha
    rw [hx] at hl hbb
    refine (Cur.word_ok lo hi g x y l c.e w ha hl hbb).mono ?_
    rintro en w' ⟨rfl, b3, b4⟩
    refine ⟨by rw [hx, show (2 * (1 : Int).toNat) = 2 * 1 from rfl, words_two]; rfl, ⟨?_, hg⟩, b4⟩
    show At lo hi w' g (c.xs.drop 2) c.s c.e
    rw [h1, hx]
    exact b3
  · rw [if_neg hk] at hg ⊢
    rw [if_neg hk]
    refine (Cur.word_short lo hi g c.xs c.s c.e w h.1 h.2.2.1 ?_).mono ?_
    · rcases Cu.not_okW hk with h | h | h
      · exact .inl h
      · omega
      · exact .inr (by omega)
    rintro en w' ⟨rfl, b3, b4⟩
    exact ⟨rfl, ⟨b3, hg⟩, b4⟩
theorem q_word {hi g : Nat} {c : Cu} {w : World} (h : QAt hi w g c) :
    Calls Try.prog 62 #[.pointer (some ⟨g, 0, none⟩)] w fun en w' => en = .returned (.int .u16 c.wordV) ∧ QAt hi w' g c.wordS ∧ Upd g w w' := by
  obtain ⟨all, k, a1, a2, a3, a4⟩ := h
  have hn := a1.2.1
  have hl : c.xs.length = all.length - k := by rw [a2, List.length_drop]
  unfold Cu.wordV Cu.wordS Cu.wordsV Cu.wordsS
  by_cases hk : c.okW 1 = true
  · rw [if_pos hk, if_pos hk]
    obtain ⟨h1, h2, h3⟩ := (Cu.okW_iff c 1).1 hk
    have ha := a1
    rw [h1] at ha
    refine (RCur.word_ok hi g all k c.e w ha (by omega) a3).mono ?_
    rintro en w' ⟨rfl, b3, b4⟩
    have e1 : (all.getD k 0 * 256 + all.getD (k + 1) 0) = (Take.words (c.xs.take (2 * (1 : Int).toNat))).headD 0 := by
      rw [a2, drop_cons (show k < all.length by omega) 0, drop_cons (show k + 1 < all.length by omega) 0, show (2 * (1 : Int).toNat) = 2 * 1 from rfl, words_two]
      rfl
    refine ⟨by rw [e1], ⟨all, k + 2, ?_, ?_, a3, ?_⟩, b4⟩
    · show RAt hi w' g all (k + 2) c.s c.e
      rw [h1]
      exact b3
    · show c.xs.drop 2 = _
      rw [a2, List.drop_drop]
    · intro hs
      rw [show c.s = true from hs] at h1
      cases h1
  · rw [if_neg hk, if_neg hk]
    refine (RCur.word_short hi g all k c.s c.e w a1 ?_).mono ?_
    · rcases Cu.not_okW hk with h | h | h
      · exact .inl h
      · omega
      · exact .inr (by omega)
    rintro en w' ⟨rfl, b3, b4⟩
    exact ⟨rfl, ⟨all, all.length, b3, (List.drop_length).symm, a3, fun _ => rfl⟩, b4⟩
end Go.Proofs.Ytdjeekpgcjcffaa.Cu
end
section
namespace Go.Proofs.Ytdjeekpgcjcffaa.Same
open Go.RowKit Go.Proofs.Ytdjeekpgcjcffaa.P Go.Proofs.Ytdjeekpgcjcffaa.E Go.Proofs.YtdjeekpgcjcffaaW.PrintWords Go.Proofs.YtdjeekpgcjcffaaW.PrintLast Go.Proofs.YtdjeekpgcjcffaaW.PrintMore
theorem good_code {m : Msg} (h : goodM m) {v : Int} (hv : 0 ≤ v ∧ v < 256) : goodM { m with code := v } := by
  obtain ⟨h1, h2⟩ := h
  refine ⟨?_, h2⟩
  simp only [okM, u8B, u16B, Bool.and_eq_true, decide_eq_true_eq] at h1 ⊢
  simp only [h1, hv, and_self, true_and]
theorem set_code {W : World} {cx : Array Value} {m : Msg} (h : IsMsg W cx m) {v : Int} (hv : 0 ≤ v ∧ v < 256) : IsMsg W (cx.setIfInBounds 0 (.int .u8 v)) { m with code := v } := by
  obtain ⟨A12, c12, A13, c13, A14, c14, A15, c15, A21, c21, rfl, ok, h12, h13, h14, h15, h21⟩ := h
  exact ⟨A12, c12, A13, c13, A14, c14, A15, c15, A21, c21, by simp, good_code ok hv, h12, h13, h14, h15, h21⟩
def NilL (cx : Array Value) : Prop := ∀ (i : Nat) A n, (i = 15 ∨ i = 21) → cx[i]? = some (.slice A 0 n) → A = none ∧ n = 0
def Zip {α β : Type} (R : α → β → Prop) (l : List α) (k : List β) : Prop := l.length = k.length ∧ ∀ (j : Nat) a b, l[j]? = some a → k[j]? = some b → R a b
theorem Zip.nil {α β : Type} (R : α → β → Prop) : Zip R [] [] := ⟨rfl, fun j a b h => by simp at h⟩
theorem Zip.imp {α β : Type} {R R' : α → β → Prop} {l : List α} {k : List β} (h : Zip R l k) (hi : ∀ a b, R a b → R' a b) : Zip R' l k := ⟨h.1, fun j a b ha hb => hi a b (h.2 j a b ha hb)⟩
theorem Zip.get {α β : Type} {R : α → β → Prop} {l : List α} {k : List β} (h : Zip R l k) {j : Nat} (hj : j < l.length) (hj' : j < k.length) : R l[j] k[j] := h.2 j _ _ (List.getElem?_eq_getElem hj) (List.getElem?_eq_getElem hj')
theorem Zip.mem {α β : Type} {R : α → β → Prop} {l : List α} {k : List β} (h : Zip R l k) : ∀ b ∈ k, ∃ a, R a b := fun b hb => by
  obtain ⟨j, hj, rfl⟩ := List.mem_iff_getElem.1 hb
  have hl := h.1
  exact ⟨_, h.get (show j < l.length by omega) hj⟩
theorem Zip.snoc {α β : Type} {R : α → β → Prop} {l : List α} {k : List β} (h : Zip R l k) {a : α} {b : β} (hab : R a b) : Zip R (l ++ [a]) (k ++ [b]) := by
  refine ⟨by simp [h.1], fun j x y hx hy => ?_⟩
  have hl := h.1
  by_cases hj : j < l.length
  · rw [List.getElem?_append_left hj] at hx
    rw [List.getElem?_append_left (by omega)] at hy
    exact h.2 j x y hx hy
  · rw [List.getElem?_append_right (by omega)] at hx
    rw [List.getElem?_append_right (by omega)] at hy
    have e : j - l.length = 0 := by
      by_cases h0 : j - l.length = 0
      · exact h0
      · rw [List.getElem?_eq_none (by simp; omega)] at hx; cases hx
    have e2 : j - k.length = 0 := by omega
    rw [e] at hx
    rw [e2] at hy
    simp at hx hy
    subst hx
    subst hy
    exact hab
end Go.Proofs.Ytdjeekpgcjcffaa.Same
end
section
namespace Go.Proofs.Ytdjeekpgcjcffaa.PS
open Go.RowKit Go.Proofs.Ytdjeekpgcjcffaa.P Go.Proofs.Ytdjeekpgcjcffaa.E Go.Proofs.Ytdjeekpgcjcffaa.Cur Go.Proofs.Ytdjeekpgcjcffaa.RCur Go.Proofs.Ytdjeekpgcjcffaa.Cu Go.Proofs.Ytdjeekpgcjcffaa.Same Go.Proofs.YtdjeekpgcjcffaaW.PrintWords Go.Proofs.YtdjeekpgcjcffaaW.PrintLast Go.Proofs.YtdjeekpgcjcffaaW.PrintMore
structure St (w0 : World) (gr g gm : Nat) (w : World) (c : Cu) (m : Msg) : Prop where
  b : Below w0.heap.size w0 w
  cur : ∃ lo hi, PAt lo hi w g c ∧ (gm < lo ∨ hi ≤ gm) ∧ (gr < lo ∨ hi ≤ gr)
  cx : ∃ cx, w.heap[gm]? = some (.cells cx 30 (0, 0)) ∧ ∀ W', Kept w W' (fun k => k = g ∨ k = gm ∨ k = gr) → IsMsg W' cx m
  res : w.heap[gr]? = some (.cells zeroC 30 (0, 0))
  h1 : w0.heap.size ≤ g ∧ w0.heap.size ≤ gm ∧ w0.heap.size ≤ gr
  h2 : gm ≠ g ∧ gr ≠ g ∧ gr ≠ gm
  nl : ∃ cx, w.heap[gm]? = some (.cells cx 30 (0, 0)) ∧ NilL cx
section
variable {w0 w w' : World} {gr g gm : Nat} {c c' : Cu} {m m' : Msg}
end
structure Nw (w0 : World) (gr g : Nat) (w : World) (c : Cu) : Prop where
  b : Below w0.heap.size w0 w
  cur : ∃ lo, PAt lo g w g c ∧ gr < lo
  res : w.heap[gr]? = some (.cells zeroC 30 (0, 0))
  h1 : w0.heap.size ≤ g ∧ w0.heap.size ≤ gr
end Go.Proofs.Ytdjeekpgcjcffaa.PS
end
section
namespace Go.Proofs.Ytdjeekpgcjcffaa.Same
open Go.RowKit Go.Proofs.Ytdjeekpgcjcffaa.P Go.Proofs.Ytdjeekpgcjcffaa.E Go.Proofs.Ytdjeekpgcjcffaa.Same Go.Proofs.YtdjeekpgcjcffaaW.PrintWords Go.Proofs.YtdjeekpgcjcffaaW.PrintLast Go.Proofs.YtdjeekpgcjcffaaW.PrintMore
structure RawR where
  f0 : Int
  f1 : Int
  f2 : Int
  A : Option Addr
  n : Nat
  c : Nat
def kRawR : Kd RawR where
  sz := 4
  E := []
  K := fun _ x cs => cs = [.int .u16 x.f0, .int .u16 x.f1, .int .u16 x.f2, .slice x.A x.n x.c]
  M := fun _ _ _ x cs => cs = [.int .u16 x.f0, .int .u16 x.f1, .int .u16 x.f2, .slice x.A x.n x.c]
  K_len := fun h => by rw [h]; rfl
  K_one := fun h u hu => by
    rw [h] at hu
    simp only [List.mem_cons, List.not_mem_nil, or_false] at hu
    rcases hu with rfl | rfl | rfl | rfl <;> rfl
  K_below := fun _ h => h
  K_of_M := fun h => h
  M_mono := fun _ h => h
  M_bound := fun h => h
  M_move := fun _ h => h
  M_lower := fun _ h => h
def FitsR (W : World) (r : RawR) (o : S43) : Prop := r.f0 = o.f0 ∧ r.f1 = o.f1 ∧ r.f2 = o.f2 ∧ r.n = o.f3.length ∧ o.f3.length ≤ r.c ∧ Kd.C (Kd.int .u16) W r.A o.f3.length o.f3
def goodR (o : S43) : Prop := goodRec o
theorem zipR_C {W : World} {A : Option Addr} {n : Nat} {raws : List RawR} {os : List S43} (h : Kd.C kRawR W A n raws) (z : Zip (FitsR W) raws os) : Kd.C k43 W A n os := by
  obtain ⟨h1, h2, h3⟩ := h
  have hl := z.1
  refine ⟨by rw [← hl]; exact h1, h2, fun hn => ?_⟩
  obtain ⟨ad, e, hc⟩ := h3 hn
  refine ⟨ad, e, fun j p hp => ?_⟩
  obtain ⟨hj, rfl⟩ := List.getElem?_eq_some_iff.1 hp
  have hj' : j < raws.length := by rw [hl]; exact hj
  obtain ⟨c, hc1, hc2, hc3⟩ := hc j raws[j] (List.getElem?_eq_getElem hj')
  have hf : FitsR W raws[j] os[j] := z.get hj' hj
  obtain ⟨e1f0, e1f1, e1f2, e2, e3, e4⟩ := hf
  refine ⟨c, hc1, ?_, hc3⟩
  rw [show c = [.int .u16 raws[j].f0, .int .u16 raws[j].f1, .int .u16 raws[j].f2, .slice raws[j].A raws[j].n raws[j].c] from hc2, e1f0, e1f1, e1f2, e2]
  exact k43_mk W _ e3 e4
theorem set_recs {W : World} {cx : Array Value} {m : Msg} (h : IsMsg W cx m) {A : Option Addr} {n : Nat} {l : List S43} (hn : l.length ≤ n) (hg : ∀ o ∈ l, goodR o) (hr : Kd.C k43 W A l.length l) : IsMsg W (cx.setIfInBounds 15 (.slice A l.length n)) { m with recs := l } := by
  obtain ⟨A12, c12, A13, c13, A14, c14, A15, c15, A21, c21, rfl, ok, h12, h13, h14, h15, h21⟩ := h
  refine ⟨A12, c12, A13, c13, A14, c14, A, n, A21, c21, by simp, ?_, h12, h13, h14, ⟨hr, hn⟩, h21⟩
  obtain ⟨ok1, ok2, ok3, ok4⟩ := ok
  exact ⟨ok1, ok2, fun o ho => hg o ho, ok4⟩
end Go.Proofs.Ytdjeekpgcjcffaa.Same
end
section
namespace Go.Proofs.Ytdjeekpgcjcffaa.Fil
open Go.RowKit Go.Proofs.Ytdjeekpgcjcffaa.P Go.Proofs.Ytdjeekpgcjcffaa.E Go.Proofs.Ytdjeekpgcjcffaa.Cur Go.Proofs.Ytdjeekpgcjcffaa.Cu Go.Proofs.Ytdjeekpgcjcffaa.Same Go.Proofs.YtdjeekpgcjcffaaW.PrintWords Go.Proofs.YtdjeekpgcjcffaaW.PrintLast Go.Proofs.YtdjeekpgcjcffaaW.PrintMore
def head (c : Cu) : Cu × Int × Int × Int :=
  let c2 := c.byteS.need (c.byteV == 6) 9
  let c4 := c2.wordS.need (c2.wordV != 0) 6
  let c6 := c4.wordS.need (decide (c4.wordV ≤ 9999)) 7
  (c6.wordS.need (c6.wordV != 0) 5, c2.wordV, c4.wordV, c6.wordV)
def asked (s : Int) (c : Cu) : Cu × S43 × Int :=
  let h := head c
  let s1 := s + (2 + 2 * h.2.2.2)
  (h.1.need (decide (s1 ≤ 245)) 5, ⟨h.2.1, h.2.2.1, h.2.2.2, []⟩, s1)
def told (c : Cu) : Cu × S43 :=
  let c2 := c.byteS.need (decide (c.byteV % 2 = 1) && decide (3 ≤ c.byteV) && decide (c.byteV ≤ (c.byteS.xs.length : Int))) 5
  let c4 := c2.byteS.need (c2.byteV == 6) 9
  (c4.wordsS (Int.tdiv (c.byteV - 1) 2), ⟨0, 0, 0, c4.wordsV (Int.tdiv (c.byteV - 1) 2)⟩)
def written (c : Cu) : Cu × S43 :=
  let h := head c
  let c1 := h.1.need (decide (2 * h.2.2.2 ≤ (h.1.xs.length : Int))) 5
  (c1.wordsS h.2.2.2, ⟨h.2.1, h.2.2.1, h.2.2.2, c1.wordsV h.2.2.2⟩)
abbrev recC (a b d : Int) (v : Value) : Array Value := #[.int .u16 a, .int .u16 b, .int .u16 d, v]
abbrev recZ : Array Value := recC 0 0 0 (.slice none 0 0)
theorem rec_info {cx : Array Value} (h : cx.size = 4) : (Try.prog.info? 43).map (·.size) = some cx.size := by rw [h]; kernel_rfl
theorem run_alloc_rec (ev : Operand → Value) (o : Oper) (ho : o.op = .alloc 43) (W : World) : (execOp ev o).run Try.prog W = .ok (.value (.pointer (some ⟨W.heap.size, 0, none⟩))) (W.alloc (.cells recZ 43 (0, 0))) := by
  unfold execOp
  rw [ho]
  kernel_rfl
theorem ev_rec {ops : Array Oper} {rest : List Oper} {o : Oper} {a : Act} {w : World} {Q : Exit → Act → World → Prop} (ho : o.op = .alloc 43) (hgd : o.guard = none)
    (h : ∀ g w1, g = w.heap.size → w1.heap[g]? = some (.cells recZ 43 (0, 0)) → Below w.heap.size w w1 → wpList Try.prog ops Q rest (a.put o.dst (.pointer (some ⟨g, 0, none⟩))) w1) : wpList Try.prog ops Q (o :: rest) a w :=
  Kd.event_run hgd (run_alloc_rec a.eval o ho w) (h _ _ rfl (blk_new w _) (below_alloc (Below.refl _ _) _))
structure HS (w0 : World) (g lo hi b2 b3 : Nat) (w : World) (c : Cu) (x2 x3 : Array Value) : Prop where
  cur : PAt lo hi w g c
  up : Upd g w0 w
  gl : g < w0.heap.size ∧ w0.heap.size ≤ b2 ∧ w0.heap.size ≤ b3
  h2 : w.heap[b2]? = some (.cells x2 43 (0, 0))
  h3 : w.heap[b3]? = some (.cells x3 43 (0, 0))
section
variable {w0 w w' : World} {g lo hi b2 b3 : Nat} {c c' : Cu} {x2 x3 : Array Value}
theorem HS.start (h : PAt lo hi w0 g c) {w1 : World} (hb : Below w0.heap.size w0 w1) {b : Nat} (e : b = w0.heap.size) (h1 : w1.heap[b]? = some (.cells x2 43 (0, 0))) : HS w0 g lo hi b b w1 c x2 x2 :=
  ⟨h.below hb, Upd.of_below hb, ⟨h.1.lt, by omega, by omega⟩, h1, h1⟩
theorem HS.new (h : HS w0 g lo hi b2 b2 w c x2 x2) {w1 : World} (hb : Below w.heap.size w w1) {b : Nat} (e : b = w.heap.size) (h1 : w1.heap[b]? = some (.cells x3 43 (0, 0))) : HS w0 g lo hi b2 b w1 c x2 x3 ∧ b2 ≠ b :=
  ⟨⟨h.cur.below hb, h.up.trans (Upd.of_below hb), ⟨h.gl.1, h.gl.2.1, by have := h.up.kept.1; omega⟩, blk_below h.h2 hb, h1⟩, by have := blk_lt h.h2; omega⟩
theorem HS.stp (h : HS w0 g lo hi b2 b3 w c x2 x3) (p : PAt lo hi w' g c') (u : Upd g w w') : HS w0 g lo hi b2 b3 w' c' x2 x3 :=
  ⟨p, h.up.trans u, h.gl, blk_kept h.h2 u.kept (by have := h.gl; omega), blk_kept h.h3 u.kept (by have := h.gl; omega)⟩
theorem HS.good (h : HS w0 g lo hi b2 b3 w c x2 x3) : c.good := h.cur.2
theorem HS.byte (h : HS w0 g lo hi b2 b3 w c x2 x3) : Calls Try.prog 21 #[.pointer (some ⟨g, 0, none⟩)] w fun en w' => en = .returned (.int .u8 c.byteV) ∧ HS w0 g lo hi b2 b3 w' c.byteS x2 x3 :=
  (p_byte h.cur).mono fun en w' ⟨e, p, u⟩ => ⟨e, h.stp p u⟩
theorem HS.word (h : HS w0 g lo hi b2 b3 w c x2 x3) : Calls Try.prog 58 #[.pointer (some ⟨g, 0, none⟩)] w fun en w' => en = .returned (.int .u16 c.wordV) ∧ HS w0 g lo hi b2 b3 w' c.wordS x2 x3 :=
  (p_word h.cur).mono fun en w' ⟨e, p, u⟩ => ⟨e, h.stp p u⟩
theorem HS.need (h : HS w0 g lo hi b2 b3 w c x2 x3) (ok : Bool) (f : Int) : Calls Try.prog 22 #[.pointer (some ⟨g, 0, none⟩), .bool ok, .int .i64 f] w fun en w' => en = .returned (.tuple #[]) ∧ HS w0 g lo hi b2 b3 w' (c.need ok f) x2 x3 :=
  (p_need h.cur ok f).mono fun en w' ⟨e, p, u⟩ => ⟨e, h.stp p u⟩
theorem HS.left (h : HS w0 g lo hi b2 b3 w c x2 x3) : Calls Try.prog 43 #[.pointer (some ⟨g, 0, none⟩)] w fun en w' => en = .returned (.int .i64 c.xs.length) ∧ w' = w := p_left h.cur
theorem HS.words (h : HS w0 g lo hi b2 b3 w c x2 x3) (n : Int) : Calls Try.prog 59 #[.pointer (some ⟨g, 0, none⟩), .int .i64 n] w fun en w' => ∃ A' c', en = .returned (.slice A' (c.wordsV n).length c') ∧ (c.wordsV n).length ≤ c' ∧ Row16 w.heap.size w'.heap.size w' A' (c.wordsV n) ∧ HS w0 g lo hi b2 b3 w' (c.wordsS n) x2 x3 :=
  (p_words h.cur n).mono fun en w' ⟨A', c', e, z, r, p, u⟩ => ⟨A', c', e, z, r, h.stp p u⟩
theorem HS.put (h : HS w0 g lo hi b2 b3 w c x2 x3) (hn : b2 ≠ b3) (i : Nat) (v : Value) : HS w0 g lo hi b2 b3 (w.setCell ⟨b3, i, none⟩ v) c x2 (x3.setIfInBounds i v) := by
  have hk : Kept w (w.setCell ⟨b3, i, none⟩ v) (fun k => k = b3) := (Kept.refl w (fun k => k = b3)).setCell (p := ⟨b3, i, none⟩) (.inl rfl) v
  have hh := h.cur.1.1
  refine ⟨h.cur.on hk (fun k e => by have := h.gl; omega) (fun e => by have := h.gl; omega), ⟨h.up.os, h.up.tape, h.up.output, h.up.kept.then_ hk fun k e => .inr (by have := h.gl; omega)⟩, h.gl, blk_kept h.h2 hk (fun e => hn e), ?_⟩
  exact blk_put h.h3 i v rfl
theorem HS.put0 {a b d : Int} {v : Value} (h : HS w0 g lo hi b2 b3 w c x2 (recC a b d v)) (hn : b2 ≠ b3) (z : Int) : HS w0 g lo hi b2 b3 (w.setCell ⟨b3, 0, none⟩ (.int .u16 z)) c x2 (recC z b d v) := h.put hn 0 _
theorem HS.put1 {a b d : Int} {v : Value} (h : HS w0 g lo hi b2 b3 w c x2 (recC a b d v)) (hn : b2 ≠ b3) (z : Int) : HS w0 g lo hi b2 b3 (w.setCell ⟨b3, 1, none⟩ (.int .u16 z)) c x2 (recC a z d v) := h.put hn 1 _
theorem HS.put2 {a b d : Int} {v : Value} (h : HS w0 g lo hi b2 b3 w c x2 (recC a b d v)) (hn : b2 ≠ b3) (z : Int) : HS w0 g lo hi b2 b3 (w.setCell ⟨b3, 2, none⟩ (.int .u16 z)) c x2 (recC a b z v) := h.put hn 2 _
theorem HS.put3 {a b d : Int} {v : Value} (h : HS w0 g lo hi b2 b3 w c x2 (recC a b d v)) (hn : b2 ≠ b3) (z : Value) : HS w0 g lo hi b2 b3 (w.setCell ⟨b3, 3, none⟩ z) c x2 (recC a b d z) := h.put hn 3 _
theorem HS.drew (h : HS w0 g lo hi b2 b3 w c x2 x3) : HS w0 g lo hi b2 b3 w.drew c x2 x3 :=
  h.stp (h.cur.on (S := fun _ => False) (Kept.refl w _).drew (fun _ h => h.elim) (fun h => h)) ⟨rfl, rfl, rfl, Kept.refl _ _⟩
theorem HS.fill (h : HS w0 g lo hi b2 b3 w c x2 x3) {cx : Array Value} (h1 : w'.heap[b2]? = some (.cells cx 43 (0, 0))) (u : Up1 b2 w w') : PAt lo hi w' g c ∧ Upd g w0 w' := by
  have hh := h.cur.1.1
  exact ⟨h.cur.on u.kept (fun k e => by have := h.gl; omega) (fun e => by have := h.gl; omega), ⟨u.os.trans h.up.os, u.tape.trans h.up.tape, u.output.trans h.up.output, h.up.kept.then_ u.kept fun k e => .inr (by have := h.gl; omega)⟩⟩
theorem HS.at3 (h : HS w0 g lo hi b2 b3 w c x2 x3) (i : Nat) : w.cell? ⟨b3, i, none⟩ = x3[i]? ∧ w.frozen? ⟨b3, i, none⟩ = false := ⟨blk_cell h.h3 i, blk_frozen h.h3 i⟩
end
theorem row_out {w0 wa wb wc : World} {g lo hi b2 b3 : Nat} {c : Cu} {x2 x3 : Array Value} {A : Option Addr} {l : List Int} (h : Row16 wa.heap.size wb.heap.size wb A l) (u : Upd g w0 wa) (h2 : HS w0 g lo hi b2 b3 wb c x2 x3) (hl : b2 < wa.heap.size) (k : Up1 b2 wb wc) : Row16 w0.heap.size wc.heap.size wc A l := by
  have := u.kept.1
  have := k.kept.1
  exact (h.on (k.kept.mono fun j hj => .inl (by omega))).wide (by omega) (by omega)
theorem recs_one {a b d : Int} {A : Option Addr} {n k : Nat} : (recC a b d (.slice A n k)).all (·.oneCell') = true := by simp [Value.oneCell']
theorem head_any {lo hi g : Nat} {c0 : Cu} {w : World} (h : PAt lo hi w g c0) :
    Calls Try.prog 35 #[.pointer (some ⟨g, 0, none⟩)] w fun en w' => en = .returned (.agg #[.int .u16 (head c0).2.1, .int .u16 (head c0).2.2.1, .int .u16 (head c0).2.2.2, .slice none 0 0]) ∧ PAt lo hi w' g (head c0).1 ∧ Upd g w w' := by
  have HP := Aside0.mk h
  clear h
  go_enter Try.func35, Try.ntmps35
  go_upto_region 1 with (first | ((with_reducible refine gate_dst (N := 2) rfl ?_); refine ev_rec rfl rfl ?_; intro b2 w1 hg_ h1_ h2_; have H := Aside0.mk (HS.start HP.out h2_ hg_ h1_); clear hg_ h1_ h2_))
  go_upto_region 2 with (first | (go_at_call 21; (with_reducible refine (HS.byte H.out).mono ?_); rintro en x1 ⟨rfl, hp_⟩; obtain ⟨c1, ec_⟩ : ∃ z, z = c0.byteS := ⟨_, rfl⟩; rw [← ec_] at hp_; have Ec1 := Aside0.mk ec_; clear ec_; have n0_ := Aside0.mk hp_; clear H hp_; have H := n0_; clear n0_) | (go_at_call 22; (with_reducible refine (HS.need H.out (c0.byteV == 6) 9).mono ?_); rintro en x2 ⟨rfl, hp_⟩; obtain ⟨c2, ec_⟩ : ∃ z, z = c1.need (c0.byteV == 6) 9 := ⟨_, rfl⟩; rw [← ec_] at hp_; have Ec2 := Aside0.mk ec_; clear ec_; have n0_ := Aside0.mk hp_; clear H hp_; have H := n0_; clear n0_))
  go_upto_region 3 with (first | ((with_reducible refine gate_dst (N := 3) rfl ?_); refine ev_rec rfl rfl ?_; intro b3 w2 hg_ h1_ h2_; obtain ⟨n0_, n1_⟩ := HS.new H.out h2_ hg_ h1_; have NE := Aside0.mk n1_; have m0_ := Aside0.mk n0_; clear H hg_ h1_ h2_ n0_ n1_; have H := m0_; clear m0_))
  go_upto_region 4 with (first | (go_at_call 58; (with_reducible refine (HS.word H.out).mono ?_); rintro en x3 ⟨rfl, hp_⟩; obtain ⟨c3, ec_⟩ : ∃ z, z = c2.wordS := ⟨_, rfl⟩; rw [← ec_] at hp_; have Ec3 := Aside0.mk ec_; clear ec_; have k0 := (HS.at3 hp_ 0).1; have f0 := (HS.at3 hp_ 0).2; have n0_ := Aside0.mk hp_; clear H hp_; have H := n0_; clear n0_))
  have n0_ := Aside0.mk (HS.put0 H.out NE.out c2.wordV)
  clear H k0 f0
  have H := n0_
  clear n0_
  have k0 : World.cell? _ _ = some (Value.int .u16 c2.wordV) := (HS.at3 H.out 0).1
  go_upto_region 5 with (first | (go_at_call 22; (with_reducible refine (HS.need H.out (c2.wordV != 0) 6).mono ?_); rintro en x4 ⟨rfl, hp_⟩; obtain ⟨c4, ec_⟩ : ∃ z, z = c3.need (c2.wordV != 0) 6 := ⟨_, rfl⟩; rw [← ec_] at hp_; have Ec4 := Aside0.mk ec_; clear ec_; have n0_ := Aside0.mk hp_; clear H hp_ k0; have H := n0_; clear n0_))
  go_upto_region 6 with (first | (go_at_call 58; (with_reducible refine (HS.word H.out).mono ?_); rintro en x5 ⟨rfl, hp_⟩; obtain ⟨c5, ec_⟩ : ∃ z, z = c4.wordS := ⟨_, rfl⟩; rw [← ec_] at hp_; have Ec5 := Aside0.mk ec_; clear ec_; have k0 := (HS.at3 hp_ 1).1; have f0 := (HS.at3 hp_ 1).2; have n0_ := Aside0.mk hp_; clear H hp_; have H := n0_; clear n0_))
  have n0_ := Aside0.mk (HS.put1 H.out NE.out c4.wordV)
  clear H k0 f0
  have H := n0_
  clear n0_
  have k0 : World.cell? _ _ = some (Value.int .u16 c4.wordV) := (HS.at3 H.out 1).1
  go_upto_region 7 with (first | (go_at_call 22; (with_reducible refine (HS.need H.out (decide (c4.wordV ≤ 9999)) 7).mono ?_); rintro en x6 ⟨rfl, hp_⟩; obtain ⟨c6, ec_⟩ : ∃ z, z = c5.need (decide (c4.wordV ≤ 9999)) 7 := ⟨_, rfl⟩; rw [← ec_] at hp_; have Ec6 := Aside0.mk ec_; clear ec_; have n0_ := Aside0.mk hp_; clear H hp_ k0; have H := n0_; clear n0_))
  go_upto_region 8 with (first | (go_at_call 58; (with_reducible refine (HS.word H.out).mono ?_); rintro en x7 ⟨rfl, hp_⟩; obtain ⟨c7, ec_⟩ : ∃ z, z = c6.wordS := ⟨_, rfl⟩; rw [← ec_] at hp_; have Ec7 := Aside0.mk ec_; clear ec_; have k0 := (HS.at3 hp_ 2).1; have f0 := (HS.at3 hp_ 2).2; have n0_ := Aside0.mk hp_; clear H hp_; have H := n0_; clear n0_))
  have n0_ := Aside0.mk (HS.put2 H.out NE.out c6.wordV)
  clear H k0 f0
  have H := n0_
  clear n0_
  have k0 : World.cell? _ _ = some (Value.int .u16 c6.wordV) := (HS.at3 H.out 2).1
  go_upto_region 9 with (first | (go_at_call 22; (with_reducible refine (HS.need H.out (c6.wordV != 0) 5).mono ?_); rintro en x8 ⟨rfl, hp_⟩; obtain ⟨c8, ec_⟩ : ∃ z, z = c7.need (c6.wordV != 0) 5 := ⟨_, rfl⟩; rw [← ec_] at hp_; have Ec8 := Aside0.mk ec_; clear ec_; have n0_ := Aside0.mk hp_; clear H hp_ k0; have H := n0_; clear n0_))
  have HE : Aside0 (head c0 = (c8, c2.wordV, c4.wordV, c6.wordV)) := ⟨by simp only [head]; rw [← Ec1.out, ← Ec2.out, ← Ec3.out, ← Ec4.out, ← Ec5.out, ← Ec6.out, ← Ec7.out, ← Ec8.out]⟩
  go_wp2_with (first | ((with_reducible refine gate_dst (N := 33) rfl ?_); refine wpList_load_row rfl 43 (.tmp 3) rfl b3 rfl 43 _ (0, 0) _ H.out.h3 Try.underlying43 rfl (rec_info rfl) ?_) | ((with_reducible refine gate_op (u := .store 43 (.tmp 2) (.tmp 33)) rfl ?_); refine Same.wpList_store_row 43 (.tmp 2) (.tmp 33) rfl rfl rfl rfl H.out.h2 rfl (rec_info rfl) recs_one ?_; intro x9 h3_ h4_; have HF := Aside0.mk (HS.fill H.out h3_ h4_); have HB := Aside0.mk h3_; clear h3_ h4_))
  refine bodyPost_ret (results_cell_row rfl _ _ b2 43 _ (0, 0) _ rfl HB.out Try.underlying43 rfl (rec_info rfl)) rfl ⟨?_, ?_⟩
  · rw [HE.out]
  · rw [HE.out]; exact HF.out
theorem told_w1 {lo hi g : Nat} {c0 : Cu} {w : World} (h : PAt lo hi w g c0) (k1 : ¬ c0.byteV % 2 = 1) :
    Calls Try.prog 38 #[.pointer (some ⟨g, 0, none⟩)] w fun en w' => ∃ A n, en = .returned (.agg (recC 0 0 0 (.slice A (told c0).2.f3.length n))) ∧ (told c0).2.f3.length ≤ n ∧ Row16 w.heap.size w'.heap.size w' A (told c0).2.f3 ∧ PAt lo hi w' g (told c0).1 ∧ Upd g w w' := by
  have HP := Aside0.mk h
  clear h
  have K1 := Aside0.mk k1
  have e1 : (c0.byteV % 2 == 1) = false := beq_eq_false_iff_ne.2 k1
  go_enter Try.func38, Try.ntmps38
  go_upto_region 1 with (first | ((with_reducible refine gate_dst (N := 2) rfl ?_); refine ev_rec rfl rfl ?_; intro b2 w1 hg_ h1_ h2_; have H := Aside0.mk (HS.start HP.out h2_ hg_ h1_); clear hg_ h1_ h2_))
  go_upto_region 2 with (first | (go_at_call 21; obtain ⟨l0, h0⟩ := Cu.byteV_bd (HS.good H.out); (with_reducible refine (HS.byte H.out).mono ?_); rintro en x1 ⟨rfl, hp_⟩; obtain ⟨c1, ec_⟩ : ∃ z, z = c0.byteS := ⟨_, rfl⟩; rw [← ec_] at hp_; have Ec1 := Aside0.mk ec_; clear ec_; have n0_ := Aside0.mk hp_; clear H hp_; have H := n0_; clear n0_))
  go_upto_region 3 with (first | (go_at_call 22; (with_reducible refine (HS.need H.out (false) 5).mono ?_); rintro en x2 ⟨rfl, hp_⟩; obtain ⟨c2, ec_⟩ : ∃ z, z = c1.need (false) 5 := ⟨_, rfl⟩; rw [← ec_] at hp_; have Ec2 := Aside0.mk ec_; clear ec_; have n0_ := Aside0.mk hp_; clear H hp_; have H := n0_; clear n0_))
  go_upto_region 4 with (first | (go_at_call 21; obtain ⟨l2, h2⟩ := Cu.byteV_bd (HS.good H.out); (with_reducible refine (HS.byte H.out).mono ?_); rintro en x3 ⟨rfl, hp_⟩; obtain ⟨c3, ec_⟩ : ∃ z, z = c2.byteS := ⟨_, rfl⟩; rw [← ec_] at hp_; have Ec3 := Aside0.mk ec_; clear ec_; have n0_ := Aside0.mk hp_; clear H hp_; have H := n0_; clear n0_) | (go_at_call 22; (with_reducible refine (HS.need H.out (c2.byteV == 6) 9).mono ?_); rintro en x4 ⟨rfl, hp_⟩; obtain ⟨c4, ec_⟩ : ∃ z, z = c3.need (c2.byteV == 6) 9 := ⟨_, rfl⟩; rw [← ec_] at hp_; have Ec4 := Aside0.mk ec_; clear ec_; have n0_ := Aside0.mk hp_; clear H hp_; have H := n0_; clear n0_))
  have HE : Aside0 (told c0 = (c4.wordsS (Int.tdiv (c0.byteV - 1) 2), ⟨0, 0, 0, c4.wordsV (Int.tdiv (c0.byteV - 1) 2)⟩)) := ⟨by
    have ek : (decide (c0.byteV % 2 = 1) && decide (3 ≤ c0.byteV) && decide (c0.byteV ≤ (c1.xs.length : Int))) = (false) := by simp [K1.out]
    simp only [told]
    rw [← Ec1.out, ek, ← Ec2.out, ← Ec3.out, ← Ec4.out]⟩
  have EU := Aside0.mk H.out.up
  have EL := Aside0.mk H.out.h2
  go_wp2_with (first | (go_at_call 59; (with_reducible refine (HS.words H.out (Int.tdiv (c0.byteV - 1) 2)).mono ?_); rintro en x5 ⟨A5, n5, rfl, hz_, hr_, hp_⟩; have RZ := Aside0.mk hz_; have RR := Aside0.mk hr_; have n0_ := Aside0.mk hp_; clear H hp_ hz_ hr_; have H := n0_; clear n0_) | ((with_reducible refine gate_op (u := .store 43 (.tmp 2) (.tmp 32)) rfl ?_); refine Same.wpList_store_row 43 (.tmp 2) (.tmp 32) rfl rfl rfl rfl H.out.h2 rfl (rec_info rfl) recs_one ?_; intro x9 h3_ h4_; have HF := Aside0.mk (HS.fill H.out h3_ h4_); have HB := Aside0.mk h3_; have HU := Aside0.mk h4_; clear h3_ h4_))
  refine bodyPost_ret (results_cell_row rfl _ _ b2 43 _ (0, 0) _ rfl HB.out Try.underlying43 rfl (rec_info rfl)) rfl ⟨A5, n5, ?_, ?_, ?_, ?_⟩
  · rw [HE.out]
  · rw [HE.out]; exact RZ.out
  · rw [HE.out]; exact row_out RR.out EU.out H.out (blk_lt EL.out) HU.out
  · rw [HE.out]; exact HF.out
theorem told_w2 {lo hi g : Nat} {c0 : Cu} {w : World} (h : PAt lo hi w g c0) (k1 : c0.byteV % 2 = 1) (k2 : ¬ 3 ≤ c0.byteV) :
    Calls Try.prog 38 #[.pointer (some ⟨g, 0, none⟩)] w fun en w' => ∃ A n, en = .returned (.agg (recC 0 0 0 (.slice A (told c0).2.f3.length n))) ∧ (told c0).2.f3.length ≤ n ∧ Row16 w.heap.size w'.heap.size w' A (told c0).2.f3 ∧ PAt lo hi w' g (told c0).1 ∧ Upd g w w' := by
  have HP := Aside0.mk h
  clear h
  have K1 := Aside0.mk k1
  have e1 : (c0.byteV % 2 == 1) = true := beq_iff_eq.2 k1
  have e2 : decide (3 ≤ c0.byteV) = false := decide_eq_false k2
  have K2 := Aside0.mk k2
  clear k2
  go_enter Try.func38, Try.ntmps38
  go_upto_region 1 with (first | ((with_reducible refine gate_dst (N := 2) rfl ?_); refine ev_rec rfl rfl ?_; intro b2 w1 hg_ h1_ h2_; have H := Aside0.mk (HS.start HP.out h2_ hg_ h1_); clear hg_ h1_ h2_))
  go_upto_region 2 with (first | (go_at_call 21; obtain ⟨l0, h0⟩ := Cu.byteV_bd (HS.good H.out); (with_reducible refine (HS.byte H.out).mono ?_); rintro en x1 ⟨rfl, hp_⟩; obtain ⟨c1, ec_⟩ : ∃ z, z = c0.byteS := ⟨_, rfl⟩; rw [← ec_] at hp_; have Ec1 := Aside0.mk ec_; clear ec_; have n0_ := Aside0.mk hp_; clear H hp_; have H := n0_; clear n0_))
  go_upto_region 3 with (first | (go_at_call 22; (with_reducible refine (HS.need H.out (false) 5).mono ?_); rintro en x2 ⟨rfl, hp_⟩; obtain ⟨c2, ec_⟩ : ∃ z, z = c1.need (false) 5 := ⟨_, rfl⟩; rw [← ec_] at hp_; have Ec2 := Aside0.mk ec_; clear ec_; have n0_ := Aside0.mk hp_; clear H hp_; have H := n0_; clear n0_))
  go_upto_region 4 with (first | (go_at_call 21; obtain ⟨l2, h2⟩ := Cu.byteV_bd (HS.good H.out); (with_reducible refine (HS.byte H.out).mono ?_); rintro en x3 ⟨rfl, hp_⟩; obtain ⟨c3, ec_⟩ : ∃ z, z = c2.byteS := ⟨_, rfl⟩; rw [← ec_] at hp_; have Ec3 := Aside0.mk ec_; clear ec_; have n0_ := Aside0.mk hp_; clear H hp_; have H := n0_; clear n0_) | (go_at_call 22; (with_reducible refine (HS.need H.out (c2.byteV == 6) 9).mono ?_); rintro en x4 ⟨rfl, hp_⟩; obtain ⟨c4, ec_⟩ : ∃ z, z = c3.need (c2.byteV == 6) 9 := ⟨_, rfl⟩; rw [← ec_] at hp_; have Ec4 := Aside0.mk ec_; clear ec_; have n0_ := Aside0.mk hp_; clear H hp_; have H := n0_; clear n0_))
  have HE : Aside0 (told c0 = (c4.wordsS ((c0.byteV - 1) / 2), ⟨0, 0, 0, c4.wordsV ((c0.byteV - 1) / 2)⟩)) := ⟨by
    have ek : (decide (c0.byteV % 2 = 1) && decide (3 ≤ c0.byteV) && decide (c0.byteV ≤ (c1.xs.length : Int))) = (false) := by have k2 := K2.out; simp [K1.out]; omega
    simp only [told]
    rw [tdiv_id (show 0 ≤ c0.byteV - 1 by have := K1.out; omega), ← Ec1.out, ek, ← Ec2.out, ← Ec3.out, ← Ec4.out]⟩
  have EU := Aside0.mk H.out.up
  have EL := Aside0.mk H.out.h2
  go_wp2_with (first | (go_at_call 59; (with_reducible refine (HS.words H.out ((c0.byteV - 1) / 2)).mono ?_); rintro en x5 ⟨A5, n5, rfl, hz_, hr_, hp_⟩; have RZ := Aside0.mk hz_; have RR := Aside0.mk hr_; have n0_ := Aside0.mk hp_; clear H hp_ hz_ hr_; have H := n0_; clear n0_) | ((with_reducible refine gate_op (u := .store 43 (.tmp 2) (.tmp 32)) rfl ?_); refine Same.wpList_store_row 43 (.tmp 2) (.tmp 32) rfl rfl rfl rfl H.out.h2 rfl (rec_info rfl) recs_one ?_; intro x9 h3_ h4_; have HF := Aside0.mk (HS.fill H.out h3_ h4_); have HB := Aside0.mk h3_; have HU := Aside0.mk h4_; clear h3_ h4_))
  refine bodyPost_ret (results_cell_row rfl _ _ b2 43 _ (0, 0) _ rfl HB.out Try.underlying43 rfl (rec_info rfl)) rfl ⟨A5, n5, ?_, ?_, ?_, ?_⟩
  · rw [HE.out]
  · rw [HE.out]; exact RZ.out
  · rw [HE.out]; exact row_out RR.out EU.out H.out (blk_lt EL.out) HU.out
  · rw [HE.out]; exact HF.out
theorem told_w3 {lo hi g : Nat} {c0 : Cu} {w : World} (h : PAt lo hi w g c0) (k1 : c0.byteV % 2 = 1) (k2 : 3 ≤ c0.byteV) :
    Calls Try.prog 38 #[.pointer (some ⟨g, 0, none⟩)] w fun en w' => ∃ A n, en = .returned (.agg (recC 0 0 0 (.slice A (told c0).2.f3.length n))) ∧ (told c0).2.f3.length ≤ n ∧ Row16 w.heap.size w'.heap.size w' A (told c0).2.f3 ∧ PAt lo hi w' g (told c0).1 ∧ Upd g w w' := by
  have HP := Aside0.mk h
  clear h
  have K1 := Aside0.mk k1
  have e1 : (c0.byteV % 2 == 1) = true := beq_iff_eq.2 k1
  have e2 : decide (3 ≤ c0.byteV) = true := decide_eq_true k2
  have K2 := Aside0.mk k2
  clear k2
  go_enter Try.func38, Try.ntmps38
  go_upto_region 1 with (first | ((with_reducible refine gate_dst (N := 2) rfl ?_); refine ev_rec rfl rfl ?_; intro b2 w1 hg_ h1_ h2_; have H := Aside0.mk (HS.start HP.out h2_ hg_ h1_); clear hg_ h1_ h2_))
  go_upto_region 2 with (first | (go_at_call 21; obtain ⟨l0, h0⟩ := Cu.byteV_bd (HS.good H.out); (with_reducible refine (HS.byte H.out).mono ?_); rintro en x1 ⟨rfl, hp_⟩; obtain ⟨c1, ec_⟩ : ∃ z, z = c0.byteS := ⟨_, rfl⟩; rw [← ec_] at hp_; have Ec1 := Aside0.mk ec_; clear ec_; have n0_ := Aside0.mk hp_; clear H hp_; have H := n0_; clear n0_))
  go_upto_region 3 with (first | (go_at_call 43; (with_reducible refine (HS.left H.out).mono ?_); rintro en x_ ⟨rfl, rfl⟩) | (go_at_call 22; (with_reducible refine (HS.need H.out (decide (c0.byteV ≤ (c1.xs.length : Int))) 5).mono ?_); rintro en x2 ⟨rfl, hp_⟩; obtain ⟨c2, ec_⟩ : ∃ z, z = c1.need (decide (c0.byteV ≤ (c1.xs.length : Int))) 5 := ⟨_, rfl⟩; rw [← ec_] at hp_; have Ec2 := Aside0.mk ec_; clear ec_; have n0_ := Aside0.mk hp_; clear H hp_; have H := n0_; clear n0_))
  go_upto_region 4 with (first | (go_at_call 21; obtain ⟨l2, h2⟩ := Cu.byteV_bd (HS.good H.out); (with_reducible refine (HS.byte H.out).mono ?_); rintro en x3 ⟨rfl, hp_⟩; obtain ⟨c3, ec_⟩ : ∃ z, z = c2.byteS := ⟨_, rfl⟩; rw [← ec_] at hp_; have Ec3 := Aside0.mk ec_; clear ec_; have n0_ := Aside0.mk hp_; clear H hp_; have H := n0_; clear n0_) | (go_at_call 22; (with_reducible refine (HS.need H.out (c2.byteV == 6) 9).mono ?_); rintro en x4 ⟨rfl, hp_⟩; obtain ⟨c4, ec_⟩ : ∃ z, z = c3.need (c2.byteV == 6) 9 := ⟨_, rfl⟩; rw [← ec_] at hp_; have Ec4 := Aside0.mk ec_; clear ec_; have n0_ := Aside0.mk hp_; clear H hp_; have H := n0_; clear n0_))
  have HE : Aside0 (told c0 = (c4.wordsS ((c0.byteV - 1) / 2), ⟨0, 0, 0, c4.wordsV ((c0.byteV - 1) / 2)⟩)) := ⟨by
    have ek : (decide (c0.byteV % 2 = 1) && decide (3 ≤ c0.byteV) && decide (c0.byteV ≤ (c1.xs.length : Int))) = (decide (c0.byteV ≤ (c1.xs.length : Int))) := by have k2 := K2.out; simp [K1.out]; omega
    simp only [told]
    rw [tdiv_id (show 0 ≤ c0.byteV - 1 by have := K1.out; omega), ← Ec1.out, ek, ← Ec2.out, ← Ec3.out, ← Ec4.out]⟩
  have EU := Aside0.mk H.out.up
  have EL := Aside0.mk H.out.h2
  go_wp2_with (first | (go_at_call 59; (with_reducible refine (HS.words H.out ((c0.byteV - 1) / 2)).mono ?_); rintro en x5 ⟨A5, n5, rfl, hz_, hr_, hp_⟩; have RZ := Aside0.mk hz_; have RR := Aside0.mk hr_; have n0_ := Aside0.mk hp_; clear H hp_ hz_ hr_; have H := n0_; clear n0_) | ((with_reducible refine gate_op (u := .store 43 (.tmp 2) (.tmp 32)) rfl ?_); refine Same.wpList_store_row 43 (.tmp 2) (.tmp 32) rfl rfl rfl rfl H.out.h2 rfl (rec_info rfl) recs_one ?_; intro x9 h3_ h4_; have HF := Aside0.mk (HS.fill H.out h3_ h4_); have HB := Aside0.mk h3_; have HU := Aside0.mk h4_; clear h3_ h4_))
  refine bodyPost_ret (results_cell_row rfl _ _ b2 43 _ (0, 0) _ rfl HB.out Try.underlying43 rfl (rec_info rfl)) rfl ⟨A5, n5, ?_, ?_, ?_, ?_⟩
  · rw [HE.out]
  · rw [HE.out]; exact RZ.out
  · rw [HE.out]; exact row_out RR.out EU.out H.out (blk_lt EL.out) HU.out
  · rw [HE.out]; exact HF.out
theorem told_any {lo hi g : Nat} {c0 : Cu} {w : World} (h : PAt lo hi w g c0) :
    Calls Try.prog 38 #[.pointer (some ⟨g, 0, none⟩)] w fun en w' => ∃ A n, en = .returned (.agg (recC 0 0 0 (.slice A (told c0).2.f3.length n))) ∧ (told c0).2.f3.length ≤ n ∧ Row16 w.heap.size w'.heap.size w' A (told c0).2.f3 ∧ PAt lo hi w' g (told c0).1 ∧ Upd g w w' := by
  by_cases k1 : c0.byteV % 2 = 1
  · by_cases k2 : 3 ≤ c0.byteV
    · exact told_w3 h k1 k2
    · exact told_w2 h k1 k2
  · exact told_w1 h k1
end Go.Proofs.Ytdjeekpgcjcffaa.Fil
end
section
namespace Go.Proofs.Ytdjeekpgcjcffaa.Fil
open Go.RowKit Go.Proofs.Ytdjeekpgcjcffaa.P Go.Proofs.Ytdjeekpgcjcffaa.E Go.Proofs.Ytdjeekpgcjcffaa.Cur Go.Proofs.Ytdjeekpgcjcffaa.Cu Go.Proofs.Ytdjeekpgcjcffaa.Same Go.Proofs.YtdjeekpgcjcffaaW.PrintWords Go.Proofs.YtdjeekpgcjcffaaW.PrintLast Go.Proofs.YtdjeekpgcjcffaaW.PrintMore
def wr.T2 : Bool × List (List Nat × List Nat) := (true, [([], []), ([], []), ([1], [1]), ([2], [2]), ([3], [3]), ([], []), ([5], [5]), ([4, 6], [4, 6]), ([0, 7, 6], [0, 7])])
def wr.B2 : List Nat := [0, 0, 2, 6, 14, 0, 32, 126, 255]
theorem wr.tab2 : rtab .any (opsOf Try.f40 2) = wr.T2 := by kernel_rfl
theorem wr.bits2 : waitsOk wr.T2.2 wr.B2 = true := by kernel_rfl
theorem head_bd {c : Cu} (h : c.good) : 0 ≤ (head c).2.2.2 ∧ (head c).2.2.2 < 65536 := by
  unfold head
  exact Cu.wordV_bd (Cu.good_need (Cu.good_wordS (Cu.good_need (Cu.good_wordS (Cu.good_need (Cu.good_byteS h) _ _)) _ _)) _ _)
theorem head_let {lo hi g : Nat} {c0 c1 : Cu} {f0 f1 f2 : Int} {w : World} (e : (c1, f0, f1, f2) = head c0) (h : PAt lo hi w g c0) :
    Calls Try.prog 35 #[.pointer (some ⟨g, 0, none⟩)] w fun en w' => en = .returned (.agg (recC f0 f1 f2 (.slice none 0 0))) ∧ PAt lo hi w' g c1 ∧ Upd g w w' := by
  have := head_any h
  rw [← e] at this
  exact this
theorem HS.row3 {w0 w w' : World} {g lo hi b2 b3 : Nat} {c : Cu} {x2 x3 cx : Array Value} (h : HS w0 g lo hi b2 b3 w c x2 x3) (hn : b2 ≠ b3) (h1 : w'.heap[b3]? = some (.cells cx 43 (0, 0))) (u : Up1 b3 w w') : HS w0 g lo hi b2 b3 w' c x2 cx := by
  have hh := h.cur.1.1
  exact ⟨h.cur.on u.kept (fun k e => by have := h.gl; omega) (fun e => by have := h.gl; omega), ⟨u.os.trans h.up.os, u.tape.trans h.up.tape, u.output.trans h.up.output, h.up.kept.then_ u.kept fun k e => .inr (by have := h.gl; omega)⟩, h.gl, blk_kept h.h2 u.kept (fun e => hn e), h1⟩
theorem up_set (w : World) (b i : Nat) (v : Value) : Up1 b w (w.setCell ⟨b, i, none⟩ v) := ⟨rfl, rfl, rfl, (Kept.refl w (fun k => k = b)).setCell (p := ⟨b, i, none⟩) (.inl rfl) v⟩
theorem row_out2 {w0 wa wb wc wd : World} {g b2 b3 : Nat} {A : Option Addr} {l : List Int} (h : Row16 wa.heap.size wb.heap.size wb A l) (u : Upd g w0 wa) (k1 : Up1 b3 wb wc) (h3 : b3 < wa.heap.size) (k2 : Up1 b2 wc wd) (h2 : b2 < wa.heap.size) : Row16 w0.heap.size wd.heap.size wd A l := by
  have := u.kept.1
  have := k1.kept.1
  have := k2.kept.1
  exact ((h.on (k1.kept.mono fun j hj => .inl (by omega))).on (k2.kept.mono fun j hj => .inl (by omega))).wide (by omega) (by omega)
theorem written_any {lo hi g : Nat} {c0 : Cu} {w : World} (h : PAt lo hi w g c0) :
    Calls Try.prog 40 #[.pointer (some ⟨g, 0, none⟩)] w fun en w' => ∃ A n, en = .returned (.agg (recC (written c0).2.f0 (written c0).2.f1 (written c0).2.f2 (.slice A (written c0).2.f3.length n))) ∧ (written c0).2.f3.length ≤ n ∧ Row16 w.heap.size w'.heap.size w' A (written c0).2.f3 ∧ PAt lo hi w' g (written c0).1 ∧ Upd g w w' := by
  have HP := Aside0.mk h
  clear h
  obtain ⟨⟨c1, f0, f1, f2⟩, eh_⟩ : ∃ z, z = head c0 := ⟨_, rfl⟩
  have HD := Aside0.mk eh_
  have hb_ := head_bd HP.out.2
  rw [← eh_] at hb_
  obtain ⟨l2, h2⟩ : 0 ≤ f2 ∧ f2 < 65536 := hb_
  clear eh_
  go_enter Try.func40, Try.ntmps40
  go_upto_region 1 with (first | ((with_reducible refine gate_dst (N := 2) rfl ?_); refine ev_rec rfl rfl ?_; intro b2 w1 hg_ h1_ h2_; have H := Aside0.mk (HS.start HP.out h2_ hg_ h1_); clear hg_ h1_ h2_))
  go_upto_region 2 with (first | (go_at_call 35; (with_reducible refine (head_let HD.out H.out.cur).mono ?_); rintro en x1 ⟨rfl, hp_, hu_⟩; have m0_ := Aside0.mk (H.out.stp hp_ hu_); clear H hp_ hu_; have H := m0_; clear m0_) | ((with_reducible refine gate_dst (N := 3) rfl ?_); refine ev_rec rfl rfl ?_; intro b3 w2 hg_ h1_ h2_; obtain ⟨n0_, n1_⟩ := HS.new H.out h2_ hg_ h1_; have NE := Aside0.mk n1_; have m0_ := Aside0.mk n0_; clear H n0_ n1_; have H := m0_; clear m0_; clear hg_ h1_ h2_) | ((with_reducible refine gate_op (u := .store 43 (.tmp 3) (.tmp 5)) rfl ?_); refine Same.wpList_store_row 43 (.tmp 3) (.tmp 5) rfl rfl rfl rfl H.out.h3 rfl (rec_info rfl) recs_one ?_; intro x9 h3_ h4_; have m0_ := Aside0.mk (HS.row3 H.out NE.out h3_ h4_); clear H h3_ h4_; have H := m0_; clear m0_))
  go_upto_region 2 with (fail)
  have n0_ := Aside0.mk (HS.drew H.out)
  clear H
  have H := n0_
  clear n0_
  have wk := wrap64_id (x := f2) (by omega) (by omega)
  have wkb : IntKind.i64.wrap (f2) = f2 := by rw [i64_w]; exact wk
  have wk2 := wrap64_id (x := 2 * f2) (by omega) (by omega)
  have wk2b : IntKind.i64.wrap (2 * f2) = 2 * f2 := by rw [i64_w]; exact wk2
  refine start_ (n := 9) (S := fun w' => w'.cell? ⟨b3, 2, none⟩ = some (.int .u16 f2)) (ds := []) (bm 9 0) (by as_aux_lemma => kernel_rfl) rfl (by as_aux_lemma => kernel_rfl) ((show World.cell? _ _ = some (Value.int .u16 f2) from (HS.at3 H.out 2).1)) (fun hHeld => ?_)
  refine with_tabW wr.tab2 wr.bits2 (fun HT_ HW_ => ?_)
  refine pure_ (i := 0) (N := some 6) (v := ?_) (a' := ?_) (bm 9 1) rfl rfl (any_of HT_.out (by as_aux_lemma => kernel_rfl)) (fun _ _ _ h => h) (Or.inl ⟨by rfl, ?_⟩) ?_ ?_
  rotate_left
  · intro w'
    go_simp
    with_reducible rfl
  rotate_left
  · simp only [Act.put, List.setIfInBounds_toArray, List.set_cons_zero, List.set_cons_succ, i64_w, i32_w]
    rfl
  refine pure_ (i := 1) (N := some 7) (v := ?_) (a' := ?_) (bm 9 3) rfl rfl (any_of HT_.out (by as_aux_lemma => kernel_rfl)) (fun _ _ _ h => h) (Or.inl ⟨by rfl, ?_⟩) ?_ ?_
  rotate_left
  · intro w'
    go_simp
    with_reducible rfl
  rotate_left
  · simp only [Act.put, List.setIfInBounds_toArray, List.set_cons_zero, List.set_cons_succ, i64_w, i32_w]
    rfl
  refine pure_ (i := 5) (N := some 11) (v := ?_) (a' := ?_) (bm 9 35) rfl rfl (any_of HT_.out (by as_aux_lemma => kernel_rfl)) (fun _ _ _ h => h) (Or.inl ⟨by rfl, ?_⟩) ?_ ?_
  rotate_left
  · intro w'
    go_simp
    with_reducible rfl
  rotate_left
  · simp only [Act.put, List.setIfInBounds_toArray, List.set_cons_zero, List.set_cons_succ, i64_w, i32_w]
    rfl
  refine take_ (i := 2) (N := some 8) (v := ?_) (a' := ?_) (bm 9 39) rfl rfl (take_ofW HT_.out HW_.out (by as_aux_lemma => kernel_rfl)) (fun _ _ _ h => h) (Or.inl ⟨by rfl, ?_⟩) hHeld ?_ ?_
  rotate_left
  · intro w' s0
    go_simp
    with_reducible rfl
  rotate_left
  · simp only [Act.put, List.setIfInBounds_toArray, List.set_cons_zero, List.set_cons_succ, i64_w, i32_w]
    rfl
  refine pure_ (i := 3) (N := some 9) (v := ?_) (a' := ?_) (bm 9 47) rfl rfl (any_of HT_.out (by as_aux_lemma => kernel_rfl)) (fun _ _ _ h => h) (Or.inl ⟨by rfl, ?_⟩) ?_ ?_
  rotate_left
  · intro w'
    go_simp
    with_reducible rfl
  rotate_left
  · simp only [Act.put, List.setIfInBounds_toArray, List.set_cons_zero, List.set_cons_succ, i64_w, i32_w]
    rfl
  refine pure_ (i := 4) (N := some 10) (v := ?_) (a' := ?_) (bm 9 63) rfl rfl (any_of HT_.out (by as_aux_lemma => kernel_rfl)) (fun _ _ _ h => h) (Or.inl ⟨by rfl, ?_⟩) ?_ ?_
  rotate_left
  · intro w'
    go_simp
    with_reducible rfl
  rotate_left
  · simp only [Act.put, List.setIfInBounds_toArray, List.set_cons_zero, List.set_cons_succ, i64_w, i32_w]
    rfl
  refine one_ (i := 6) (N := some 12) (bm 9 127) rfl rfl (one_of HT_.out (by as_aux_lemma => kernel_rfl)) (by as_aux_lemma => decide) (fun K hK => ?_)
  refine goes_ Try.func43 (by as_aux_lemma => kernel_rfl) rfl #[.pointer (some ⟨g, 0, none⟩)] (by rfl) rfl rfl (by simp only [List.map_toArray, List.map_cons, List.map_nil]; rfl) ?_
  with_reducible refine (HS.left H.out).mono ?_
  rintro en y1 ⟨rfl, rfl⟩
  refine ⟨_, rfl, ?_⟩
  refine hK.out _ _ ((show World.cell? _ _ = some (Value.int .u16 f2) from (HS.at3 H.out 2).1)) (fun hHeld => ?_)
  clear hK K
  refine norm_ (a' := ?_) ?_ ?_
  rotate_left
  · show Act.put _ (some 12) _ = _
    simp only [Act.put, List.setIfInBounds_toArray, List.set_cons_zero, List.set_cons_succ, i64_w, i32_w]
    rfl
  refine pure_ (i := 7) (N := some 13) (v := ?_) (a' := ?_) (bm 9 255) rfl rfl (any_of HT_.out (by as_aux_lemma => kernel_rfl)) (fun _ _ _ h => h) (Or.inl ⟨by rfl, ?_⟩) ?_ ?_
  rotate_left
  · intro w'
    go_simp
    with_reducible rfl
  rotate_left
  · simp only [Act.put, List.setIfInBounds_toArray, List.set_cons_zero, List.set_cons_succ, i64_w, i32_w]
    rfl
  refine one_ (i := 8) (N := some 14) (bm 9 511) rfl rfl (one_of HT_.out (by as_aux_lemma => kernel_rfl)) (by as_aux_lemma => decide) (fun K hK => ?_)
  refine goes_ Try.func22 (by as_aux_lemma => kernel_rfl) rfl #[.pointer (some ⟨g, 0, none⟩), .bool (decide (2 * f2 ≤ (c1.xs.length : Int))), .int .i64 5] (by rfl) rfl rfl (by simp only [List.map_toArray, List.map_cons, List.map_nil]; rfl) ?_
  with_reducible refine (HS.need H.out (decide (2 * f2 ≤ (c1.xs.length : Int))) 5).mono ?_
  rintro en x3 ⟨rfl, hp_⟩
  obtain ⟨c2, ec_⟩ : ∃ z, z = c1.need (decide (2 * f2 ≤ (c1.xs.length : Int))) 5 := ⟨_, rfl⟩
  rw [← ec_] at hp_
  have Ec2 := Aside0.mk ec_
  clear ec_
  have n0_ := Aside0.mk hp_
  clear H hp_
  have H := n0_
  clear n0_
  refine ⟨_, rfl, ?_⟩
  refine hK.out _ _ ((show World.cell? _ _ = some (Value.int .u16 f2) from (HS.at3 H.out 2).1)) (fun hHeld => ?_)
  clear hK K
  refine norm_ (a' := ?_) ?_ ?_
  rotate_left
  · show Act.put _ (some 14) _ = _
    simp only [Act.put, List.setIfInBounds_toArray, List.set_cons_zero, List.set_cons_succ, i64_w, i32_w]
    rfl
  refine done_ (done_of HT_.out (by as_aux_lemma => kernel_rfl)) ?_
  have k2 : World.cell? _ _ = some (Value.int .u16 f2) := (HS.at3 H.out 2).1
  have EU := Aside0.mk H.out.up
  have EL := Aside0.mk H.out.h2
  have EL3 := Aside0.mk H.out.h3
  go_upto_region 4 with (first | (go_at_call 59; (with_reducible refine (HS.words H.out f2).mono ?_); rintro en x5 ⟨A5, n5, rfl, hz_, hr_, hp_⟩; have RZ := Aside0.mk hz_; have RR := Aside0.mk hr_; have k3 := (HS.at3 hp_ 3).1; have g3 := (HS.at3 hp_ 3).2; have n0_ := Aside0.mk hp_; clear H hp_ hz_ hr_ k2; have H := n0_; clear n0_))
  have n0_ := Aside0.mk (HS.put3 H.out NE.out (.slice A5 (c2.wordsV f2).length n5))
  have UP := Aside0.mk (up_set x5 b3 3 (.slice A5 (c2.wordsV f2).length n5))
  clear H k3 g3
  have H := n0_
  clear n0_
  go_wp2_with (first | ((with_reducible refine gate_dst (N := 21) rfl ?_); refine wpList_load_row rfl 43 (.tmp 3) rfl b3 rfl 43 _ (0, 0) _ H.out.h3 Try.underlying43 rfl (rec_info rfl) ?_) | ((with_reducible refine gate_op (u := .store 43 (.tmp 2) (.tmp 21)) rfl ?_); refine Same.wpList_store_row 43 (.tmp 2) (.tmp 21) rfl rfl rfl rfl H.out.h2 rfl (rec_info rfl) recs_one ?_; intro x9 h3_ h4_; have HF := Aside0.mk (HS.fill H.out h3_ h4_); have HB := Aside0.mk h3_; have HU := Aside0.mk h4_; clear h3_ h4_))
  have HE : Aside0 (written c0 = (c2.wordsS f2, ⟨f0, f1, f2, c2.wordsV f2⟩)) := ⟨by simp only [written]; rw [← HD.out, ← Ec2.out]⟩
  refine bodyPost_ret (results_cell_row rfl _ _ b2 43 _ (0, 0) _ rfl HB.out Try.underlying43 rfl (rec_info rfl)) rfl ⟨A5, n5, ?_, ?_, ?_, ?_⟩
  · rw [HE.out]
  · rw [HE.out]; exact RZ.out
  · rw [HE.out]; exact row_out2 RR.out EU.out UP.out (blk_lt EL3.out) HU.out (blk_lt EL.out)
  · rw [HE.out]; exact HF.out
def SumAt (w : World) (sb : Nat) (s : Int) : Prop := w.heap[sb]? = some (.cells #[.int .i64 s] 3 (0, 0))
structure UpdS (S : Nat → Prop) (w w' : World) : Prop where
  os : w'.os = w.os
  tape : w'.tape = w.tape
  output : w'.output = w.output
  kept : Kept w w' S
theorem UpdS.of_upd {g : Nat} {S : Nat → Prop} {w w' : World} (h : Upd g w w') (hs : S g) : UpdS S w w' := ⟨h.os, h.tape, h.output, h.kept.mono fun k e => e ▸ hs⟩
theorem UpdS.trans {S : Nat → Prop} {a b c : World} (h : UpdS S a b) (k : UpdS S b c) : UpdS S a c := ⟨k.os.trans h.os, k.tape.trans h.tape, k.output.trans h.output, h.kept.then_ k.kept (fun _ h2 => .inl h2)⟩
theorem UpdS.up1 {S : Nat → Prop} {a b c : World} {g : Nat} (h : UpdS S a b) (k : Up1 g b c) (hg : S g ∨ a.heap.size ≤ g) : UpdS S a c := ⟨k.os.trans h.os, k.tape.trans h.tape, k.output.trans h.output, h.kept.then_ k.kept (fun j e => e ▸ hg)⟩
theorem UpdS.below {S : Nat → Prop} {B : Nat} {w w' : World} (h : UpdS S w w') (hB : ∀ k, S k → B ≤ k) (hs : B ≤ w.heap.size) : Below B w w' := ⟨h.os, h.tape, h.output, h.kept.1, fun k hk => h.kept.2 k (by omega) (fun e => by have := hB k e; omega)⟩
structure HT (w0 : World) (g lo hi b2 b3 sb : Nat) (w : World) (c : Cu) (x2 x3 : Array Value) (s : Int) : Prop where
  cur : PAt lo hi w g c
  up : UpdS (fun k => k = g ∨ k = sb) w0 w
  gl : g < w0.heap.size ∧ sb < w0.heap.size ∧ w0.heap.size ≤ b2 ∧ w0.heap.size ≤ b3
  h2 : w.heap[b2]? = some (.cells x2 43 (0, 0))
  h3 : w.heap[b3]? = some (.cells x3 43 (0, 0))
  sm : SumAt w sb s
  ne : g ≠ sb ∧ (sb < lo ∨ hi ≤ sb)
section
variable {w0 w w' : World} {g lo hi b2 b3 sb : Nat} {c c' : Cu} {x2 x3 cx : Array Value} {s : Int}
theorem HS.sum (h : HS w0 g lo hi b2 b3 w c x2 x3) (hs : SumAt w sb s) (hl : sb < w0.heap.size) (hn : g ≠ sb ∧ (sb < lo ∨ hi ≤ sb)) (s1 : Int) : HT w0 g lo hi b2 b3 sb (w.setCell ⟨sb, 0, none⟩ (.int .i64 s1)) c x2 x3 s1 := by
  have u := up_set w sb 0 (.int .i64 s1)
  exact ⟨h.cur.on u.kept (fun k e => by rw [e]; exact hn.2) hn.1, (UpdS.of_upd h.up (.inl rfl)).up1 u (.inl (.inr rfl)), ⟨h.gl.1, hl, h.gl.2.1, h.gl.2.2⟩, blk_kept h.h2 u.kept (by have := h.gl; omega), blk_kept h.h3 u.kept (by have := h.gl; omega), blk_put hs 0 _ rfl, hn⟩
theorem HT.need (h : HT w0 g lo hi b2 b3 sb w c x2 x3 s) (ok : Bool) (f : Int) : Calls Try.prog 22 #[.pointer (some ⟨g, 0, none⟩), .bool ok, .int .i64 f] w fun en w' => en = .returned (.tuple #[]) ∧ HT w0 g lo hi b2 b3 sb w' (c.need ok f) x2 x3 s :=
  (p_need h.cur ok f).mono fun en w' ⟨e, p, u⟩ => ⟨e, p, h.up.trans (UpdS.of_upd u (.inl rfl)), h.gl, blk_kept h.h2 u.kept (by have := h.gl; omega), blk_kept h.h3 u.kept (by have := h.gl; omega), blk_kept h.sm u.kept (fun e => h.ne.1 e.symm), h.ne⟩
theorem HT.fill (h : HT w0 g lo hi b2 b3 sb w c x2 x3 s) (h1 : w'.heap[b2]? = some (.cells cx 43 (0, 0))) (u : Up1 b2 w w') : PAt lo hi w' g c ∧ SumAt w' sb s ∧ UpdS (fun k => k = g ∨ k = sb) w0 w' := by
  have hh := h.cur.1.1
  exact ⟨h.cur.on u.kept (fun k e => by have := h.gl; omega) (fun e => by have := h.gl; omega), blk_kept h.sm u.kept (by have := h.gl; omega), h.up.up1 u (.inr h.gl.2.2.1)⟩
end
theorem asked_any {lo hi g sb : Nat} {c0 : Cu} {s : Int} {w : World} (h : PAt lo hi w g c0) (hs : SumAt w sb s) (hn : g ≠ sb ∧ (sb < lo ∨ hi ≤ sb)) (hb : 0 ≤ s ∧ s ≤ 245) :
    Calls Try.prog 34 #[.pointer (some ⟨g, 0, none⟩), .pointer (some ⟨sb, 0, none⟩)] w fun en w' => en = .returned (.agg (recC (asked s c0).2.1.f0 (asked s c0).2.1.f1 (asked s c0).2.1.f2 (.slice none 0 0))) ∧ PAt lo hi w' g (asked s c0).1 ∧ SumAt w' sb (asked s c0).2.2 ∧ UpdS (fun k => k = g ∨ k = sb) w w' := by
  have HP := Aside0.mk h
  have HSM := Aside0.mk hs
  have HNE := Aside0.mk hn
  have HLT := Aside0.mk (blk_lt hs)
  obtain ⟨s0, s9⟩ := hb
  clear h hs hn
  obtain ⟨⟨c1, f0, f1, f2⟩, eh_⟩ : ∃ z, z = head c0 := ⟨_, rfl⟩
  have HD := Aside0.mk eh_
  have hb_ := head_bd HP.out.2
  rw [← eh_] at hb_
  obtain ⟨l2, h2⟩ : 0 ≤ f2 ∧ f2 < 65536 := hb_
  clear eh_
  go_enter Try.func34, Try.ntmps34
  go_upto_region 1 with (first | ((with_reducible refine gate_dst (N := 3) rfl ?_); refine ev_rec rfl rfl ?_; intro b2 w1 hg_ h1_ h2_; have H := Aside0.mk (HS.start HP.out h2_ hg_ h1_); have m1_ := Aside0.mk (show SumAt _ sb s from blk_below HSM.out h2_); clear HSM; have HSM := m1_; clear m1_; clear hg_ h1_ h2_))
  go_upto_region 2 with (first | (go_at_call 35; (with_reducible refine (head_let HD.out H.out.cur).mono ?_); rintro en x1 ⟨rfl, hp_, hu_⟩; have m1_ := Aside0.mk (show SumAt _ sb s from blk_kept HSM.out hu_.kept (fun e => HNE.out.1 e.symm)); clear HSM; have HSM := m1_; clear m1_; have m0_ := Aside0.mk (H.out.stp hp_ hu_); clear H hp_ hu_; have H := m0_; clear m0_) | ((with_reducible refine gate_dst (N := 4) rfl ?_); refine ev_rec rfl rfl ?_; intro b3 w2 hg_ h1_ h2_; obtain ⟨n0_, n1_⟩ := HS.new H.out h2_ hg_ h1_; have NE := Aside0.mk n1_; have m0_ := Aside0.mk n0_; clear H n0_ n1_; have H := m0_; clear m0_; have m1_ := Aside0.mk (show SumAt _ sb s from blk_below HSM.out h2_); clear HSM; have HSM := m1_; clear m1_; clear hg_ h1_ h2_) | ((with_reducible refine gate_op (u := .store 43 (.tmp 4) (.tmp 6)) rfl ?_); refine Same.wpList_store_row 43 (.tmp 4) (.tmp 6) rfl rfl rfl rfl H.out.h3 rfl (rec_info rfl) recs_one ?_; intro x9 h3_ h4_; have m0_ := Aside0.mk (HS.row3 H.out NE.out h3_ h4_); have m1_ := Aside0.mk (show SumAt _ sb s from blk_kept HSM.out h4_.kept (by have := H.out.gl; have := HLT.out; omega)); clear HSM; have HSM := m1_; clear m1_; clear H h3_ h4_; have H := m0_; clear m0_))
  have k2 : World.cell? _ _ = some (Value.int .u16 f2) := (HS.at3 H.out 2).1
  have ks : World.cell? _ ⟨sb, 0, none⟩ = some (Value.int .i64 s) := blk_cell HSM.out 0
  have fs : World.frozen? _ ⟨sb, 0, none⟩ = false := blk_frozen HSM.out 0
  go_upto_region 3 with (fail)
  have n0_ := Aside0.mk (HS.sum H.out HSM.out HLT.out HNE.out (s + (2 + 2 * f2)))
  clear H k2 ks fs HSM
  have H := n0_
  clear n0_
  have ks : World.cell? _ ⟨sb, 0, none⟩ = some (Value.int .i64 (s + (2 + 2 * f2))) := blk_cell H.out.sm 0
  go_upto_region 4 with (first | (go_at_call 22; (with_reducible refine (HT.need H.out (decide (s + (2 + 2 * f2) ≤ 245)) 5).mono ?_); rintro en x4 ⟨rfl, hp_⟩; obtain ⟨c2, ec_⟩ : ∃ z, z = c1.need (decide (s + (2 + 2 * f2) ≤ 245)) 5 := ⟨_, rfl⟩; rw [← ec_] at hp_; have Ec2 := Aside0.mk ec_; clear ec_; have n0_ := Aside0.mk hp_; clear H hp_ ks; have H := n0_; clear n0_))
  go_wp2_with (first | ((with_reducible refine gate_dst (N := 18) rfl ?_); refine wpList_load_row rfl 43 (.tmp 4) rfl b3 rfl 43 _ (0, 0) _ H.out.h3 Try.underlying43 rfl (rec_info rfl) ?_) | ((with_reducible refine gate_op (u := .store 43 (.tmp 3) (.tmp 18)) rfl ?_); refine Same.wpList_store_row 43 (.tmp 3) (.tmp 18) rfl rfl rfl rfl H.out.h2 rfl (rec_info rfl) recs_one ?_; intro x9 h3_ h4_; have HF := Aside0.mk (HT.fill H.out h3_ h4_); have HB := Aside0.mk h3_; have HU := Aside0.mk h4_; clear h3_ h4_))
  have HE : Aside0 (asked s c0 = (c2, ⟨f0, f1, f2, []⟩, s + (2 + 2 * f2))) := ⟨by simp only [asked]; rw [← HD.out, ← Ec2.out]⟩
  refine bodyPost_ret (results_cell_row rfl _ _ b2 43 _ (0, 0) _ rfl HB.out Try.underlying43 rfl (rec_info rfl)) rfl ⟨?_, ?_⟩
  · rw [HE.out]
  · rw [HE.out]; exact HF.out
end Go.Proofs.Ytdjeekpgcjcffaa.Fil
end
section
namespace Go.Proofs.Ytdjeekpgcjcffaa.Fil
open Go.RowKit Go.Proofs.Ytdjeekpgcjcffaa.P Go.Proofs.Ytdjeekpgcjcffaa.E Go.Proofs.Ytdjeekpgcjcffaa.Cur Go.Proofs.Ytdjeekpgcjcffaa.Cu Go.Proofs.Ytdjeekpgcjcffaa.Same Go.Proofs.YtdjeekpgcjcffaaW.PrintWords Go.Proofs.YtdjeekpgcjcffaaW.PrintLast Go.Proofs.YtdjeekpgcjcffaaW.PrintMore
def may0 (n : Int) : Bool := decide (7 ≤ n) && decide (n ≤ 245) && decide (n % 7 = 0)
def may1 (n : Int) : Bool := decide (4 ≤ n) && decide (n ≤ 245)
def may2 (n : Int) : Bool := decide (9 ≤ n) && decide (n ≤ 251)
theorem may0_any {n : Int} (h0 : 0 ≤ n) (h1 : n < 256) (w : World) : Calls Try.prog 36 #[.int .i64 n] w fun en w' => en = .returned (.bool (may0 n)) ∧ Below w.heap.size w w' := by
  go_enter Try.func36, Try.ntmps36
  go_wp2
  all_goals go_ret
  all_goals refine ⟨?_, Below.refl _ _⟩
  all_goals (simp only [may0]; congr 2)
  · rename_i a b
    rw [decide_eq_true a, decide_eq_true b]
    rfl
  · simp; omega
  · simp; omega
theorem may1_any {n : Int} (h0 : 0 ≤ n) (h1 : n < 256) (w : World) : Calls Try.prog 37 #[.int .i64 n] w fun en w' => en = .returned (.bool (may1 n)) ∧ Below w.heap.size w w' := by
  go_enter Try.func37, Try.ntmps37
  go_wp2
  all_goals go_ret
  all_goals refine ⟨?_, Below.refl _ _⟩
  all_goals (simp only [may1]; congr 2; simp <;> omega)
theorem may2_any {n : Int} (h0 : 0 ≤ n) (h1 : n < 256) (w : World) : Calls Try.prog 39 #[.int .i64 n] w fun en w' => en = .returned (.bool (may2 n)) ∧ Below w.heap.size w w' := by
  go_enter Try.func39, Try.ntmps39
  go_wp2
  all_goals go_ret
  all_goals refine ⟨?_, Below.refl _ _⟩
  all_goals (simp only [may2]; congr 2; simp <;> omega)
theorem rules_0 (w : World) : Calls Try.prog 19 #[.int .i64 0, .int .u8 20] w fun en w' => ∃ sb, en = .returned (.tuple #[.agg #[.func (.func 36) #[] #[], .func (.func 34) #[] #[.pointer (some ⟨sb, 0, none⟩)]], .bool true]) ∧ w.heap.size ≤ sb ∧ SumAt w' sb 0 ∧ Below w.heap.size w w' := by
  go_enter Try.func19, Try.ntmps19
  go_wp2
  have hb_ := blk_new w (.cells #[Value.func (.func 36) #[] #[], .func (.func 34) #[] #[.pointer (some ⟨w.heap.size + 1, 0, none⟩)]] 51 (0, 0))
  have h2_ := below_alloc (Below.refl (w.alloc (.cells #[Value.func (.func 36) #[] #[], .func (.func 34) #[] #[.pointer (some ⟨w.heap.size + 1, 0, none⟩)]] 51 (0, 0))).heap.size _) (.cells #[Value.int .i64 0] 3 (0, 0))
  have h3_ := below_alloc (Below.refl w.heap.size w) (.cells #[Value.func (.func 36) #[] #[], .func (.func 34) #[] #[.pointer (some ⟨w.heap.size + 1, 0, none⟩)]] 51 (0, 0))
  refine bodyPost_ret (results_ct rfl _ _ w.heap.size 51 _ (0, 0) _ rfl (blk_below hb_ h2_) Try.underlying51 rfl (by kernel_rfl)) rfl ⟨w.heap.size + 1, rfl, by omega, ?_, h3_.trans (h2_.mono (by simp))⟩
  have := blk_new (w.alloc (.cells #[Value.func (.func 36) #[] #[], .func (.func 34) #[] #[.pointer (some ⟨w.heap.size + 1, 0, none⟩)]] 51 (0, 0))) (.cells #[Value.int .i64 0] 3 (0, 0))
  rw [World.size_alloc] at this
  exact this
theorem rules_1 (w : World) : Calls Try.prog 19 #[.int .i64 1, .int .u8 20] w fun en w' => ∃ sb, en = .returned (.tuple #[.agg #[.func (.func 37) #[] #[], .func (.func 38) #[] #[]], .bool true]) ∧ w.heap.size ≤ sb ∧ SumAt w' sb 0 ∧ Below w.heap.size w w' := by
  go_enter Try.func19, Try.ntmps19
  go_wp2
  have hb_ := blk_new w (.cells #[Value.func (.func 37) #[] #[], .func (.func 38) #[] #[]] 51 (0, 0))
  have h2_ := below_alloc (Below.refl (w.alloc (.cells #[Value.func (.func 37) #[] #[], .func (.func 38) #[] #[]] 51 (0, 0))).heap.size _) (.cells #[Value.int .i64 0] 3 (0, 0))
  have h3_ := below_alloc (Below.refl w.heap.size w) (.cells #[Value.func (.func 37) #[] #[], .func (.func 38) #[] #[]] 51 (0, 0))
  refine bodyPost_ret (results_ct rfl _ _ w.heap.size 51 _ (0, 0) _ rfl (blk_below hb_ h2_) Try.underlying51 rfl (by kernel_rfl)) rfl ⟨w.heap.size + 1, rfl, by omega, ?_, h3_.trans (h2_.mono (by simp))⟩
  have := blk_new (w.alloc (.cells #[Value.func (.func 37) #[] #[], .func (.func 38) #[] #[]] 51 (0, 0))) (.cells #[Value.int .i64 0] 3 (0, 0))
  rw [World.size_alloc] at this
  exact this
theorem rules_20 (w : World) : Calls Try.prog 19 #[.int .i64 0, .int .u8 21] w fun en w' => ∃ sb, en = .returned (.tuple #[.agg #[.func (.func 39) #[] #[], .func (.func 40) #[] #[]], .bool true]) ∧ w.heap.size ≤ sb ∧ SumAt w' sb 0 ∧ Below w.heap.size w w' := by
  go_enter Try.func19, Try.ntmps19
  go_wp2
  have hb_ := blk_new w (.cells #[Value.func (.func 39) #[] #[], .func (.func 40) #[] #[]] 51 (0, 0))
  have h2_ := below_alloc (Below.refl (w.alloc (.cells #[Value.func (.func 39) #[] #[], .func (.func 40) #[] #[]] 51 (0, 0))).heap.size _) (.cells #[Value.int .i64 0] 3 (0, 0))
  have h3_ := below_alloc (Below.refl w.heap.size w) (.cells #[Value.func (.func 39) #[] #[], .func (.func 40) #[] #[]] 51 (0, 0))
  refine bodyPost_ret (results_ct rfl _ _ w.heap.size 51 _ (0, 0) _ rfl (blk_below hb_ h2_) Try.underlying51 rfl (by kernel_rfl)) rfl ⟨w.heap.size + 1, rfl, by omega, ?_, h3_.trans (h2_.mono (by simp))⟩
  have := blk_new (w.alloc (.cells #[Value.func (.func 39) #[] #[], .func (.func 40) #[] #[]] 51 (0, 0))) (.cells #[Value.int .i64 0] 3 (0, 0))
  rw [World.size_alloc] at this
  exact this
theorem rules_21 (w : World) : Calls Try.prog 19 #[.int .i64 1, .int .u8 21] w fun en w' => ∃ sb, en = .returned (.tuple #[.agg #[.func (.func 39) #[] #[], .func (.func 40) #[] #[]], .bool true]) ∧ w.heap.size ≤ sb ∧ SumAt w' sb 0 ∧ Below w.heap.size w w' := by
  go_enter Try.func19, Try.ntmps19
  go_wp2
  have hb_ := blk_new w (.cells #[Value.func (.func 39) #[] #[], .func (.func 40) #[] #[]] 51 (0, 0))
  have h2_ := below_alloc (Below.refl (w.alloc (.cells #[Value.func (.func 39) #[] #[], .func (.func 40) #[] #[]] 51 (0, 0))).heap.size _) (.cells #[Value.int .i64 0] 3 (0, 0))
  have h3_ := below_alloc (Below.refl w.heap.size w) (.cells #[Value.func (.func 39) #[] #[], .func (.func 40) #[] #[]] 51 (0, 0))
  refine bodyPost_ret (results_ct rfl _ _ w.heap.size 51 _ (0, 0) _ rfl (blk_below hb_ h2_) Try.underlying51 rfl (by kernel_rfl)) rfl ⟨w.heap.size + 1, rfl, by omega, ?_, h3_.trans (h2_.mono (by simp))⟩
  have := blk_new (w.alloc (.cells #[Value.func (.func 39) #[] #[], .func (.func 40) #[] #[]] 51 (0, 0))) (.cells #[Value.int .i64 0] 3 (0, 0))
  rw [World.size_alloc] at this
  exact this
theorem rules_no0 {code : Int} (h1 : code ≠ 20) (h2 : code ≠ 21) (w : World) : Calls Try.prog 19 #[.int .i64 0, .int .u8 code] w fun en w' => en = .returned (.tuple #[.agg #[Value.nilFunc, Value.nilFunc], .bool false]) ∧ Below w.heap.size w w' := by
  have e1 : (code == 20) = false := by simpa using h1
  have e2 : (code == 21) = false := by simpa using h2
  clear h1 h2
  go_enter Try.func19, Try.ntmps19
  go_wp2
  have hb_ := blk_new w (.cells #[Value.nilFunc, Value.nilFunc] 51 (0, 0))
  have h2_ := below_alloc (Below.refl (w.alloc (.cells #[Value.nilFunc, Value.nilFunc] 51 (0, 0))).heap.size _) (.cells #[Value.int .i64 0] 3 (0, 0))
  have h3_ := below_alloc (Below.refl w.heap.size w) (.cells #[Value.nilFunc, Value.nilFunc] 51 (0, 0))
  exact bodyPost_ret (results_ct rfl _ _ w.heap.size 51 _ (0, 0) _ rfl (blk_below hb_ h2_) Try.underlying51 rfl (by kernel_rfl)) rfl ⟨rfl, h3_.trans (h2_.mono (by simp))⟩
theorem rules_no1 {code : Int} (h1 : code ≠ 20) (h2 : code ≠ 21) (w : World) : Calls Try.prog 19 #[.int .i64 1, .int .u8 code] w fun en w' => en = .returned (.tuple #[.agg #[Value.nilFunc, Value.nilFunc], .bool false]) ∧ Below w.heap.size w w' := by
  have e1 : (code == 20) = false := by simpa using h1
  have e2 : (code == 21) = false := by simpa using h2
  clear h1 h2
  go_enter Try.func19, Try.ntmps19
  go_wp2
  have hb_ := blk_new w (.cells #[Value.nilFunc, Value.nilFunc] 51 (0, 0))
  have h2_ := below_alloc (Below.refl (w.alloc (.cells #[Value.nilFunc, Value.nilFunc] 51 (0, 0))).heap.size _) (.cells #[Value.int .i64 0] 3 (0, 0))
  have h3_ := below_alloc (Below.refl w.heap.size w) (.cells #[Value.nilFunc, Value.nilFunc] 51 (0, 0))
  exact bodyPost_ret (results_ct rfl _ _ w.heap.size 51 _ (0, 0) _ rfl (blk_below hb_ h2_) Try.underlying51 rfl (by kernel_rfl)) rfl ⟨rfl, h3_.trans (h2_.mono (by simp))⟩
end Go.Proofs.Ytdjeekpgcjcffaa.Fil
end
section
namespace Go.Proofs.Ytdjeekpgcjcffaa.Fil
open Go.RowKit Go.Proofs.Ytdjeekpgcjcffaa.P Go.Proofs.Ytdjeekpgcjcffaa.E Go.Proofs.Ytdjeekpgcjcffaa.Cur Go.Proofs.Ytdjeekpgcjcffaa.Cu Go.Proofs.Ytdjeekpgcjcffaa.Same Go.Proofs.YtdjeekpgcjcffaaW.PrintWords Go.Proofs.YtdjeekpgcjcffaaW.PrintLast Go.Proofs.YtdjeekpgcjcffaaW.PrintMore
attribute [local go_sem] Oper.semAt_some
abbrev Rdp := Int → Cu → Cu × S43 × Int
def partsG (rd : Rdp) : Nat → Int → Cu → Cu × List S43
  | 0, _, c => (c, [])
  | k + 1, s, c => if c.xs = [] ∨ c.e ≠ 0 then (c, []) else ((partsG rd k (rd s c).2.2 (rd s c).1).1, (rd s c).2.1 :: (partsG rd k (rd s c).2.2 (rd s c).1).2)
def codeC (code : Int) : Array Value := #[.int .u8 code, .int .u8 0, .int .u16 0, .int .u16 0, .int .u16 0, .int .u16 0, .int .u16 0, .int .u16 0, .int .u16 0, .int .u16 0, .int .u16 0, .int .u16 0, .slice none 0 0, .slice none 0 0, .slice none 0 0, .slice none 0 0, .int .u8 0, .int .u8 0, .int .u8 0, .int .u8 0, .int .u8 0, .slice none 0 0]
theorem codeC_is {code : Int} (h : 0 ≤ code ∧ code < 256) (W : World) : IsMsg W (codeC code) { zeroM with code := code } := set_code (zero_is W) h
def rawV (r : RawR) : Array Value := recC r.f0 r.f1 r.f2 (.slice r.A r.n r.c)
structure Lay (B gb gm sb l lo hi : Nat) : Prop where
  lt : gb < B ∧ gm < B ∧ sb < B ∧ l < B
  ne : gb ≠ gm ∧ gb ≠ sb ∧ gb ≠ l ∧ gm ≠ sb ∧ gm ≠ l ∧ sb ≠ l
  out : (gm < lo ∨ hi ≤ gm) ∧ (sb < lo ∨ hi ≤ sb) ∧ (l < lo ∨ hi ≤ l)
  hi : hi ≤ gb
structure LS (W0 : World) (gb gm sb l lo hi : Nat) (code : Int) (rec : Loop) (W : World) (c : Cu) (s : Int) (os : List S43) (raws : List RawR) (v : Value) : Prop where
  up : UpdS (fun k => k = gb ∨ k = gm ∨ k = sb ∨ k = l) W0 W
  cur : PAt lo hi W gb c
  sum : SumAt W sb s
  lp : W.heap[l]? = some (.loop rec)
  msg : W.heap[gm]? = some (.cells ((codeC code).setIfInBounds 15 v) 30 (0, 0))
  row : Kd.R kRawR 43 W W0.heap.size (fun k => W0.heap.size ≤ k) v raws
  zip : Zip (fun r o => goodR o ∧ ∀ W', Kept W W' (fun k => k < W0.heap.size ∨ v.ownBlock = some k) → FitsR W' r o) raws os
  bd : os.length + c.xs.length ≤ 1000000
section
variable {W0 W W' : World} {gb gm sb l lo hi : Nat} {code s s' : Int} {rec rec' : Loop} {c c' : Cu} {os : List S43} {raws : List RawR} {v : Value}
theorem LS.own (h : LS W0 gb gm sb l lo hi code rec W c s os raws v) (k : Nat) (hk : v.ownBlock = some k) : W0.heap.size ≤ k ∧ k < W.heap.size := by
  have := (Kd.R_bound h.row).1 k hk
  exact ⟨this.1, this.2.2.1⟩
theorem LS.move (h : LS W0 gb gm sb l lo hi code rec W c s os raws v) (L : Lay W0.heap.size gb gm sb l lo hi) (u : UpdS (fun k => k = gb ∨ k = sb) W W') (p : PAt lo hi W' gb c') (q : SumAt W' sb s') (hb : os.length + c'.xs.length ≤ 1000000) : LS W0 gb gm sb l lo hi code rec W' c' s' os raws v := by
  have hlt := L.lt
  have hne := L.ne
  have kk : Kept W W' (fun k => k < W0.heap.size ∨ v.ownBlock = some k) := u.kept.mono fun j hj => by rcases hj with rfl | rfl <;> exact .inl (by omega)
  refine ⟨h.up.trans ⟨u.os, u.tape, u.output, u.kept.mono fun j hj => by rcases hj with rfl | rfl <;> simp⟩, p, q, blk_kept h.lp u.kept (by omega), blk_kept h.msg u.kept (by omega), ?_, h.zip.imp fun _ _ z => ⟨z.1, fun W2 hk => z.2 W2 (kk.then_ hk fun j hj => .inl hj)⟩, hb⟩
  exact Kd.R_mono (Kd.R_move (Kd.R_bound h.row) fun j hj => u.kept.2 j hj.2.2.1 fun e => by have := hj.1; omega) fun j hj => hj.1
theorem LS.below (h : LS W0 gb gm sb l lo hi code rec W c s os raws v) (L : Lay W0.heap.size gb gm sb l lo hi) (hb : Below W.heap.size W W') : LS W0 gb gm sb l lo hi code rec W' c s os raws v :=
  h.move L ⟨hb.os, hb.tape, hb.output, Kept.of_below hb _⟩ (h.cur.below hb) (blk_below h.sum hb) h.bd
theorem LS.turn (h : LS W0 gb gm sb l lo hi code rec W c s os raws v) (L : Lay W0.heap.size gb gm sb l lo hi) (rec' : Loop) : LS W0 gb gm sb l lo hi code rec' (W.putObj l (.loop rec')) c s os raws v := by
  have hlt := L.lt
  have hne := L.ne
  have ho := L.out
  have k0 : Kept W (W.putObj l (.loop rec')) (fun k => k = l) := ⟨by simp, fun i _ hn => World.putObj_heap_other hn⟩
  have kk : Kept W (W.putObj l (.loop rec')) (fun k => k < W0.heap.size ∨ v.ownBlock = some k) := k0.mono fun j hj => .inl (by omega)
  refine ⟨h.up.trans ⟨rfl, rfl, rfl, k0.mono fun j hj => by subst hj; simp⟩, h.cur.on k0 (fun k e => by omega) (by omega), blk_kept h.sum k0 (by omega), World.putObj_heap_same (blk_lt h.lp), blk_kept h.msg k0 (by omega), ?_, h.zip.imp fun _ _ z => ⟨z.1, fun W2 hk => z.2 W2 (kk.then_ hk fun j hj => .inl hj)⟩, h.bd⟩
  exact Kd.R_mono (Kd.R_move (Kd.R_bound h.row) fun j hj => k0.2 j hj.2.2.1 fun e => by have := hj.1; omega) fun j hj => hj.1
theorem LS.at_list (h : LS W0 gb gm sb l lo hi code rec W c s os raws v) : W.cell? ⟨gm, 15, none⟩ = some v ∧ W.frozen? ⟨gm, 15, none⟩ = false := ⟨blk_cell h.msg 15, blk_frozen h.msg 15⟩
theorem LS.at_list' (h : LS W0 gb gm sb l lo hi code rec W c s os raws v) (L : Lay W0.heap.size gb gm sb l lo hi) {w1 : World} (G : W.grownBy w1 v.ownBlock) : w1.cell? ⟨gm, 15, none⟩ = some v ∧ w1.frozen? ⟨gm, 15, none⟩ = false := by
  have hlt := L.lt
  have a3 := blk_kept h.msg ((Kept.refl W (fun k => v.ownBlock = some k)).of_grown G (fun k hk => .inl hk)) (fun e => by have := (h.own _ e).1; omega)
  exact ⟨blk_cell a3 15, blk_frozen a3 15⟩
theorem LS.few (h : LS W0 gb gm sb l lo hi code rec W c s os raws v) : raws.length ≤ 1000000 := by
  have := h.bd
  have := h.zip.1
  omega
theorem LS.push (h : LS W0 gb gm sb l lo hi code rec W c s os raws v) (L : Lay W0.heap.size gb gm sb l lo hi) {r : RawR} {o : S43} (hg : goodR o) (hz : ∀ W', Kept W W' (fun k => k < W0.heap.size ∨ v.ownBlock = some k) → FitsR W' r o) (hb : os.length + 1 + c.xs.length ≤ 1000000) {v1 : Value} {w1 : World} (R1 : Kd.R kRawR 43 w1 W0.heap.size (fun k => W0.heap.size ≤ k) v1 (raws ++ [r])) (G : W.grownBy w1 v.ownBlock) (hv : v1.ownBlock = v.ownBlock ∨ ∃ b, v1.ownBlock = some b ∧ W.heap.size ≤ b) :
    LS W0 gb gm sb l lo hi code rec (w1.setCell ⟨gm, 15, none⟩ v1) c s (os ++ [o]) (raws ++ [r]) v1 := by
  have hlt := L.lt
  have hne := L.ne
  have ho := L.out
  have hh := L.hi
  have own := fun k e => (h.own k e).1
  have hsz := h.up.kept.1
  have k1 : Kept W w1 (fun k => v.ownBlock = some k) := (Kept.refl W _).of_grown G (fun k hk => .inl hk)
  have u2 := up_set w1 gm 15 v1
  have k2 := u2.kept
  have nb : ∀ b, b < W0.heap.size → v.ownBlock ≠ some b := fun b hb e => by have := own b e; omega
  have kk : Kept W (w1.setCell ⟨gm, 15, none⟩ v1) (fun k => k < W0.heap.size ∨ v.ownBlock = some k) := (k1.mono fun j hj => .inr hj).then_ k2 (fun j hj => .inl (.inl (by omega)))
  have turn : ∀ W', Kept (w1.setCell ⟨gm, 15, none⟩ v1) W' (fun k => k < W0.heap.size ∨ v1.ownBlock = some k) → Kept W W' (fun k => k < W0.heap.size ∨ v.ownBlock = some k) := fun W' hk => kk.then_ hk (fun j hj => by
    rcases hj with hj | hj
    · exact .inl (.inl hj)
    · rcases hv with e | ⟨b, e, hb⟩
      · exact .inl (.inr (e ▸ hj))
      · rw [e] at hj
        have := Option.some.inj hj
        exact .inr (by omega))
  have e1 : (codeC code).size = 22 := rfl
  refine ⟨?_, ?_, blk_kept (blk_kept h.sum k1 (nb _ hlt.2.2.1)) k2 (by omega), blk_kept (blk_kept h.lp k1 (nb _ hlt.2.2.2)) k2 (by omega), ?_, ?_, ?_, by rw [List.length_append]; simpa using hb⟩
  · refine ⟨h.up.os ▸ (u2.os.trans G.os), h.up.tape ▸ (u2.tape.trans G.tape), h.up.output ▸ (u2.output.trans G.output), (h.up.kept.then_ k1 fun j hj => .inr (own j hj)).then_ k2 fun j hj => .inl (by subst hj; simp)⟩
  · exact (h.cur.on k1 (fun k e => .inr (by have := own k e; omega)) (nb _ hlt.1)).on k2 (fun k e => by omega) (by omega)
  · have := blk_put (blk_kept h.msg k1 (nb _ hlt.2.1)) 15 v1 rfl
    rw [this]
    simp
  · exact Kd.R_mono (Kd.R_move (Kd.R_bound R1) fun j hj => k2.2 j hj.2.2.1 fun e => by have := hj.1; omega) fun j hj => hj.1
  · exact (h.zip.imp fun _ _ z => ⟨z.1, fun W' hk => z.2 W' (turn W' hk)⟩).snoc ⟨hg, fun W' hk => hz W' (turn W' hk)⟩
theorem LS.close (h : LS W0 gb gm sb l lo hi code rec W c s os raws v) (L : Lay W0.heap.size gb gm sb l lo hi) (hc : 0 ≤ code ∧ code < 256) : ∃ cx, W.heap[gm]? = some (.cells cx 30 (0, 0)) ∧ ∀ W', Kept W W' (fun k => k < W0.heap.size) → IsMsg W' cx { zeroM with code := code, recs := os } := by
  obtain ⟨A, n, rfl, hn, _⟩ := Kd.R_reads h.row
  have hl := h.zip.1
  refine ⟨_, h.msg, fun W' hk => ?_⟩
  have hC := Kd.C_kept_own h.row (S := (fun k => k < W0.heap.size)) (fun k hk => by omega) W' hk
  have hz : Zip (FitsR W') raws os := h.zip.imp fun _ _ z => z.2 W' (hk.mono fun j hj => .inl hj)
  rw [hl] at hC
  have := set_recs (codeC_is hc W') (A := A) (n := n) (l := os) (by rw [← hl]; exact hn) (fun o ho => by obtain ⟨r, hr, _⟩ := h.zip.mem o ho; exact hr) (zipR_C hC hz)
  rw [hl]
  exact this
end
section
variable {F : Fence} {nF : Nat} {P : Program} {ops : Array Oper} {rest : List Oper} {o : Oper} {a : Act} {Q : Exit → Act → World → Prop} {α : Type}
theorem gateIn_dst {N : Tmp} {w : World} (_h : o.dst = some N) (h : wpListIn F nF P ops Q (o :: rest) a w) : wpListIn F nF P ops Q (o :: rest) a w := h
theorem loadIn_row {w : World} (hgd : o.guard = none) (ty : TypeId) (x : Operand) (ho : o.op = .load ty x) (g : Nat) (hx : a.eval x = .pointer (some ⟨g, 0, none⟩)) (t : TypeId) (cs : Array Value) (fr : Nat × Nat) (d : TypeDesc) (hg : w.heap[g]? = some (.cells cs t fr))
    (hu : P.underlying ty = some d) (hd : (match d with | .struct _ | .array _ _ => true | _ => false) = true) (hi : (P.info? ty).map (·.size) = some cs.size)
    (h : wpListIn F nF P ops Q rest (a.put o.dst (.agg cs)) w) : wpListIn F nF P ops Q (o :: rest) a w := by
  refine wpListIn_plain hgd fun K hK => ?_
  unfold Oper.wpIn
  refine ⟨by simp [Oper.about, ho], ?_⟩
  rw [Oper.semAt_plain F _ _ (by rw [ho]; intro c hc'; cases hc')]
  have hr : (Instr.loadAt ty (.pointer (some ⟨g, 0, none⟩))).run P w = .ok (.agg cs) w := by
    have := run_loadVar_row (P := P) w g t ty cs fr d hg hu hd hi
    simp only [Instr.loadAt, Instr.sureAddr, Sem.run_bind, Sem.run_pure, Result.andThen_ok, this]
  simp [execOp, ho, hx, hr, Result.andThen]
  exact hK _ _ h
theorem R_append_in (d : Kd α) {w0 W : World} (base : Nat) (hgd : o.guard = none) (s x : Operand) (t e : TypeId) (z : Value) (bytes : Nat)
    (ho : o.op = .call { callee := .builtin .append, args := #[s, x], argTypes := #[t, t] })
    (ht : P.underlying t = some (.slice e)) (hinfo : (P.info? e).map (fun i => (i.zero, i.size, i.bytes)) = some (some z, d.sz, bytes)) (hz : z.cells.size = d.sz) (hs0 : 0 < d.sz) (hb0 : 0 < bytes)
    (v : Value) (xs : List α) (p : α) (cs : List Value) (ok okp : Nat → Prop) (hs : a.eval s = v) (hx : a.eval x = .slice (some ⟨W.heap.size, 0, none⟩) 1 1) (hp : d.M W base okp p cs) (hokp : ∀ k, okp k → ok k ∧ some k ≠ v.ownBlock) (hfresh : ∀ k, W.heap.size ≤ k → ok k)
    (HO : d.R e W base ok v xs) (HB : Below base w0 W) (hbase : base ≤ W.heap.size) (hl : (xs.length + 1) * bytes ≤ 140737488355328)
    (h : ∀ v1 w1, d.R e w1 base ok v1 (xs ++ [p]) → Below base w0 w1 → W.grownBy w1 v.ownBlock → (v1.ownBlock = v.ownBlock ∨ ∃ b, v1.ownBlock = some b ∧ W.heap.size ≤ b) → wpListIn F nF P ops Q rest (a.put o.dst v1) w1) :
    wpListIn F nF P ops Q (o :: rest) a (W.alloc (.cells cs.toArray e)) := by
  obtain ⟨h0, inner, hown, hr⟩ := HO
  obtain ⟨i0, hi, hzz⟩ := Option.map_eq_some_iff.1 hinfo
  simp only [Prod.mk.injEq] at hzz
  obtain ⟨hz0, hz1, hz2⟩ := hzz
  have hlen : xs.length + 1 ≤ 140737488355328 := Nat.le_trans (Nat.le_mul_of_pos_right _ hb0) hl
  refine wpListIn_append_own_at (W.alloc (.cells cs.toArray e)) hgd s x t ho base e i0 z d.sz bytes ht hi hz0 hz1 hz2 hz hs0 v xs.length inner hs (hown.alloc _) ⟨W.heap.size, 0, none⟩ 1 1 cs hx (by rw [d.K_len (d.K_of_M hp)]; simp)
    (by simpa using World.news_of_block (cs := cs.toArray) (t := e) (fr := (0, 0)) (heap_alloc_new W (.cells cs.toArray e))) (d.K_one (d.K_of_M hp)) (by simp only [maxLen]; omega) hl (by simp; omega) ?_
  intro v1 w1 hown1 hg _ hat
  have hat' : v1.ownBlock = v.ownBlock ∨ ∃ b, v1.ownBlock = some b ∧ W.heap.size ≤ b := by
    rcases hat with hat | hat
    · exact .inl hat
    · exact .inr ⟨_, hat, by simp⟩
  have hg1 := World.grownBy.trans (World.grownBy_alloc W _ _) hg
  exact h v1 w1 (Kd.R_appended h0 hr hp hokp hfresh hown1 hg1 hat') ((HB.alloc hbase _).grown hg (by simp; omega) (own_base hown)) hg1 hat'
end
def recOf (fn : FuncId) (tmps : Array Value) (ps : Array Tmp) (assign body : Code) (D : Nat) (st : LoopState) : Loop := { state := st, pending := none, fn, tmps, params := ps, assign, body, defers := D }
def Iter (rd : Rdp) (lb : Array Value) (W0 : World) (gb gm sb l lo hi : Nat) (code : Int) (rec : Loop) (N : Nat) : Prop :=
  ∀ (W : World) (c0 : Cu), LS W0 gb gm sb l lo hi code rec W c0 0 [] [] (.slice none 0 0) → c0.xs.length ≤ N →
    (∀ (W : World) (c : Cu) (s : Int) (os : List S43) (raws : List RawR) (v : Value) (r : RawR) (x : S43), LS W0 gb gm sb l lo hi code rec W c s os raws v → goodR x → (∀ W', Kept W W' (fun k => k < W0.heap.size ∨ v.ownBlock = some k) → FitsR W' r x) → os.length + 1 + c.xs.length ≤ 1000000 →
      YieldAt Fence.wide 5 Try.prog l #[.agg (rawV r)] W fun e W' => e = .returned (.bool true) ∧ ∃ v', LS W0 gb gm sb l lo hi code rec W' c s (os ++ [x]) (raws ++ [r]) v') →
    Calls Try.prog 42 (#[.func (.yield l) #[] #[]] ++ lb) W fun e W' => (∃ v, e = .returned v) ∧ ∃ c s os raws v, LS W0 gb gm sb l lo hi code rec W' c s os raws v ∧ c = (partsG rd N 0 c0).1 ∧ (c.e = 0 → os = (partsG rd N 0 c0).2)
theorem range_law {rd : Rdp} {g : Operand} {p q : Tmp} {assign body : Code} {Q : Exit → Act → World → Prop} {a : Act} {w : World} {gb gm sb lo hi N : Nat} {code : Int} {c0 : Cu} {lb : Array Value}
    (hg : a.eval g = .func (.func 42) #[] lb) (L : Lay (w.heap.size + 2) gb gm sb (w.heap.size + 1) lo hi)
    (hl : gb < w.heap.size ∧ gm < w.heap.size ∧ sb < w.heap.size)
    (hc : PAt lo hi w gb c0) (hs : SumAt w sb 0) (hm : w.heap[gm]? = some (.cells (codeC code) 30 (0, 0))) (hN : c0.xs.length ≤ N)
    (hit : ∀ (W0 : World) (rec : Loop), Below w.heap.size w W0 → W0.heap.size = w.heap.size + 2 → Iter rd lb W0 gb gm sb (w.heap.size + 1) lo hi code rec N)
    (hassign : ∀ (l : Nat) (r : RawR) (W : World) (K : Act → World → Prop), (∀ bx W1, bx = W.heap.size → W1.heap[bx]? = some (.cells #[.int .u16 r.f0, .int .u16 r.f1, .int .u16 r.f2, .slice r.A r.n r.c] 43 (0, 0)) → Below W.heap.size W W1 → K { tmps := (a.tmps.setIfInBounds p (.agg #[.int .u16 r.f0, .int .u16 r.f1, .int .u16 r.f2, .slice r.A r.n r.c])).setIfInBounds q (.pointer (some ⟨bx, 0, none⟩)), defers := [] } W1) →
      assign.wpIn (Fence.wide.inRound l) 5 Try.prog (Exit.then K (fun _ _ _ => False)) { tmps := a.tmps.setIfInBounds p (.agg #[.int .u16 r.f0, .int .u16 r.f1, .int .u16 r.f2, .slice r.A r.n r.c]), defers := [] } W)
    (hbody : ∀ (l bx : Nat) (W0 : World) (rec : Loop) (W : World) (c : Cu) (s : Int) (os : List S43) (raws : List RawR) (v : Value) (r : RawR) (x : S43), Lay W0.heap.size gb gm sb l lo hi → LS W0 gb gm sb l lo hi code rec W c s os raws v → goodR x → (∀ W', Kept W W' (fun k => k < W0.heap.size ∨ v.ownBlock = some k) → FitsR W' r x) → os.length + 1 + c.xs.length ≤ 1000000 →
      W.heap[bx]? = some (.cells (rawV r) 43 (0, 0)) →
      body.wpIn (Fence.wide.inRound l) 5 Try.prog (fun e _ W' => e = .normal ∧ ∃ v', LS W0 gb gm sb l lo hi code rec W' c s (os ++ [x]) (raws ++ [r]) v') { tmps := (a.tmps.setIfInBounds p (.agg #[.int .u16 r.f0, .int .u16 r.f1, .int .u16 r.f2, .slice r.A r.n r.c])).setIfInBounds q (.pointer (some ⟨bx, 0, none⟩)), defers := [] } W)
    (hdone : ∀ (W0 W3 : World) (l : Nat) (rec : Loop) (c : Cu) (s : Int) (os : List S43) (raws : List RawR) (v : Value), Below w.heap.size w W0 → W0.heap.size = w.heap.size + 2 → l = w.heap.size + 1 → LS W0 gb gm sb l lo hi code rec W3 c s os raws v → W3.heap[w.heap.size]? = some (.deferred (some [])) → c = (partsG rd N 0 c0).1 → (c.e = 0 → os = (partsG rd N 0 c0).2) →
      Q .normal { a with defers := { target := .collected w.heap.size, args := #[] } :: a.defers } W3) :
    (Code.rangeFunc g #[p] assign body).wp Try.prog Q a w := by
  refine (wpIn_wide (n := 7)).1 (wpIn_rangeFunc ?_)
  intro fn hfn
  show ∃ (l : Nat) (mark : List Deferred) (w₁ : World) (d : Deferred) (w₁' : World) (f : FuncId) (args : Array Value) (w₂ : World), (Instr.enterLoop fn a.tmps #[p] assign body none).run Try.prog w = .ok (l, mark) w₁ ∧ _
  obtain ⟨rec, hrec⟩ : ∃ rec : LoopState → Loop, rec = recOf fn a.tmps #[p] assign body w.heap.size := ⟨_, rfl⟩
  obtain ⟨W1, hW1⟩ : ∃ W1, (w.alloc (.deferred (some []))).alloc (.loop (rec .ready)) = W1 := ⟨_, rfl⟩
  have hb1 : Below w.heap.size w W1 := by
    rw [← hW1]; exact ((Below.refl _ w).alloc (Nat.le_refl _) _).alloc (by simp) _
  have hz1 : W1.heap.size = w.heap.size + 2 := by rw [← hW1]; simp
  have hL1 : W1.heap[w.heap.size + 1]? = some (.loop (rec .ready)) := by
    rw [← hW1]; have := World.alloc_heap_new (w.alloc (.deferred (some []))) (.loop (rec .ready)); rwa [World.size_alloc] at this
  have hK1 : W1.heap[w.heap.size]? = some (.deferred (some [])) := by
    rw [← hW1]; exact (Below.heap_alloc _ _ _ (by simp)).trans (World.alloc_heap_new w _)
  have L1 : Lay W1.heap.size gb gm sb (w.heap.size + 1) lo hi := hz1 ▸ L
  have e0 : (codeC code).setIfInBounds 15 (.slice none 0 0) = codeC code := rfl
  have hLS : LS W1 gb gm sb (w.heap.size + 1) lo hi code (rec .ready) W1 c0 0 [] [] (.slice none 0 0) := by
    refine ⟨⟨rfl, rfl, rfl, Kept.refl _ _⟩, hc.below hb1, blk_below hs hb1, hL1, ?_, Kd.R_nil _ _ _ _ _, Zip.nil _, ?_⟩
    · rw [e0]; exact blk_below hm hb1
    · have := hc.2.2.1
      simpa using this
  refine ⟨w.heap.size + 1, [{ target := .collected w.heap.size, args := #[] }], W1, { target := .fn (.func 42) lb, args := #[.func (.yield (w.heap.size + 1)) #[] #[]] }, W1, 42,
    #[.func (.yield (w.heap.size + 1)) #[] #[]] ++ lb, W1, ?_, ?_, ?_, ?_, fun _ => by omega, ?_⟩
  · rw [← hW1, hrec]; exact run_enterLoop_outer _ _ _ _ _
  · simp only [resolve, hg]
    simp [go_sem]
  · intro f' hf'; trivial
  · have eg : ∀ (args : Array Value) (w : World), (callFunc 42 args).run Try.prog w = .ok (.enter 42 args) w := enters_of Try.func42 (by kernel_rfl) rfl
    simp [invoke, go_sem, eg]
  · refine (callsIn_wide.2 (hit W1 (rec .ready) hb1 hz1 W1 c0 hLS hN ?_)).mono ?_
    · -- one round
      intro W c s os raws v r x hi hgx hx hbd
      have hy := run_yield (P := Try.prog) (args := #[.agg (rawV r)]) hi.lp (by rw [hrec]; rfl)
      rw [hrec] at hy
      refine ⟨fn, _, assign, body, hy, roundIn_of_wpIn hfn ?_⟩
      have ez : ((#[p].zip #[Value.agg (rawV r)]).foldl (fun t (q : Tmp × Value) => t.setIfInBounds q.1 q.2) a.tmps) = a.tmps.setIfInBounds p (.agg (rawV r)) := by simp
      show assign.wpIn _ 5 _ _ { tmps := ((#[p].zip #[Value.agg (rawV r)]).foldl (fun t (q : Tmp × Value) => t.setIfInBounds q.1 q.2) a.tmps), defers := [] } W
      rw [ez]
      refine hassign _ r W _ ?_
      intro bx W2 hbx h2 hb2
      have hi2 := hi.below L1 hb2
      refine ⟨_, run_beginRound hi2.lp (by rw [hrec]; rfl), ?_⟩
      have hi3 := hi2.turn L1 { rec .ready with state := .busy }
      have k0 : Kept W2 (W2.putObj (w.heap.size + 1) (.loop { rec .ready with state := .busy })) (fun k => k < W1.heap.size ∨ v.ownBlock = some k) := ⟨by simp, fun i _ hn => World.putObj_heap_other (fun e => hn (.inl (by rw [e]; omega)))⟩
      have h3 := blk_kept h2 k0 (fun e => by
        have := hi.up.kept.1
        rcases e with e | e
        · omega
        · have := (hi.own _ e).2; omega)
      refine wpIn_mono (hbody _ bx W1 _ _ c s os raws v r x L1 hi3 hgx (fun W' hk => hx W' ?_) hbd h3) ?_
      · exact ((Kept.of_below hb2 _).then_ k0 fun j hj => .inl hj).then_ hk fun j hj => .inl hj
      · rintro e a3 W3 ⟨rfl, v', hi4⟩
        refine ⟨_, _, run_endRound none hi4.lp, rfl, v', ?_⟩
        have := hi4.turn L1 (rec .ready)
        rw [hrec] at this ⊢
        exact this
    · rintro e W2 ⟨⟨v0, rfl⟩, c, s, os, raws, v, h4, hc4, ho4⟩
      refine ⟨none, _, by have := run_endLoop (P := Try.prog) h4.lp (by rw [hrec]; simp [recOf]); rw [hrec] at this; exact this, ?_⟩
      have h5 := h4.turn L1 { rec .ready with state := .exhausted }
      rw [hrec] at h5
      refine hdone W1 _ _ _ c s os raws v hb1 hz1 rfl h5 ?_ hc4 ho4
      rw [World.putObj_heap_other (by omega)]
      exact blk_kept hK1 h4.up.kept (by omega)
end Go.Proofs.Ytdjeekpgcjcffaa.Fil
end
section
namespace Go.Proofs.Ytdjeekpgcjcffaa.Cu
open Go.RowKit Go.Proofs.Ytdjeekpgcjcffaa.E Go.Proofs.Ytdjeekpgcjcffaa.Cur Go.Proofs.YtdjeekpgcjcffaaW.PrintWords Go.Proofs.YtdjeekpgcjcffaaW.PrintLast Go.Proofs.YtdjeekpgcjcffaaW.PrintMore
def cu (l : List Int) : Cu := ⟨l, false, 0⟩
theorem need_true (c : Cu) (f : Int) : c.need true f = c := by unfold Cu.need; simp
theorem need_dead {c : Cu} (h : c.e ≠ 0) (ok : Bool) (f : Int) : c.need ok f = c := by
  unfold Cu.need
  rw [if_neg (fun hh => h hh.1)]
theorem bytesS_dead {c : Cu} (h : c.e ≠ 0) (n : Int) : (c.bytesS n).e = c.e := by
  unfold Cu.bytesS
  split
  · rfl
  · simp only [Cu.fail, fstE]
    rw [if_neg h]
theorem need_ok {c : Cu} {ok : Bool} {f : Int} (hf : f ≠ 0) (h : (c.need ok f).e = 0) : c.e = 0 ∧ ok = true ∧ c.need ok f = c := by
  cases ok with
  | true => rw [need_true] at h ⊢; exact ⟨h, rfl, rfl⟩
  | false =>
    by_cases he : c.e = 0
    · exfalso
      unfold Cu.need at h
      rw [if_pos ⟨he, rfl⟩] at h
      exact hf h
    · rw [need_dead he] at h
      exact absurd h he
theorem need_ok' {xs : List Int} {ok : Bool} {f : Int} (h : ((cu xs).need ok f).e = 0) : (cu xs).need ok f = cu xs := by
  cases ok with
  | true => exact need_true _ _
  | false =>
    unfold Cu.need cu at h ⊢
    simp only [and_self, if_true] at h ⊢
    rw [h]
theorem bytes_ok {c : Cu} {n : Int} (h : (c.bytesS n).e = 0) : c.e = 0 ∧ c.s = false ∧ 0 ≤ n ∧ n ≤ (c.xs.length : Int) ∧ c.bytesS n = cu (c.xs.drop n.toNat) ∧ c.bytesV n = c.xs.take n.toNat := by
  have he : c.e = 0 := by
    by_cases he : c.e = 0
    · exact he
    · rw [bytesS_dead he] at h; exact h
  by_cases hk : c.okB n = true
  · obtain ⟨h1, h2, h3⟩ := (Cu.okB_iff c n).1 hk
    refine ⟨he, h1, h2, h3, ?_, ?_⟩
    · unfold Cu.bytesS cu; rw [if_pos hk, h1, he]
    · unfold Cu.bytesV; rw [if_pos hk]
  · exfalso
    unfold Cu.bytesS at h
    rw [if_neg hk] at h
    simp only [Cu.fail, fstE] at h
    rw [if_pos he] at h
    exact absurd h (by decide)
theorem byte_ok {c : Cu} (h : c.byteS.e = 0) : c.e = 0 ∧ c.s = false ∧ ∃ t, c.xs = c.byteV :: t ∧ c.byteS = cu t := by
  obtain ⟨h1, h2, h3, h4, h5, h6⟩ := bytes_ok (n := 1) h
  cases hx : c.xs with
  | nil => rw [hx] at h4; simp at h4
  | cons x t =>
    refine ⟨h1, h2, t, ?_, ?_⟩
    · unfold Cu.byteV; rw [h6, hx]; rfl
    · show c.bytesS 1 = _
      rw [h5, hx]; rfl
theorem fin_ok {c : Cu} (h : c.fin.e = 0) : c.e = 0 ∧ c.xs = [] := by
  obtain ⟨h1, h2, h3⟩ := need_ok (by decide) h
  exact ⟨h1, by simpa using h2⟩
theorem fin_dead {c : Cu} (h : c.e ≠ 0) : c.fin.e = c.e := by
  show (c.need _ 3).e = _
  rw [need_dead h]
theorem okB_cu (l : List Int) (n : Nat) (h : n ≤ l.length) : (cu l).okB (n : Int) = true := by
  rw [Cu.okB_iff]
  exact ⟨rfl, by omega, by show (n : Int) ≤ (l.length : Int); omega⟩
theorem bytesV_app (u t : List Int) {n : Int} (hn : n = (u.length : Int)) : (cu (u ++ t)).bytesV n = u := by
  subst hn
  unfold Cu.bytesV
  rw [if_pos (okB_cu _ _ (by simp))]
  show (u ++ t).take (u.length : Int).toNat = u
  simp
theorem bytesS_app (u t : List Int) {n : Int} (hn : n = (u.length : Int)) : (cu (u ++ t)).bytesS n = cu t := by
  subst hn
  unfold Cu.bytesS
  rw [if_pos (okB_cu _ _ (by simp))]
  show (⟨(u ++ t).drop (u.length : Int).toNat, _, _⟩ : Cu) = _
  simp [cu]
theorem bytesS_cut {l : List Int} {n : Int} (h : (l.length : Int) < n ∨ n < 0) : ((cu l).bytesS n).e = 2 := by
  unfold Cu.bytesS
  have hk : ¬ (cu l).okB n = true := fun hk => by
    obtain ⟨_, h2, h3⟩ := (Cu.okB_iff _ _).1 hk
    have h3 : n ≤ (l.length : Int) := h3
    omega
  rw [if_neg hk]
  rfl
theorem byteV_cons (x : Int) (t : List Int) : (cu (x :: t)).byteV = x := by
  show ((cu ([x] ++ t)).bytesV 1).headD 0 = x
  have h := bytesV_app [x] t (n := 1) rfl
  rw [h]
  rfl
theorem byteS_cons (x : Int) (t : List Int) : (cu (x :: t)).byteS = cu t := bytesS_app [x] t rfl
theorem fin_cu_nil : (cu []).fin = cu [] := by
  show (cu []).need _ 3 = _
  exact need_true _ _
theorem fin_cu_cons (x : Int) (t : List Int) : (cu (x :: t)).fin.e = 3 := by
  show ((cu (x :: t)).need _ 3).e = 3
  unfold Cu.need cu
  simp
section
variable {α β : Type}
structure Cl (r : (Cu → Cu × α)) : Prop where
  dead : ∀ c : Cu, c.e ≠ 0 → (r c).1.e = c.e
  ok : ∀ xs : List Int, (r (cu xs)).1.e = 0 → ∃ u t, xs = u ++ t ∧ (∀ t', r (cu (u ++ t')) = (cu t', (r (cu xs)).2)) ∧ ∀ k, k < u.length → (r (cu (u.take k))).1.e = 2
end
section
variable {α β : Type} {f : α → (Cu → Cu × β)}
end
theorem wordsS_dead {c : Cu} (h : c.e ≠ 0) (n : Int) : (c.wordsS n).e = c.e := by
  unfold Cu.wordsS
  split
  · rfl
  · simp only [Cu.fail, fstE]
    rw [if_neg h]
theorem words_ok {c : Cu} {n : Int} (h : (c.wordsS n).e = 0) : c.e = 0 ∧ c.s = false ∧ 0 ≤ n ∧ 2 * n ≤ (c.xs.length : Int) ∧ c.wordsS n = cu (c.xs.drop (2 * n.toNat)) ∧ c.wordsV n = Take.words (c.xs.take (2 * n.toNat)) := by
  have he : c.e = 0 := by
    by_cases he : c.e = 0
    · exact he
    · rw [wordsS_dead he] at h; exact h
  by_cases hk : c.okW n = true
  · obtain ⟨h1, h2, h3⟩ := (Cu.okW_iff c n).1 hk
    refine ⟨he, h1, h2, h3, ?_, ?_⟩
    · unfold Cu.wordsS cu; rw [if_pos hk, h1, he]
    · unfold Cu.wordsV; rw [if_pos hk]
  · exfalso
    unfold Cu.wordsS at h
    rw [if_neg hk] at h
    simp only [Cu.fail, fstE] at h
    rw [if_pos he] at h
    exact absurd h (by decide)
theorem okW_cu (l : List Int) (n : Nat) (h : 2 * n ≤ l.length) : (cu l).okW (n : Int) = true := by
  rw [Cu.okW_iff]
  exact ⟨rfl, by omega, by show 2 * (n : Int) ≤ (l.length : Int); omega⟩
theorem wordsV_app (u t : List Int) {n : Int} (hn : 2 * n = (u.length : Int)) : (cu (u ++ t)).wordsV n = Take.words u := by
  obtain ⟨m, rfl⟩ := Int.eq_ofNat_of_zero_le (show 0 ≤ n by omega)
  unfold Cu.wordsV
  rw [if_pos (okW_cu _ _ (by rw [List.length_append]; omega))]
  show Take.words ((u ++ t).take (2 * (m : Int).toNat)) = _
  rw [show 2 * (m : Int).toNat = u.length by omega]
  simp
theorem wordsS_app (u t : List Int) {n : Int} (hn : 2 * n = (u.length : Int)) : (cu (u ++ t)).wordsS n = cu t := by
  obtain ⟨m, rfl⟩ := Int.eq_ofNat_of_zero_le (show 0 ≤ n by omega)
  unfold Cu.wordsS
  rw [if_pos (okW_cu _ _ (by rw [List.length_append]; omega))]
  show (⟨(u ++ t).drop (2 * (m : Int).toNat), _, _⟩ : Cu) = _
  rw [show 2 * (m : Int).toNat = u.length by omega]
  simp [cu]
theorem two_words (a b : Int) : (Take.words [a, b]).headD 0 = a * 256 + b := by
  simp [Take.words, Take.pre, Take.wordAt, List.range_succ]
theorem wordV_cons (a b : Int) (t : List Int) : (cu (a :: b :: t)).wordV = a * 256 + b := by
  show ((cu ([a, b] ++ t)).wordsV 1).headD 0 = _
  rw [wordsV_app [a, b] t (n := 1) (by simp)]
  exact two_words a b
theorem wordS_cons (a b : Int) (t : List Int) : (cu (a :: b :: t)).wordS = cu t := wordsS_app [a, b] t (n := 1) (by simp)
theorem word_ok {c : Cu} (h : c.wordS.e = 0) : c.e = 0 ∧ c.s = false ∧ ∃ a b t, c.xs = a :: b :: t ∧ c.wordS = cu t ∧ c.wordV = a * 256 + b := by
  obtain ⟨h1, h2, h3, h4, h5, h6⟩ := words_ok (n := 1) h
  cases hx : c.xs with
  | nil => rw [hx] at h4; simp at h4
  | cons a t =>
  cases ht : t with
  | nil => rw [hx, ht] at h4; simp at h4
  | cons b r =>
    refine ⟨h1, h2, a, b, r, rfl, ?_, ?_⟩
    · show c.wordsS 1 = _
      rw [h5, hx, ht]; rfl
    · show (c.wordsV 1).headD 0 = _
      rw [h6, hx, ht]; exact two_words a b
end Go.Proofs.Ytdjeekpgcjcffaa.Cu
end
section
namespace Go.Proofs.Ytdjeekpgcjcffaa.Fil
open Go.RowKit Go.Proofs.Ytdjeekpgcjcffaa.P Go.Proofs.Ytdjeekpgcjcffaa.E Go.Proofs.Ytdjeekpgcjcffaa.Cur Go.Proofs.Ytdjeekpgcjcffaa.Cu Go.Proofs.Ytdjeekpgcjcffaa.Same Go.Proofs.YtdjeekpgcjcffaaW.PrintWords Go.Proofs.YtdjeekpgcjcffaaW.PrintLast Go.Proofs.YtdjeekpgcjcffaaW.PrintMore
attribute [local go_sem] Oper.semAt_some
structure RdOk (rd : Rdp) : Prop where
  lt : ∀ s c, c.good → c.xs ≠ [] → (rd s c).1.xs.length < c.xs.length
  gd : ∀ s c, c.good → goodR (rd s c).2.1
  sm : ∀ s c, c.good → 0 ≤ s → s ≤ 245 → (rd s c).1.e = 0 → 0 ≤ (rd s c).2.2 ∧ (rd s c).2.2 ≤ 245
theorem bytesS_len (c : Cu) (n : Int) : (c.bytesS n).xs.length ≤ c.xs.length := by
  unfold Cu.bytesS
  split
  · simp
  · simp [Cu.fail]
theorem wordsS_len (c : Cu) (n : Int) : (c.wordsS n).xs.length ≤ c.xs.length := by
  unfold Cu.wordsS
  split
  · simp
  · simp [Cu.fail]
theorem need_len (c : Cu) (ok : Bool) (f : Int) : (c.need ok f).xs.length = c.xs.length := rfl
theorem byteS_lt {c : Cu} (h : c.good) (hx : c.xs ≠ []) : c.byteS.xs.length < c.xs.length := by
  have hl : 0 < c.xs.length := List.length_pos_iff.2 hx
  unfold Cu.byteS Cu.bytesS
  split
  · simp; omega
  · simp [Cu.fail]; omega
theorem wordS_len (c : Cu) : c.wordS.xs.length ≤ c.xs.length := wordsS_len c 1
theorem head_len (c : Cu) : (head c).1.xs.length ≤ c.byteS.xs.length := by
  simp only [head, need_len]
  refine Nat.le_trans (wordS_len _) ?_
  rw [need_len]
  refine Nat.le_trans (wordS_len _) ?_
  rw [need_len]
  exact wordS_len _
theorem head_good {c : Cu} (h : c.good) : (head c).1.good := Cu.good_need (Cu.good_wordS (Cu.good_need (Cu.good_wordS (Cu.good_need (Cu.good_wordS (Cu.good_need (Cu.good_byteS h) _ _)) _ _)) _ _)) _ _
theorem head_bds {c : Cu} (h : c.good) : (0 ≤ (head c).2.1 ∧ (head c).2.1 < 65536) ∧ (0 ≤ (head c).2.2.1 ∧ (head c).2.2.1 < 65536) ∧ (0 ≤ (head c).2.2.2 ∧ (head c).2.2.2 < 65536) :=
  ⟨Cu.wordV_bd (Cu.good_need (Cu.good_byteS h) _ _), Cu.wordV_bd (Cu.good_need (Cu.good_wordS (Cu.good_need (Cu.good_byteS h) _ _)) _ _), head_bd h⟩
theorem zero16 : (0 : Int) ≤ 0 ∧ (0 : Int) < 65536 := by decide
def rd0 : Rdp := asked
def rd1 : Rdp := fun s c => ((told c).1, (told c).2, s)
def rd2 : Rdp := fun s c => ((written c).1, (written c).2, s)
theorem rdok0 : RdOk rd0 := by
  refine ⟨fun s c h hx => ?_, fun s c h => ⟨(head_bds h).1, (head_bds h).2.1, (head_bds h).2.2, fun x hx => by cases hx⟩, fun s c h h0 h1 he => ?_⟩
  · exact Nat.lt_of_le_of_lt (head_len c) (byteS_lt h hx)
  · have he : ((head c).1.need (decide (s + (2 + 2 * (head c).2.2.2) ≤ 245)) 5).e = 0 := he
    have hb := head_bd h
    obtain ⟨_, h3, _⟩ := need_ok (by decide) he
    have h3 := of_decide_eq_true h3
    show 0 ≤ s + (2 + 2 * (head c).2.2.2) ∧ s + (2 + 2 * (head c).2.2.2) ≤ 245
    omega
theorem rdok1 : RdOk rd1 := by
  refine ⟨fun s c h hx => ?_, fun s c h => ⟨zero16, zero16, zero16, fun x hx => ?_⟩, fun s c h h0 h1 he => ⟨h0, h1⟩⟩
  · refine Nat.lt_of_le_of_lt (wordsS_len _ _) ?_
    rw [need_len]
    refine Nat.lt_of_le_of_lt (bytesS_len _ _) ?_
    rw [need_len]
    exact byteS_lt h hx
  · exact Cu.wordsV_bd (Cu.good_need (Cu.good_byteS (Cu.good_need (Cu.good_byteS h) _ _)) _ _) _ x hx
theorem rdok2 : RdOk rd2 := by
  refine ⟨fun s c h hx => ?_, fun s c h => ⟨(head_bds h).1, (head_bds h).2.1, (head_bds h).2.2, fun x hx => ?_⟩, fun s c h h0 h1 he => ⟨h0, h1⟩⟩
  · refine Nat.lt_of_le_of_lt (wordsS_len _ _) ?_
    rw [need_len]
    exact Nat.lt_of_le_of_lt (head_len c) (byteS_lt h hx)
  · exact Cu.wordsV_bd (Cu.good_need (head_good h) _ _) _ x hx
def leftW (W : World) (gb : Nat) : Nat := match W.heap[gb]? with
  | some (.cells cs _ _) => (match cs[0]? with | some (Value.slice _ n _) => n | _ => 0)
  | _ => 0
theorem leftW_at {lo hi : Nat} {W : World} {gb : Nat} {c : Cu} (h : PAt lo hi W gb c) : leftW W gb = c.xs.length := by
  obtain ⟨⟨_, A, n, h1, _⟩, _⟩ := h
  unfold leftW
  rw [h1]
  rfl
def OneC (fo : Nat) (lbo : Array Value) (sb : Nat) (rd : Rdp) : Prop := ∀ {lo hi g : Nat} {c : Cu} {s : Int} {w : World}, PAt lo hi w g c → SumAt w sb s → (g ≠ sb ∧ (sb < lo ∨ hi ≤ sb)) → (0 ≤ s ∧ s ≤ 245) →
  Calls Try.prog fo (#[.pointer (some ⟨g, 0, none⟩)] ++ lbo) w fun en w' => ∃ A n, en = .returned (.agg (recC (rd s c).2.1.f0 (rd s c).2.1.f1 (rd s c).2.1.f2 (.slice A (rd s c).2.1.f3.length n))) ∧ (rd s c).2.1.f3.length ≤ n ∧ Row16 w.heap.size w'.heap.size w' A (rd s c).2.1.f3 ∧ PAt lo hi w' g (rd s c).1 ∧ SumAt w' sb (rd s c).2.2 ∧ UpdS (fun k => k = g ∨ k = sb) w w'
theorem one0 (sb : Nat) : OneC 34 #[.pointer (some ⟨sb, 0, none⟩)] sb rd0 := by
  intro lo hi g c s w h hs hn hb
  refine (asked_any h hs hn hb).mono ?_
  rintro en w' ⟨rfl, b1, b2, b3⟩
  exact ⟨none, 0, rfl, Nat.le_refl _, row16_nil _ _ _ _, b1, b2, b3⟩
theorem one1 (sb : Nat) : OneC 38 #[] sb rd1 := by
  intro lo hi g c s w h hs hn hb
  refine (told_any h).mono ?_
  rintro en w' ⟨A, n, rfl, b1, b2, b3, b4⟩
  exact ⟨A, n, rfl, b1, b2, b3, blk_kept hs b4.kept (fun e => hn.1 e.symm), UpdS.of_upd b4 (.inl rfl)⟩
theorem one2 (sb : Nat) : OneC 40 #[] sb rd2 := by
  intro lo hi g c s w h hs hn hb
  refine (written_any h).mono ?_
  rintro en w' ⟨A, n, rfl, b1, b2, b3, b4⟩
  exact ⟨A, n, rfl, b1, b2, b3, blk_kept hs b4.kept (fun e => hn.1 e.symm), UpdS.of_upd b4 (.inl rfl)⟩
theorem OneC.use {fo : Nat} {lbo : Array Value} {sb : Nat} {rd : Rdp} (h : OneC fo lbo sb rd) {lo hi g : Nat} {c c' : Cu} {s s' : Int} {x : S43} {w : World} (ez : (c', x, s') = rd s c) (p : PAt lo hi w g c) (q : SumAt w sb s) (n : g ≠ sb ∧ (sb < lo ∨ hi ≤ sb)) (b : 0 ≤ s ∧ s ≤ 245) :
    Calls Try.prog fo (#[.pointer (some ⟨g, 0, none⟩)] ++ lbo) w fun en w' => ∃ A n, en = .returned (.agg (recC x.f0 x.f1 x.f2 (.slice A x.f3.length n))) ∧ x.f3.length ≤ n ∧ Row16 w.heap.size w'.heap.size w' A x.f3 ∧ PAt lo hi w' g c' ∧ SumAt w' sb s' ∧ UpdS (fun k => k = g ∨ k = sb) w w' := by
  have := h p q n b
  rw [← ez] at this
  exact this
structure Held2 (W0 : World) (gb gm sb l b2 b3 : Nat) (f : Value) : Prop where
  h2 : W0.cell? ⟨b2, 0, none⟩ = some (.pointer (some ⟨gb, 0, none⟩))
  h3 : W0.cell? ⟨b3, 0, none⟩ = some f
  n2 : b2 ≠ gb ∧ b2 ≠ gm ∧ b2 ≠ sb ∧ b2 ≠ l
  n3 : b3 ≠ gb ∧ b3 ≠ gm ∧ b3 ≠ sb ∧ b3 ≠ l
theorem Held2.at {W0 W : World} {gb gm sb l lo hi b2 b3 : Nat} {code s : Int} {rec : Loop} {c : Cu} {os : List S43} {raws : List RawR} {v f : Value} (k : Held2 W0 gb gm sb l b2 b3 f) (h : LS W0 gb gm sb l lo hi code rec W c s os raws v) : W.cell? ⟨b2, 0, none⟩ = some (.pointer (some ⟨gb, 0, none⟩)) ∧ W.cell? ⟨b3, 0, none⟩ = some f :=
  ⟨Go.Proofs.YtdjeekpgcjcffaaW.PrintWords.cell_kept k.h2 h.up.kept (by have := k.n2; show ¬ (b2 = gb ∨ b2 = gm ∨ b2 = sb ∨ b2 = l); omega), Go.Proofs.YtdjeekpgcjcffaaW.PrintWords.cell_kept k.h3 h.up.kept (by have := k.n3; show ¬ (b3 = gb ∨ b3 = gm ∨ b3 = sb ∨ b3 = l); omega)⟩
theorem fits_at {W0 Wr x3 x9 : World} {gb gm sb l lo hi : Nat} {code s : Int} {rec : Loop} {c : Cu} {os : List S43} {raws : List RawR} {v : Value} {r : RawR} {x : S43} (e0 : r.f0 = x.f0) (e1 : r.f1 = x.f1) (e2 : r.f2 = x.f2) (e3 : r.n = x.f3.length) (hz : x.f3.length ≤ r.c) (hr : Row16 Wr.heap.size x3.heap.size x3 r.A x.f3) (hb : Below x3.heap.size x3 x9) (h : LS W0 gb gm sb l lo hi code rec Wr c s os raws v) : ∀ W', Kept x9 W' (fun k => k < W0.heap.size ∨ v.ownBlock = some k) → FitsR W' r x := fun W' hk =>
  ⟨e0, e1, e2, e3, hz, hr W' ((Kept.of_below hb _).then_ hk fun j hj => .inl (by
    have := h.up.kept.1
    rcases hj with hj | hj
    · exact .inl (by omega)
    · have := (h.own j hj).2
      exact .inl (by omega)))⟩
theorem parts_step {rd : Rdp} {N k : Nat} {c0 c c' : Cu} {s s' : Int} {x : S43} {os : List S43} (h : partsG rd N 0 c0 = ((partsG rd (k + 1) s c).1, os ++ (partsG rd (k + 1) s c).2)) (hx : c.xs ≠ []) (he : c.e = 0) (e : (c', x, s') = rd s c) : partsG rd N 0 c0 = ((partsG rd k s' c').1, (os ++ [x]) ++ (partsG rd k s' c').2) := by
  rw [h]
  simp only [partsG]
  rw [if_neg (by simp [hx, he]), ← e]
  simp
theorem parts_stop {rd : Rdp} {N k : Nat} {c0 c : Cu} {s : Int} {os : List S43} (h : partsG rd N 0 c0 = ((partsG rd k s c).1, os ++ (partsG rd k s c).2)) (hx : c.xs = [] ∨ c.e ≠ 0) : c = (partsG rd N 0 c0).1 ∧ (c.e = 0 → os = (partsG rd N 0 c0).2) := by
  rw [h]
  have e : partsG rd k s c = (c, []) := by
    cases k with
    | zero => rfl
    | succ k => simp only [partsG]; rw [if_pos hx]
  rw [e]
  exact ⟨rfl, fun _ => by simp⟩
theorem parts_bad {rd : Rdp} {N k : Nat} {c0 c c' : Cu} {s s' : Int} {x : S43} {os : List S43} (h : partsG rd N 0 c0 = ((partsG rd (k + 1) s c).1, os ++ (partsG rd (k + 1) s c).2)) (hx : c.xs ≠ []) (he : c.e = 0) (e : (c', x, s') = rd s c) (hb : c'.e ≠ 0) : c' = (partsG rd N 0 c0).1 := by
  have := parts_step h hx he e
  exact (parts_stop this (.inr hb)).1
theorem iter0 {W0 : World} {gb gm sb l lo hi b2 b3 N : Nat} {code : Int} {rec : Loop} (L : Lay W0.heap.size gb gm sb l lo hi) (K : Held2 W0 gb gm sb l b2 b3 (.func (.func 34) #[] #[.pointer (some ⟨sb, 0, none⟩)])) : Iter rd0 #[.pointer (some ⟨b2, 0, none⟩), .pointer (some ⟨b3, 0, none⟩)] W0 gb gm sb l lo hi code rec N := by
  intro W c0 h0 hN hY
  have H0 := Aside0.mk h0
  have HN := Aside0.mk hN
  have HY := Aside0.mk hY
  have HL := Aside0.mk L
  have HKK := Aside0.mk K
  clear h0 hN hY L K
  show Calls Try.prog 42 #[.func (.yield l) #[] #[], .pointer (some ⟨b2, 0, none⟩), .pointer (some ⟨b3, 0, none⟩)] W _
  go_enter Try.func42, Try.ntmps42
  go_wp2
  go_loopw [4] (fun _ wr => ∃ (c : Cu) (s : Int) (os : List S43) (raws : List RawR) (v : Value) (k : Nat), Aside0 (LS W0 gb gm sb l lo hi code rec wr c s os raws v) ∧ Aside0 (c.xs.length ≤ k) ∧ Aside0 (c.e = 0 → 0 ≤ s ∧ s ≤ 245) ∧ Aside0 (partsG rd0 N 0 c0 = ((partsG rd0 k s c).1, os ++ (partsG rd0 k s c).2))) (fun _ wr => leftW wr gb)
  case atStart => exact ⟨c0, 0, [], [], _, N, H0, HN, ⟨fun _ => ⟨by decide, by decide⟩⟩, ⟨by simp⟩⟩
  case round =>
    clear H0
    obtain ⟨c, s, os, raws, v, k, H, HLE, HSB, HP⟩ := hrel
    obtain ⟨q2, q3⟩ := HKK.out.at H.out
    by_cases hx : c.xs = []
    · have hl : c.xs.length = 0 := by rw [hx]; rfl
      have HX := Aside0.mk (parts_stop HP.out (.inl hx))
      clear hx
      go_wp2_with (go_at_call 43; (with_reducible refine (p_left H.out.cur).mono ?_); rintro en x1 ⟨rfl, rfl⟩; rw [hl])
      exact bodyPost_end (results_none rfl _ _ _) rfl ⟨⟨_, rfl⟩, c, s, os, raws, v, H.out, HX.out⟩
    · have hl : 0 < (c.xs.length : Int) := by have := List.length_pos_iff.2 hx; omega
      have NX := Aside0.mk hx
      clear hx
      by_cases he : c.e = 0
      · have g1 : (c.e == 0) = true := by rw [he]; rfl
        have HE := Aside0.mk he
        clear he
        obtain ⟨⟨c', x, s'⟩, ez_⟩ : ∃ z, z = rd0 s c := ⟨_, rfl⟩
        have EZ := Aside0.mk ez_
        clear ez_
        have HC := Aside0.mk (show Calls Try.prog 34 #[.pointer (some ⟨gb, 0, none⟩), .pointer (some ⟨sb, 0, none⟩)] _ _ from OneC.use (one0 sb) EZ.out H.out.cur H.out.sum ⟨HL.out.ne.2.1, HL.out.out.2.1⟩ (HSB.out HE.out))
        have hlt_ := rdok0.lt s c H.out.cur.2 NX.out
        have hgr_ := rdok0.gd s c H.out.cur.2
        have hsm_ := rdok0.sm s c H.out.cur.2 (HSB.out HE.out).1 (HSB.out HE.out).2
        rw [← EZ.out] at hlt_ hgr_ hsm_
        have LT := Aside0.mk (show c'.xs.length < c.xs.length from hlt_)
        have GR := Aside0.mk (show goodR x from hgr_)
        have SM := Aside0.mk (show c'.e = 0 → 0 ≤ s' ∧ s' ≤ 245 from hsm_)
        clear hlt_ hgr_ hsm_
        go_upto_region 1 with (first | (go_at_call 43; (with_reducible refine (p_left H.out.cur).mono ?_); rintro en x1 ⟨rfl, rfl⟩) | (go_at_call 25; (with_reducible refine (p_err H.out.cur).mono ?_); rintro en x2 ⟨rfl, rfl⟩))
        go_upto_region 2 with (first | (go_at_call 34; (with_reducible refine HC.out.mono ?_); rintro en x3 ⟨A5, n5, rfl, hz_, hr_, hp_, hs_, hu_⟩; have RZ := Aside0.mk hz_; have RR := Aside0.mk hr_; have H1 := Aside0.mk (H.out.move HL.out hu_ hp_ hs_ (by have := H.out.bd; have := LT.out; omega)); have HU := Aside0.mk hu_; clear hz_ hr_ hp_ hs_ hu_ HC) | ((with_reducible refine gate_dst (N := 4) rfl ?_); refine ev_rec rfl rfl ?_; intro b4 w4 hg_ h1_ h2_; have G4 := Aside0.mk hg_; have A4 := Aside0.mk h1_; have B4 := Aside0.mk h2_; clear hg_ h1_ h2_) | ((with_reducible refine gate_op (u := .store 43 (.tmp 4) (.tmp 15)) rfl ?_); refine Same.wpList_store_row 43 (.tmp 4) (.tmp 15) rfl rfl rfl rfl A4.out rfl (rec_info rfl) recs_one ?_; intro x9 h3_ h4_; have A9 := Aside0.mk h3_; have B9 := Aside0.mk (B4.out.trans (h4_.below (by have := G4.out; omega) B4.out.size)); clear h3_ h4_))
        have H2 := Aside0.mk (H1.out.below HL.out B9.out)
        have FX := Aside0.mk (fits_at (r := ⟨x.f0, x.f1, x.f2, A5, x.f3.length, n5⟩) rfl rfl rfl rfl RZ.out RR.out B9.out H.out)
        obtain ⟨k', hk'⟩ : ∃ k', k = k' + 1 := ⟨k - 1, by have := HLE.out; omega⟩
        have HP2 := HP.out
        rw [hk'] at HP2
        have HP3 := Aside0.mk HP2
        have HKK' := Aside0.mk hk'
        clear HP2 hk'
        obtain ⟨q2', q3'⟩ := HKK.out.at H2.out
        by_cases he : c'.e = 0
        · have g2 : (c'.e != 0) = false := by rw [he]; rfl
          have HE2 := Aside0.mk he
          clear he
          obtain ⟨fn, tmps, assign, body, hy, hR⟩ := HY.out _ c' s' os raws v ⟨x.f0, x.f1, x.f2, A5, x.f3.length, n5⟩ x H2.out GR.out FX.out (by have := H.out.bd; have := LT.out; omega)
          have hy2 : (Instr.yield l #[.agg #[.int .u16 x.f0, .int .u16 x.f1, .int .u16 x.f2, .slice A5 x.f3.length n5]]).run Try.prog x9 = _ := hy
          clear hy
          have k0 := blk_cell A9.out 0
          have k1 := blk_cell A9.out 1
          have k2 := blk_cell A9.out 2
          have k3 := blk_cell A9.out 3
          simp only [recC, List.getElem?_toArray, List.getElem?_cons_zero, List.getElem?_cons_succ] at k0 k1 k2 k3
          have HRR := Aside0.mk hR
          clear hR
          refine (wpIn_wide (n := 6)).1 ?_
          gi_wp2_with (refine ⟨trivial, ?_⟩; gi_at_call 25; refine (callsIn_wide.2 (p_err H2.out.cur)).mono ?_; rintro en x5 ⟨rfl, rfl⟩)
          refine HRR.out.mono ?_
          rintro e W3 ⟨rfl, v', h9⟩
          have H9 := Aside0.mk h9
          clear h9
          gi_wp2
          go_wp2
          go_roundw
          case rel => exact ⟨c', s', os ++ [x], _, v', k', H9, ⟨by have := HLE.out; have := LT.out; have := HKK'.out; omega⟩, SM, ⟨parts_step HP3.out NX.out HE.out EZ.out⟩⟩
          case measure => rw [leftW_at H9.out.cur, leftW_at H.out.cur]; exact LT.out
        · have g2 : (c'.e != 0) = true := by simpa using he
          have HX := Aside0.mk (parts_bad HP3.out NX.out HE.out EZ.out he)
          have HX2 := Aside0.mk he
          clear he
          go_wp2_with (first | (go_at_call 25; (with_reducible refine (p_err H2.out.cur).mono ?_); rintro en x5 ⟨rfl, rfl⟩))
          refine bodyPost_ret (results_none rfl _ _ _) rfl ⟨⟨_, rfl⟩, c', s', os, raws, v, H2.out, HX.out, fun e => absurd e HX2.out⟩
      · have g1 : (c.e == 0) = false := by simpa using he
        have HX := Aside0.mk (parts_stop HP.out (.inr he))
        clear he
        go_wp2_with (first | (go_at_call 43; (with_reducible refine (p_left H.out.cur).mono ?_); rintro en x1 ⟨rfl, rfl⟩) | (go_at_call 25; (with_reducible refine (p_err H.out.cur).mono ?_); rintro en x2 ⟨rfl, rfl⟩))
        exact bodyPost_end (results_none rfl _ _ _) rfl ⟨⟨_, rfl⟩, c, s, os, raws, v, H.out, HX.out⟩
theorem iter1 {W0 : World} {gb gm sb l lo hi b2 b3 N : Nat} {code : Int} {rec : Loop} (L : Lay W0.heap.size gb gm sb l lo hi) (K : Held2 W0 gb gm sb l b2 b3 (.func (.func 38) #[] #[])) : Iter rd1 #[.pointer (some ⟨b2, 0, none⟩), .pointer (some ⟨b3, 0, none⟩)] W0 gb gm sb l lo hi code rec N := by
  intro W c0 h0 hN hY
  have H0 := Aside0.mk h0
  have HN := Aside0.mk hN
  have HY := Aside0.mk hY
  have HL := Aside0.mk L
  have HKK := Aside0.mk K
  clear h0 hN hY L K
  show Calls Try.prog 42 #[.func (.yield l) #[] #[], .pointer (some ⟨b2, 0, none⟩), .pointer (some ⟨b3, 0, none⟩)] W _
  go_enter Try.func42, Try.ntmps42
  go_wp2
  go_loopw [4] (fun _ wr => ∃ (c : Cu) (s : Int) (os : List S43) (raws : List RawR) (v : Value) (k : Nat), Aside0 (LS W0 gb gm sb l lo hi code rec wr c s os raws v) ∧ Aside0 (c.xs.length ≤ k) ∧ Aside0 (c.e = 0 → 0 ≤ s ∧ s ≤ 245) ∧ Aside0 (partsG rd1 N 0 c0 = ((partsG rd1 k s c).1, os ++ (partsG rd1 k s c).2))) (fun _ wr => leftW wr gb)
  case atStart => exact ⟨c0, 0, [], [], _, N, H0, HN, ⟨fun _ => ⟨by decide, by decide⟩⟩, ⟨by simp⟩⟩
  case round =>
    clear H0
    obtain ⟨c, s, os, raws, v, k, H, HLE, HSB, HP⟩ := hrel
    obtain ⟨q2, q3⟩ := HKK.out.at H.out
    by_cases hx : c.xs = []
    · have hl : c.xs.length = 0 := by rw [hx]; rfl
      have HX := Aside0.mk (parts_stop HP.out (.inl hx))
      clear hx
      go_wp2_with (go_at_call 43; (with_reducible refine (p_left H.out.cur).mono ?_); rintro en x1 ⟨rfl, rfl⟩; rw [hl])
      exact bodyPost_end (results_none rfl _ _ _) rfl ⟨⟨_, rfl⟩, c, s, os, raws, v, H.out, HX.out⟩
    · have hl : 0 < (c.xs.length : Int) := by have := List.length_pos_iff.2 hx; omega
      have NX := Aside0.mk hx
      clear hx
      by_cases he : c.e = 0
      · have g1 : (c.e == 0) = true := by rw [he]; rfl
        have HE := Aside0.mk he
        clear he
        obtain ⟨⟨c', x, s'⟩, ez_⟩ : ∃ z, z = rd1 s c := ⟨_, rfl⟩
        have EZ := Aside0.mk ez_
        clear ez_
        have HC := Aside0.mk (show Calls Try.prog 38 #[.pointer (some ⟨gb, 0, none⟩)] _ _ from OneC.use (one1 sb) EZ.out H.out.cur H.out.sum ⟨HL.out.ne.2.1, HL.out.out.2.1⟩ (HSB.out HE.out))
        have hlt_ := rdok1.lt s c H.out.cur.2 NX.out
        have hgr_ := rdok1.gd s c H.out.cur.2
        have hsm_ := rdok1.sm s c H.out.cur.2 (HSB.out HE.out).1 (HSB.out HE.out).2
        rw [← EZ.out] at hlt_ hgr_ hsm_
        have LT := Aside0.mk (show c'.xs.length < c.xs.length from hlt_)
        have GR := Aside0.mk (show goodR x from hgr_)
        have SM := Aside0.mk (show c'.e = 0 → 0 ≤ s' ∧ s' ≤ 245 from hsm_)
        clear hlt_ hgr_ hsm_
        go_upto_region 1 with (first | (go_at_call 43; (with_reducible refine (p_left H.out.cur).mono ?_); rintro en x1 ⟨rfl, rfl⟩) | (go_at_call 25; (with_reducible refine (p_err H.out.cur).mono ?_); rintro en x2 ⟨rfl, rfl⟩))
        go_upto_region 2 with (first | (go_at_call 38; (with_reducible refine HC.out.mono ?_); rintro en x3 ⟨A5, n5, rfl, hz_, hr_, hp_, hs_, hu_⟩; have RZ := Aside0.mk hz_; have RR := Aside0.mk hr_; have H1 := Aside0.mk (H.out.move HL.out hu_ hp_ hs_ (by have := H.out.bd; have := LT.out; omega)); have HU := Aside0.mk hu_; clear hz_ hr_ hp_ hs_ hu_ HC) | ((with_reducible refine gate_dst (N := 4) rfl ?_); refine ev_rec rfl rfl ?_; intro b4 w4 hg_ h1_ h2_; have G4 := Aside0.mk hg_; have A4 := Aside0.mk h1_; have B4 := Aside0.mk h2_; clear hg_ h1_ h2_) | ((with_reducible refine gate_op (u := .store 43 (.tmp 4) (.tmp 15)) rfl ?_); refine Same.wpList_store_row 43 (.tmp 4) (.tmp 15) rfl rfl rfl rfl A4.out rfl (rec_info rfl) recs_one ?_; intro x9 h3_ h4_; have A9 := Aside0.mk h3_; have B9 := Aside0.mk (B4.out.trans (h4_.below (by have := G4.out; omega) B4.out.size)); clear h3_ h4_))
        have H2 := Aside0.mk (H1.out.below HL.out B9.out)
        have FX := Aside0.mk (fits_at (r := ⟨x.f0, x.f1, x.f2, A5, x.f3.length, n5⟩) rfl rfl rfl rfl RZ.out RR.out B9.out H.out)
        obtain ⟨k', hk'⟩ : ∃ k', k = k' + 1 := ⟨k - 1, by have := HLE.out; omega⟩
        have HP2 := HP.out
        rw [hk'] at HP2
        have HP3 := Aside0.mk HP2
        have HKK' := Aside0.mk hk'
        clear HP2 hk'
        obtain ⟨q2', q3'⟩ := HKK.out.at H2.out
        by_cases he : c'.e = 0
        · have g2 : (c'.e != 0) = false := by rw [he]; rfl
          have HE2 := Aside0.mk he
          clear he
          obtain ⟨fn, tmps, assign, body, hy, hR⟩ := HY.out _ c' s' os raws v ⟨x.f0, x.f1, x.f2, A5, x.f3.length, n5⟩ x H2.out GR.out FX.out (by have := H.out.bd; have := LT.out; omega)
          have hy2 : (Instr.yield l #[.agg #[.int .u16 x.f0, .int .u16 x.f1, .int .u16 x.f2, .slice A5 x.f3.length n5]]).run Try.prog x9 = _ := hy
          clear hy
          have k0 := blk_cell A9.out 0
          have k1 := blk_cell A9.out 1
          have k2 := blk_cell A9.out 2
          have k3 := blk_cell A9.out 3
          simp only [recC, List.getElem?_toArray, List.getElem?_cons_zero, List.getElem?_cons_succ] at k0 k1 k2 k3
          have HRR := Aside0.mk hR
          clear hR
          refine (wpIn_wide (n := 6)).1 ?_
          gi_wp2_with (refine ⟨trivial, ?_⟩; gi_at_call 25; refine (callsIn_wide.2 (p_err H2.out.cur)).mono ?_; rintro en x5 ⟨rfl, rfl⟩)
          refine HRR.out.mono ?_
          rintro e W3 ⟨rfl, v', h9⟩
          have H9 := Aside0.mk h9
          clear h9
          gi_wp2
          go_wp2
          go_roundw
          case rel => exact ⟨c', s', os ++ [x], _, v', k', H9, ⟨by have := HLE.out; have := LT.out; have := HKK'.out; omega⟩, SM, ⟨parts_step HP3.out NX.out HE.out EZ.out⟩⟩
          case measure => rw [leftW_at H9.out.cur, leftW_at H.out.cur]; exact LT.out
        · have g2 : (c'.e != 0) = true := by simpa using he
          have HX := Aside0.mk (parts_bad HP3.out NX.out HE.out EZ.out he)
          have HX2 := Aside0.mk he
          clear he
          go_wp2_with (first | (go_at_call 25; (with_reducible refine (p_err H2.out.cur).mono ?_); rintro en x5 ⟨rfl, rfl⟩))
          refine bodyPost_ret (results_none rfl _ _ _) rfl ⟨⟨_, rfl⟩, c', s', os, raws, v, H2.out, HX.out, fun e => absurd e HX2.out⟩
      · have g1 : (c.e == 0) = false := by simpa using he
        have HX := Aside0.mk (parts_stop HP.out (.inr he))
        clear he
        go_wp2_with (first | (go_at_call 43; (with_reducible refine (p_left H.out.cur).mono ?_); rintro en x1 ⟨rfl, rfl⟩) | (go_at_call 25; (with_reducible refine (p_err H.out.cur).mono ?_); rintro en x2 ⟨rfl, rfl⟩))
        exact bodyPost_end (results_none rfl _ _ _) rfl ⟨⟨_, rfl⟩, c, s, os, raws, v, H.out, HX.out⟩
theorem iter2 {W0 : World} {gb gm sb l lo hi b2 b3 N : Nat} {code : Int} {rec : Loop} (L : Lay W0.heap.size gb gm sb l lo hi) (K : Held2 W0 gb gm sb l b2 b3 (.func (.func 40) #[] #[])) : Iter rd2 #[.pointer (some ⟨b2, 0, none⟩), .pointer (some ⟨b3, 0, none⟩)] W0 gb gm sb l lo hi code rec N := by
  intro W c0 h0 hN hY
  have H0 := Aside0.mk h0
  have HN := Aside0.mk hN
  have HY := Aside0.mk hY
  have HL := Aside0.mk L
  have HKK := Aside0.mk K
  clear h0 hN hY L K
  show Calls Try.prog 42 #[.func (.yield l) #[] #[], .pointer (some ⟨b2, 0, none⟩), .pointer (some ⟨b3, 0, none⟩)] W _
  go_enter Try.func42, Try.ntmps42
  go_wp2
  go_loopw [4] (fun _ wr => ∃ (c : Cu) (s : Int) (os : List S43) (raws : List RawR) (v : Value) (k : Nat), Aside0 (LS W0 gb gm sb l lo hi code rec wr c s os raws v) ∧ Aside0 (c.xs.length ≤ k) ∧ Aside0 (c.e = 0 → 0 ≤ s ∧ s ≤ 245) ∧ Aside0 (partsG rd2 N 0 c0 = ((partsG rd2 k s c).1, os ++ (partsG rd2 k s c).2))) (fun _ wr => leftW wr gb)
  case atStart => exact ⟨c0, 0, [], [], _, N, H0, HN, ⟨fun _ => ⟨by decide, by decide⟩⟩, ⟨by simp⟩⟩
  case round =>
    clear H0
    obtain ⟨c, s, os, raws, v, k, H, HLE, HSB, HP⟩ := hrel
    obtain ⟨q2, q3⟩ := HKK.out.at H.out
    by_cases hx : c.xs = []
    · have hl : c.xs.length = 0 := by rw [hx]; rfl
      have HX := Aside0.mk (parts_stop HP.out (.inl hx))
      clear hx
      go_wp2_with (go_at_call 43; (with_reducible refine (p_left H.out.cur).mono ?_); rintro en x1 ⟨rfl, rfl⟩; rw [hl])
      exact bodyPost_end (results_none rfl _ _ _) rfl ⟨⟨_, rfl⟩, c, s, os, raws, v, H.out, HX.out⟩
    · have hl : 0 < (c.xs.length : Int) := by have := List.length_pos_iff.2 hx; omega
      have NX := Aside0.mk hx
      clear hx
      by_cases he : c.e = 0
      · have g1 : (c.e == 0) = true := by rw [he]; rfl
        have HE := Aside0.mk he
        clear he
        obtain ⟨⟨c', x, s'⟩, ez_⟩ : ∃ z, z = rd2 s c := ⟨_, rfl⟩
        have EZ := Aside0.mk ez_
        clear ez_
        have HC := Aside0.mk (show Calls Try.prog 40 #[.pointer (some ⟨gb, 0, none⟩)] _ _ from OneC.use (one2 sb) EZ.out H.out.cur H.out.sum ⟨HL.out.ne.2.1, HL.out.out.2.1⟩ (HSB.out HE.out))
        have hlt_ := rdok2.lt s c H.out.cur.2 NX.out
        have hgr_ := rdok2.gd s c H.out.cur.2
        have hsm_ := rdok2.sm s c H.out.cur.2 (HSB.out HE.out).1 (HSB.out HE.out).2
        rw [← EZ.out] at hlt_ hgr_ hsm_
        have LT := Aside0.mk (show c'.xs.length < c.xs.length from hlt_)
        have GR := Aside0.mk (show goodR x from hgr_)
        have SM := Aside0.mk (show c'.e = 0 → 0 ≤ s' ∧ s' ≤ 245 from hsm_)
        clear hlt_ hgr_ hsm_
        go_upto_region 1 with (first | (go_at_call 43; (with_reducible refine (p_left H.out.cur).mono ?_); rintro en x1 ⟨rfl, rfl⟩) | (go_at_call 25; (with_reducible refine (p_err H.out.cur).mono ?_); rintro en x2 ⟨rfl, rfl⟩))
        go_upto_region 2 with (first | (go_at_call 40; (with_reducible refine HC.out.mono ?_); rintro en x3 ⟨A5, n5, rfl, hz_, hr_, hp_, hs_, hu_⟩; have RZ := Aside0.mk hz_; have RR := Aside0.mk hr_; have H1 := Aside0.mk (H.out.move HL.out hu_ hp_ hs_ (by have := H.out.bd; have := LT.out; omega)); have HU := Aside0.mk hu_; clear hz_ hr_ hp_ hs_ hu_ HC) | ((with_reducible refine gate_dst (N := 4) rfl ?_); refine ev_rec rfl rfl ?_; intro b4 w4 hg_ h1_ h2_; have G4 := Aside0.mk hg_; have A4 := Aside0.mk h1_; have B4 := Aside0.mk h2_; clear hg_ h1_ h2_) | ((with_reducible refine gate_op (u := .store 43 (.tmp 4) (.tmp 15)) rfl ?_); refine Same.wpList_store_row 43 (.tmp 4) (.tmp 15) rfl rfl rfl rfl A4.out rfl (rec_info rfl) recs_one ?_; intro x9 h3_ h4_; have A9 := Aside0.mk h3_; have B9 := Aside0.mk (B4.out.trans (h4_.below (by have := G4.out; omega) B4.out.size)); clear h3_ h4_))
        have H2 := Aside0.mk (H1.out.below HL.out B9.out)
        have FX := Aside0.mk (fits_at (r := ⟨x.f0, x.f1, x.f2, A5, x.f3.length, n5⟩) rfl rfl rfl rfl RZ.out RR.out B9.out H.out)
        obtain ⟨k', hk'⟩ : ∃ k', k = k' + 1 := ⟨k - 1, by have := HLE.out; omega⟩
        have HP2 := HP.out
        rw [hk'] at HP2
        have HP3 := Aside0.mk HP2
        have HKK' := Aside0.mk hk'
        clear HP2 hk'
        obtain ⟨q2', q3'⟩ := HKK.out.at H2.out
        by_cases he : c'.e = 0
        · have g2 : (c'.e != 0) = false := by rw [he]; rfl
          have HE2 := Aside0.mk he
          clear he
          obtain ⟨fn, tmps, assign, body, hy, hR⟩ := HY.out _ c' s' os raws v ⟨x.f0, x.f1, x.f2, A5, x.f3.length, n5⟩ x H2.out GR.out FX.out (by have := H.out.bd; have := LT.out; omega)
          have hy2 : (Instr.yield l #[.agg #[.int .u16 x.f0, .int .u16 x.f1, .int .u16 x.f2, .slice A5 x.f3.length n5]]).run Try.prog x9 = _ := hy
          clear hy
          have k0 := blk_cell A9.out 0
          have k1 := blk_cell A9.out 1
          have k2 := blk_cell A9.out 2
          have k3 := blk_cell A9.out 3
          simp only [recC, List.getElem?_toArray, List.getElem?_cons_zero, List.getElem?_cons_succ] at k0 k1 k2 k3
          have HRR := Aside0.mk hR
          clear hR
          refine (wpIn_wide (n := 6)).1 ?_
          gi_wp2_with (refine ⟨trivial, ?_⟩; gi_at_call 25; refine (callsIn_wide.2 (p_err H2.out.cur)).mono ?_; rintro en x5 ⟨rfl, rfl⟩)
          refine HRR.out.mono ?_
          rintro e W3 ⟨rfl, v', h9⟩
          have H9 := Aside0.mk h9
          clear h9
          gi_wp2
          go_wp2
          go_roundw
          case rel => exact ⟨c', s', os ++ [x], _, v', k', H9, ⟨by have := HLE.out; have := LT.out; have := HKK'.out; omega⟩, SM, ⟨parts_step HP3.out NX.out HE.out EZ.out⟩⟩
          case measure => rw [leftW_at H9.out.cur, leftW_at H.out.cur]; exact LT.out
        · have g2 : (c'.e != 0) = true := by simpa using he
          have HX := Aside0.mk (parts_bad HP3.out NX.out HE.out EZ.out he)
          have HX2 := Aside0.mk he
          clear he
          go_wp2_with (first | (go_at_call 25; (with_reducible refine (p_err H2.out.cur).mono ?_); rintro en x5 ⟨rfl, rfl⟩))
          refine bodyPost_ret (results_none rfl _ _ _) rfl ⟨⟨_, rfl⟩, c', s', os, raws, v, H2.out, HX.out, fun e => absurd e HX2.out⟩
      · have g1 : (c.e == 0) = false := by simpa using he
        have HX := Aside0.mk (parts_stop HP.out (.inr he))
        clear he
        go_wp2_with (first | (go_at_call 43; (with_reducible refine (p_left H.out.cur).mono ?_); rintro en x1 ⟨rfl, rfl⟩) | (go_at_call 25; (with_reducible refine (p_err H.out.cur).mono ?_); rintro en x2 ⟨rfl, rfl⟩))
        exact bodyPost_end (results_none rfl _ _ _) rfl ⟨⟨_, rfl⟩, c, s, os, raws, v, H.out, HX.out⟩
end Go.Proofs.Ytdjeekpgcjcffaa.Fil
end
section
namespace Go.Proofs.Ytdjeekpgcjcffaa.P
open Go.RowKit Go.Proofs.YtdjeekpgcjcffaaW.PrintWords Go.Proofs.YtdjeekpgcjcffaaW.PrintLast Go.Proofs.YtdjeekpgcjcffaaW.PrintMore
attribute [local go_sem] max2_int min2_int max_two min_two max_three min_three max_four min_four   -- for this text's walks alone
def files_within.f (a0 : Int) : Option (Int) := if a0 = 2 then (some 5) else (some a0)
theorem files_within.calls (a0 : Int) (r : Int) (w : World) (h : files_within.f a0 = some r) :
    Calls Try.prog 26 #[.int .i64 a0] w fun e w' => e = .returned (.int .i64 r) ∧ Drawn0 w w' := by
  have H : (if a0 = 2 then (some 5) else (some a0)) = some r := h
  clear h
  by_cases c2 : a0 = 2
  · rw [if_pos c2] at H
    have c2b0 : (a0 == 2) = true := beq_iff_eq.mpr c2
    have c2b1 : (a0 != 2) = false := bne_eq_false_iff_eq.mpr c2
    clear c2
    obtain rfl := Option.some.inj H
    go_enter Try.func26, Try.ntmps26
    go_wp2
    go_ret
    exact ⟨by first | rfl | (simp; done) | (simp [*]; done), by repeat (first | exact Drawn0.refl _ | apply Drawn0.step)⟩
  · rw [if_neg c2] at H
    have c2b0 : (a0 == 2) = false := beq_eq_false_iff_ne.mpr c2
    have c2b1 : (a0 != 2) = true := bne_iff_ne.mpr c2
    obtain rfl := Option.some.inj H
    go_enter Try.func26, Try.ntmps26
    go_wp2
    go_ret
    exact ⟨by first | rfl | (simp; done) | (simp [*]; done), by repeat (first | exact Drawn0.refl _ | apply Drawn0.step)⟩
end Go.Proofs.Ytdjeekpgcjcffaa.P
end
