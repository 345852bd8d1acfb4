/- The cursor: what lies behind its pointer, and what its functions answer (the program's cursor). Conditions: what each theorem states. -/
import Derived.Test.YthhkjmoppaopjaaProg
import Derived.Test.YthhkjmoppaopjaaEv
import Derived.Test.YthhkjmoppaopjaaWKept
import Derived.Test.YthhkjmoppaopjaaWMore
import Derived.Lib.SliceRun
set_option linter.unusedVariables false
set_option linter.unusedSimpArgs false
namespace Go.Proofs.Ythhkjmoppaopjaa.Cur
open Go.RowKit Go.Proofs.Ythhkjmoppaopjaa.E Go.Proofs.YthhkjmoppaopjaaW.PrintWords Go.Proofs.YthhkjmoppaopjaaW.PrintLast Go.Proofs.YthhkjmoppaopjaaW.PrintMore
/-- A row of bytes that lies in blocks from lo to hi: it stays what it is whatever else is written. -/
def Row (lo hi : Nat) (w : World) (A : Option Addr) (xs : List Int) : Prop := ∀ W', Kept w W' (fun k => k < lo ∨ hi ≤ k) → Kd.C (Kd.int .u8) W' A xs.length xs
theorem Row.now {lo hi : Nat} {w : World} {A : Option Addr} {xs : List Int} (h : Row lo hi w A xs) : Kd.C (Kd.int .u8) w A xs.length xs := h w (Kept.refl _ _)
theorem Row.on {lo hi : Nat} {w w' : World} {A : Option Addr} {xs : List Int} (h : Row lo hi w A xs) (hk : Kept w w' (fun k => k < lo ∨ hi ≤ k)) : Row lo hi w' A xs := fun W' hk' => h W' (hk.then_ hk' (fun _ h2 => .inl h2))
theorem Row.nil (lo hi : Nat) (w : World) : Row lo hi w none [] := fun W' _ => Kd.C_nil _ W'
theorem Row.wide {lo hi lo' hi' : Nat} {w : World} {A : Option Addr} {xs : List Int} (h : Row lo hi w A xs) (h1 : lo' ≤ lo) (h2 : hi ≤ hi') : Row lo' hi' w A xs := fun W' hk => h W' (hk.mono fun k hk => by omega)
theorem row_of_R {w1 : World} {e : Nat} {ok : Nat → Prop} {A : Option Addr} {n c lo : Nat} {xs : List Int} (h : Kd.R (Kd.int .u8) e w1 lo ok (.slice A n c) xs) : n = xs.length ∧ xs.length ≤ c ∧ Row lo w1.heap.size w1 A xs := by
  have h2 := Kd.R_reads' h
  obtain ⟨rfl, h3, _⟩ := h2
  exact ⟨rfl, h3, Kd.C_kept_own (Kd.R_bound h) (fun k hk => by omega)⟩
/-- But for block g all is as it was. -/
structure Upd (g : Nat) (w w' : World) : Prop where
  os : w'.os = w.os
  tape : w'.tape = w.tape
  output : w'.output = w.output
  kept : Kept w w' (fun k => k = g)
theorem Upd.refl (g : Nat) (w : World) : Upd g w w := ⟨rfl, rfl, rfl, Kept.refl _ _⟩
theorem Upd.of_below {g : Nat} {w w' : World} (h : Below w.heap.size w w') : Upd g w w' := ⟨h.os, h.tape, h.output, Kept.of_below h _⟩
theorem Upd.trans {g : Nat} {a b c : World} (h : Upd g a b) (k : Upd g b c) : Upd g a c := ⟨k.os.trans h.os, k.tape.trans h.tape, k.output.trans h.output, h.kept.then_ k.kept (fun _ h2 => .inl h2)⟩
theorem Upd.set (w : World) (g i : Nat) (v : Value) : Upd g w (w.setCell ⟨g, i, none⟩ v) := ⟨rfl, rfl, rfl, (Kept.refl w (fun k => k = g)).setCell (p := ⟨g, i, none⟩) (.inl rfl) v⟩
theorem Upd.below {g B : Nat} {w w' : World} (h : Upd g w w') (hB : B ≤ g) (hs : B ≤ w.heap.size) : Below B w w' := ⟨h.os, h.tape, h.output, h.kept.1, fun k hk => h.kept.2 k (by omega) (by omega)⟩
/-- A cursor at block g: what is left (its bytes lie in blocks from lo to hi), whether it is short, what was wrong first. -/
def At (lo hi : Nat) (w : World) (g : Nat) (xs : List Int) (s : Bool) (e : Int) : Prop :=
  hi ≤ g ∧ ∃ A c, w.heap[g]? = some (.cells #[.slice A xs.length c, .bool s, .int .i64 e] 50 (0, 0)) ∧ xs.length ≤ c ∧ Row lo hi w A xs
theorem At.lt {lo hi : Nat} {w : World} {g : Nat} {xs : List Int} {s : Bool} {e : Int} (h : At lo hi w g xs s e) : g < w.heap.size := by
  obtain ⟨_, A, c, h1, _⟩ := h
  exact blk_lt h1
/-- What writes neither to the cursor nor to its bytes leaves it as it is. -/
theorem At.on {lo hi : Nat} {w w' : World} {g : Nat} {xs : List Int} {s : Bool} {e : Int} {S : Nat → Prop} (h : At lo hi w g xs s e) (hk : Kept w w' S) (h1 : ∀ k, S k → k < lo ∨ hi ≤ k) (h2 : ¬ S g) : At lo hi w' g xs s e := by
  obtain ⟨h3, A, c, h4, h5, h6⟩ := h
  exact ⟨h3, A, c, blk_kept h4 hk h2, h5, h6.on (hk.mono h1)⟩
theorem At.below {lo hi : Nat} {w w' : World} {g : Nat} {xs : List Int} {s : Bool} {e : Int} (h : At lo hi w g xs s e) (hb : Below w.heap.size w w') : At lo hi w' g xs s e :=
  h.on (Kept.of_below hb (fun _ => False)) (fun _ h => h.elim) (fun h => h)
theorem cells_of {w : World} {g : Nat} {t : TypeId} {v0 v1 v2 : Value} (h : w.heap[g]? = some (.cells #[v0, v1, v2] t (0, 0))) : w.cell? ⟨g, 0, none⟩ = some v0 ∧ w.cell? ⟨g, 1, none⟩ = some v1 ∧ w.cell? ⟨g, 2, none⟩ = some v2 ∧ w.frozen? ⟨g, 0, none⟩ = false ∧ w.frozen? ⟨g, 1, none⟩ = false ∧ w.frozen? ⟨g, 2, none⟩ = false :=
  ⟨blk_cell h 0, blk_cell h 1, blk_cell h 2, blk_frozen h 0, blk_frozen h 1, blk_frozen h 2⟩
set_option maxHeartbeats 4000000 in
set_option maxRecDepth 100000 in
theorem clone_any (A : Option Addr) (c : Nat) (l : List Int) (w : World) (hr : Kd.C (Kd.int .u8) w A l.length l) (hc : l.length ≤ c) (hs : l.length ≤ 1000000) :
    Calls Try.prog 28 #[.slice A l.length c] w fun e w' => ∃ A' c', e = .returned (.slice A' l.length c') ∧ l.length ≤ c' ∧ Row w.heap.size w'.heap.size w' A' l ∧ Below w.heap.size w w' := by
  have HR := Aside0.mk hr
  clear hr
  have hu1 := Try.underlying22
  have hq := fun (w : World) (a : Option Addr) (n c : Nat) => Lib.run_eql_slice_nil (P := Try.prog) w 22 5 a n c 0 0 Try.underlying22
  cases A with
  | none =>
    have hl : l = [] := by
      cases l with
      | nil => rfl
      | cons x xs => obtain ⟨_, h, _⟩ := HR.out.2.2 (by simp); cases h
    subst hl
    go_enter Try.func28, Try.ntmps28
    go_wp2
    go_ret
    exact ⟨none, 0, rfl, Nat.le_refl _, Row.nil _ _ _, Below.refl _ _⟩
  | some a =>
    go_enter Try.func28, Try.ntmps28
    go_upto_region 3 with (fail)
    refine wp_region_lit ?_
    refine Kd.R_lit (Kd.int .u8) w.heap.size 5 rfl (N := 5) rfl (xs := ([] : List Int)) (inner := []) (ok := fun _ => True) (okp := fun _ => True) ?h1 ?h2 (fun _ h => h) trivial (Below.refl _ _) (Nat.le_refl _) (by simp) ?_
    case h1 => first | (go_simp; done) | (go_simp; rfl)
    case h2 => exact Reps.none _ _
    intro v1 w1 R1 B1 _ _
    refine Kd.event_run (v := .slice (some a) l.length c) rfl (by first | (go_simp; done) | (go_simp; rfl)) ?_
    simp only [Act.put, List.setIfInBounds_toArray, List.set_cons_zero, List.set_cons_succ]
    refine Kd.R_append_rows (Kd.int .u8) (Rr := (Kd.int .u8).K w1) w.heap.size rfl (.tmp 5) (.tmp 6) 22 5 (.int .u8 0) 1 rfl hu1 (by kernel_rfl) rfl (by decide) (by decide) v1 [] l (some a) l.length c (fun _ => True) (fun k => True ∧ some k ≠ v1.ownBlock) rfl rfl R1 (Kd.C_below HR.out B1) (fun _ _ h => h) (fun _ h => h) (fun _ _ => trivial) B1 B1.size (by simp; omega) ?_
    intro v2 w2 R2 B2 _ _
    obtain ⟨A2, c2, rfl, h2, h3⟩ := Kd.R_reads R2
    obtain ⟨_, h5, h6⟩ := row_of_R R2
    rw [List.nil_append] at h2 h5 h6
    have H2 := Aside0.mk h5
    have H6 := Aside0.mk h6
    have H7 := Aside0.mk B2
    clear h2 h5 h6 B2 h3 R2
    go_wp2
    go_ret
    exact ⟨A2, c2, rfl, H2.out, H6.out, H7.out⟩
set_option maxHeartbeats 4000000 in
set_option maxRecDepth 100000 in
theorem new_any (A : Option Addr) (c : Nat) (l : List Int) (w : World) (hr : Kd.C (Kd.int .u8) w A l.length l) (hc : l.length ≤ c) (hs : l.length ≤ 1000000) :
    Calls Try.prog 9 #[.slice A l.length c] w fun e w' => ∃ g, e = .returned (.pointer (some ⟨g, 0, none⟩)) ∧ w.heap.size ≤ g ∧ At w.heap.size g w' g l false 0 ∧ Below w.heap.size w w' ∧ w'.heap.size = g + 1 := by
  have HR := Aside0.mk hr
  clear hr
  have hu1 := Try.underlying50
  go_enter Try.func9, Try.ntmps9
  go_wp2_with (go_at_call 28; refine (clone_any _ _ _ _ HR.out hc hs).mono ?_; rintro e w1 ⟨A1, c1, rfl, h1, h2, h3⟩; have H1 := Aside0.mk h1; have H2 := Aside0.mk h2; have H3 := Aside0.mk h3; clear h1 h2 h3)
  go_ret
  refine ⟨w1.heap.size, rfl, H3.out.size, ⟨Nat.le_refl _, A1, c1, blk_new _ _, H1.out, H2.out.on (Kept.of_below (below_alloc (Below.refl _ _) _) _)⟩, below_alloc H3.out _, by simp⟩
set_option maxHeartbeats 4000000 in
set_option maxRecDepth 100000 in
theorem need_any (lo hi g : Nat) (xs : List Int) (s : Bool) (e : Int) (ok : Bool) (f : Int) (w : World) (h : At lo hi w g xs s e) :
    Calls Try.prog 17 #[.pointer (some ⟨g, 0, none⟩), .bool ok, .int .i64 f] w fun en w' => en = .returned (.tuple #[]) ∧ At lo hi w' g xs s (if e = 0 ∧ ok = false then f else e) ∧ Upd g w w' := by
  obtain ⟨h1, A, c, h2, h3, h4⟩ := h
  obtain ⟨k0, k1, k2, f0, f1, f2⟩ := cells_of h2
  have H2 := Aside0.mk h2
  have H4 := Aside0.mk h4
  clear h2 h4
  have hu1 := Try.underlying50
  by_cases he : e = 0
  · subst he
    cases ok with
    | false =>
      go_enter Try.func17, Try.ntmps17
      go_wp2
      refine bodyPost_end (results_none rfl _ _ _) rfl ⟨rfl, ⟨h1, A, c, ?_, h3, ?_⟩, Upd.set _ _ _ _⟩
      · exact blk_put H2.out 2 _ rfl
      · exact H4.out.on ((Upd.set w g 2 _).kept.mono (fun k hk => .inr (by omega)))
    | true =>
      go_enter Try.func17, Try.ntmps17
      go_wp2
      exact bodyPost_end (results_none rfl _ _ _) rfl ⟨rfl, ⟨h1, A, c, H2.out, h3, H4.out⟩, Upd.refl _ _⟩
  · have he2 : (e == 0) = false := beq_eq_false_iff_ne.2 he
    have he3 : (e != 0) = true := bne_iff_ne.2 he
    rw [if_neg (fun hh => he hh.1)]
    clear he
    go_enter Try.func17, Try.ntmps17
    go_wp2
    exact bodyPost_end (results_none rfl _ _ _) rfl ⟨rfl, ⟨h1, A, c, H2.out, h3, H4.out⟩, Upd.refl _ _⟩
theorem left_any (lo hi g : Nat) (xs : List Int) (s : Bool) (e : Int) (w : World) (h : At lo hi w g xs s e) :
    Calls Try.prog 13 #[.pointer (some ⟨g, 0, none⟩)] w fun en w' => en = .returned (.int .i64 xs.length) ∧ w' = w := by
  obtain ⟨h1, A, c, h2, h3, h4⟩ := h
  obtain ⟨k0, k1, k2, f0, f1, f2⟩ := cells_of h2
  clear h2 h4
  have hu1 := Try.underlying50
  go_enter Try.func13, Try.ntmps13
  go_wp2
  go_ret
  exact ⟨rfl, rfl⟩
theorem short_any (lo hi g : Nat) (xs : List Int) (s : Bool) (e : Int) (w : World) (h : At lo hi w g xs s e) :
    Calls Try.prog 12 #[.pointer (some ⟨g, 0, none⟩)] w fun en w' => en = .returned (.bool s) ∧ w' = w := by
  obtain ⟨h1, A, c, h2, h3, h4⟩ := h
  obtain ⟨k0, k1, k2, f0, f1, f2⟩ := cells_of h2
  clear h2 h4
  have hu1 := Try.underlying50
  go_enter Try.func12, Try.ntmps12
  go_wp2
  go_ret
  exact ⟨rfl, rfl⟩
theorem err_any (lo hi g : Nat) (xs : List Int) (s : Bool) (e : Int) (w : World) (h : At lo hi w g xs s e) :
    Calls Try.prog 16 #[.pointer (some ⟨g, 0, none⟩)] w fun en w' => en = .returned (.int .i64 e) ∧ w' = w := by
  obtain ⟨h1, A, c, h2, h3, h4⟩ := h
  obtain ⟨k0, k1, k2, f0, f1, f2⟩ := cells_of h2
  clear h2 h4
  have hu1 := Try.underlying50
  go_enter Try.func16, Try.ntmps16
  go_wp2
  go_ret
  exact ⟨rfl, rfl⟩
/-- What is read: bytes, or none when there are too few. -/
def okB (n : Int) (xs : List Int) (s : Bool) : Bool := !s && decide (0 ≤ n) && decide (n ≤ (xs.length : Int))
def fstE (e f : Int) : Int := if e = 0 then f else e
set_option maxHeartbeats 4000000 in
set_option maxRecDepth 100000 in
theorem bytes_short (lo hi g : Nat) (xs : List Int) (s : Bool) (e n : Int) (w : World) (h : At lo hi w g xs s e) (hn : s = true ∨ n < 0 ∨ (xs.length : Int) < n) :
    Calls Try.prog 10 #[.pointer (some ⟨g, 0, none⟩), .int .i64 n] w fun en w' => en = .returned (.slice none 0 0) ∧ At lo hi w' g [] true (fstE e 2) ∧ Upd g w w' := by
  have HA := Aside0.mk h
  obtain ⟨h1, A, c, h2, h3, h4⟩ := h
  obtain ⟨k0, k1, k2, f0, f1, f2⟩ := cells_of h2
  have H2 := Aside0.mk h2
  clear h2 h4
  have hu1 := Try.underlying50
  have HN : ∀ W, W = (w.setCell ⟨g, 0, none⟩ (.slice none 0 0)).setCell ⟨g, 1, none⟩ (.bool true) → At lo hi W g [] true e ∧ Upd g w W := by
    rintro W rfl
    refine ⟨⟨h1, none, 0, blk_put (blk_put H2.out 0 _ rfl) 1 _ rfl, Nat.le_refl _, Row.nil _ _ _⟩, (Upd.set _ _ _ _).trans (Upd.set _ _ _ _)⟩
  have HNN := Aside0.mk HN
  clear HN
  have fin : ∀ W, At lo hi W g [] true e → Calls Try.prog 17 #[.pointer (some ⟨g, 0, none⟩), .bool false, .int .i64 2] W fun en w' => en = .returned (.tuple #[]) ∧ At lo hi w' g [] true (fstE e 2) ∧ Upd g W w' := by
    intro W hW
    have := need_any lo hi g [] true e false 2 W hW
    simpa [fstE] using this
  have FIN := Aside0.mk fin
  clear fin
  cases s with
  | true =>
    go_enter Try.func10, Try.ntmps10
    go_wp2_with (go_at_call 17; obtain ⟨a1, a2⟩ := HNN.out _ rfl; refine (FIN.out _ a1).mono ?_; rintro en w1 ⟨rfl, b1, b2⟩; have R1 := Aside0.mk b1; have R2 := Aside0.mk (a2.trans b2); clear a1 a2 b1 b2)
    go_ret
    exact ⟨rfl, R1.out, R2.out⟩
  | false =>
    by_cases c1 : n < 0
    · go_enter Try.func10, Try.ntmps10
      go_wp2_with (go_at_call 17; obtain ⟨a1, a2⟩ := HNN.out _ rfl; refine (FIN.out _ a1).mono ?_; rintro en w1 ⟨rfl, b1, b2⟩; have R1 := Aside0.mk b1; have R2 := Aside0.mk (a2.trans b2); clear a1 a2 b1 b2)
      go_ret
      exact ⟨rfl, R1.out, R2.out⟩
    · have c2 : (xs.length : Int) < n := by rcases hn with h | h | h <;> first | cases h | exact absurd h c1 | exact h
      have c3 : decide (n > (xs.length : Int)) = true := decide_eq_true c2
      go_enter Try.func10, Try.ntmps10
      go_wp2_with (go_at_call 17; obtain ⟨a1, a2⟩ := HNN.out _ rfl; refine (FIN.out _ a1).mono ?_; rintro en w1 ⟨rfl, b1, b2⟩; have R1 := Aside0.mk b1; have R2 := Aside0.mk (a2.trans b2); clear a1 a2 b1 b2)
      go_ret
      exact ⟨rfl, R1.out, R2.out⟩
theorem Row.take {lo hi m : Nat} {w : World} {A : Option Addr} {xs : List Int} (h : Row lo hi w A xs) (hm : m ≤ xs.length) : Row lo hi w A (xs.take m) := fun W' hk => Kd.C_take (h W' hk) hm
theorem Row.drop {lo hi m c : Nat} {w : World} {A : Option Addr} {xs : List Int} (h : Row lo hi w A xs) (hm : m ≤ xs.length) (hc : xs.length ≤ c) : Row lo hi w (if c = m then A else A.map (·.add (m * 1))) (xs.drop m) := fun W' hk => Kd.C_drop (h W' hk) hm hc
theorem u8_info : ∃ i, Try.prog.info? 5 = some i ∧ i.size = 1 := by
  have h : (Try.prog.info? 5).map (·.size) = some 1 := by kernel_rfl
  obtain ⟨i, h1, h2⟩ := Option.map_eq_some_iff.1 h
  exact ⟨i, h1, h2⟩
set_option maxHeartbeats 4000000 in
set_option maxRecDepth 100000 in
theorem bytes_ok (lo hi g : Nat) (xs : List Int) (e : Int) (m : Nat) (w : World) (h : At lo hi w g xs false e) (hm : m ≤ xs.length) (hl : xs.length ≤ 1000000) :
    Calls Try.prog 10 #[.pointer (some ⟨g, 0, none⟩), .int .i64 m] w fun en w' => ∃ A' c', en = .returned (.slice A' (xs.take m).length c') ∧ (xs.take m).length ≤ c' ∧ Row w.heap.size w'.heap.size w' A' (xs.take m) ∧ At lo hi w' g (xs.drop m) false e ∧ Upd g w w' := by
  obtain ⟨h1, A, c, h2, h3, h4⟩ := h
  obtain ⟨k0, k1, k2, f0, f1, f2⟩ := cells_of h2
  have H2 := Aside0.mk h2
  have H4 := Aside0.mk h4
  clear h2 h4
  have hu1 := Try.underlying50
  obtain ⟨i, hi1, hi2⟩ := u8_info
  have cut1 := cut_to 22 5 .i64 Try.underlying22 hi1 A xs.length c (m : Int) (by omega) (by omega) h3
  have cut2 := cut_from 22 5 .i64 Try.underlying22 hi1 1 hi2 A xs.length c (m : Int) (by omega) (by omega)
  simp only [Int.toNat_natCast] at cut1 cut2
  obtain ⟨A2, hA2⟩ : ∃ A2, A2 = if c = m then A else A.map fun x => x.add (m * 1) := ⟨_, rfl⟩
  rw [← hA2] at cut2
  have HA2 := Aside0.mk hA2
  clear hi1 hA2
  have hlt : (xs.take m).length = m := by rw [List.length_take]; omega
  have c1 : decide ((m : Int) < 0) = false := decide_eq_false (by omega)
  have c2 : decide ((m : Int) > (xs.length : Int)) = false := decide_eq_false (by omega)
  have c3 : decide ((xs.length : Int) < (m : Int)) = false := decide_eq_false (by omega)
  have cl : Calls Try.prog 28 #[.slice A m c] w fun e w' => ∃ A' c', e = .returned (.slice A' m c') ∧ m ≤ c' ∧ Row w.heap.size w'.heap.size w' A' (xs.take m) ∧ Below w.heap.size w w' := by
    have := clone_any A c (xs.take m) w (Row.now (H4.out.take hm)) (by omega) (by omega)
    rw [hlt] at this
    exact this
  have CL := Aside0.mk cl
  clear cl
  rw [hlt]
  go_enter Try.func10, Try.ntmps10
  go_wp2_with (go_at_call 28; refine CL.out.mono ?_; rintro en w1 ⟨A', c', rfl, b1, b2, b3⟩; have q0 := (b3.cell (World.block_lt_of_cell? w _ k0)).trans k0; have z0 := (b3.frozen (World.block_lt_of_cell? w _ k0)).trans f0; have N1 := Aside0.mk b1; have N2 := Aside0.mk b2; have N3 := Aside0.mk b3; clear b1 b2 b3)
  go_ret
  have b4 := (N3.out.block _ (blk_lt H2.out)).trans H2.out
  have hgw := blk_lt H2.out
  have K := Upd.set w1 g 0 (.slice A2 (xs.length - m) (c - m))
  refine ⟨A', c', rfl, N1.out, (N2.out.on (K.kept.mono (fun k hk => .inl (by omega)))).wide (Nat.le_refl _) K.kept.1, ⟨h1, A2, c - m, ?_, ?_, ?_⟩, (Upd.of_below N3.out).trans K⟩
  · rw [List.length_drop]
    exact blk_put b4 0 _ rfl
  · rw [List.length_drop]; omega
  · have := ((H4.out.drop hm h3).on (Kept.of_below N3.out _)).on (K.kept.mono (fun k hk => .inr (by omega)))
    rw [← HA2.out] at this
    exact this
theorem at_row {lo hi : Nat} {w : World} {A : Option Addr} {xs : List Int} (h : Row lo hi w A xs) (i : Nat) (hi : i < xs.length) : ∃ ad, A = some ad ∧ w.cell? (ad.add i) = some (.int .u8 (xs.getD i 0)) := by
  obtain ⟨ad, e, h2⟩ := Kd.at_int h.now (i : Int) (by omega) (by omega)
  rw [Int.toNat_natCast] at h2
  refine ⟨ad, e, h2.trans ?_⟩
  simp [rd]
set_option maxHeartbeats 4000000 in
set_option maxRecDepth 100000 in
theorem byte_ok (lo hi g : Nat) (x : Int) (xs : List Int) (e : Int) (w : World) (h : At lo hi w g (x :: xs) false e) (hl : (x :: xs).length ≤ 1000000) :
    Calls Try.prog 19 #[.pointer (some ⟨g, 0, none⟩)] w fun en w' => en = .returned (.int .u8 x) ∧ At lo hi w' g xs false e ∧ Upd g w w' := by
  have HB := Aside0.mk (bytes_ok lo hi g (x :: xs) e 1 w h (by simp) hl)
  clear h
  go_enter Try.func19, Try.ntmps19
  go_wp2_with (go_at_call 10; refine HB.out.mono ?_; rintro en w1 ⟨A', c', rfl, b1, b2, b3, b4⟩; obtain ⟨ad, rfl, q0⟩ := at_row b2 0 (by simp); have N3 := Aside0.mk b3; have N4 := Aside0.mk b4; clear b1 b2 b3 b4 HB)
  have q1 : w1.cell? ad = some (.int .u8 x) := by have := q0; rw [Addr.add_zero'] at this; exact this
  clear q0
  go_loopw [8] (fun i wr => i = .int .i64 0 ∧ wr = w1) (fun i _ => 0)
  case atStart => exact ⟨rfl, rfl⟩
  case round =>
    obtain ⟨rfl, rfl⟩ := hrel
    go_wp2
    go_ret
    exact ⟨rfl, N3.out, N4.out⟩
set_option maxHeartbeats 4000000 in
set_option maxRecDepth 100000 in
theorem byte_short (lo hi g : Nat) (xs : List Int) (s : Bool) (e : Int) (w : World) (h : At lo hi w g xs s e) (hs : s = true ∨ xs = []) :
    Calls Try.prog 19 #[.pointer (some ⟨g, 0, none⟩)] w fun en w' => en = .returned (.int .u8 0) ∧ At lo hi w' g [] true (fstE e 2) ∧ Upd g w w' := by
  have HB := Aside0.mk (bytes_short lo hi g xs s e 1 w h (by rcases hs with h | rfl; exact .inl h; exact .inr (.inr (by simp))))
  clear h
  go_enter Try.func19, Try.ntmps19
  go_wp2_with (go_at_call 10; refine HB.out.mono ?_; rintro en w1 ⟨rfl, b3, b4⟩; have N3 := Aside0.mk b3; have N4 := Aside0.mk b4; clear b3 b4 HB)
  go_loopw [8] (fun i wr => i = .int .i64 0 ∧ wr = w1) (fun i _ => 0)
  case atStart => exact ⟨rfl, rfl⟩
  case round =>
    obtain ⟨rfl, rfl⟩ := hrel
    go_wp2
    go_ret
    exact ⟨rfl, N3.out, N4.out⟩
set_option maxHeartbeats 4000000 in
set_option maxRecDepth 100000 in
theorem end_any (lo hi g : Nat) (xs : List Int) (s : Bool) (e : Int) (w : World) (h : At lo hi w g xs s e) :
    Calls Try.prog 18 #[.pointer (some ⟨g, 0, none⟩)] w fun en w' => en = .returned (.tuple #[]) ∧ At lo hi w' g xs s (if xs = [] then e else fstE e 3) ∧ Upd g w w' := by
  have fin := need_any lo hi g xs s e (decide (xs = [])) 3 w h
  have hb : ((xs.length : Int) == 0) = decide (xs = []) := by cases xs <;> simp; omega
  have hb2 : (xs.length == 0) = decide (xs = []) := by cases xs <;> simp
  have e2 : (if e = 0 ∧ decide (xs = []) = false then 3 else e) = (if xs = [] then e else fstE e 3) := by
    unfold fstE
    by_cases hx : xs = [] <;> simp [hx]
  rw [e2] at fin
  clear e2
  generalize (if xs = [] then e else fstE e 3) = E at fin ⊢
  have FIN := Aside0.mk fin
  clear fin
  generalize decide (xs = []) = q at *
  obtain ⟨h1, A, c, h2, h3, h4⟩ := h
  obtain ⟨k0, k1, k2, f0, f1, f2⟩ := cells_of h2
  clear h2 h4
  have hu1 := Try.underlying50
  go_enter Try.func18, Try.ntmps18
  go_wp2_with (go_at_call 17; (try rw [hb]); refine FIN.out.mono ?_; rintro en w1 ⟨rfl, b1, b2⟩; have N1 := Aside0.mk b1; have N2 := Aside0.mk b2; clear b1 b2 FIN)
  exact bodyPost_end (results_none rfl _ _ _) rfl ⟨rfl, N1.out, N2.out⟩
end Go.Proofs.Ythhkjmoppaopjaa.Cur
