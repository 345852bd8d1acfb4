/- CursorParts, walked. -/
import Derived.Test.YthhkjmoppaopjaaLaw06
import Derived.Test.YthhkjmoppaopjaaRef01
set_option linter.unusedVariables false
set_option linter.unusedSimpArgs false
namespace Go.Proofs.Ythhkjmoppaopjaa.Laws
open Go.RowKit Go.Proofs.Ythhkjmoppaopjaa.P Go.Proofs.Ythhkjmoppaopjaa.E Go.Proofs.Ythhkjmoppaopjaa.Cur Go.Proofs.YthhkjmoppaopjaaW.PrintWords Go.Proofs.YthhkjmoppaopjaaW.PrintLast Go.Proofs.YthhkjmoppaopjaaW.PrintMore
theorem u8_wfd {n : Int} (h : (Lit.int .u8 n).wf = true) : 0 ≤ n ∧ n < 256 := by
  simp only [Lit.wf, IntKind.min, IntKind.max, IntKind.signed, IntKind.bits, Bool.and_eq_true, decide_eq_true_eq] at h
  simp at h
  omega
/-- A row of bytes of the law's own, in blocks from lo to hi: it may be written. -/
def Own (lo hi : Nat) (w : World) (A : Option Addr) (n c : Nat) (xs : List Int) : Prop := Kd.R (Kd.int .u8) 5 w lo (fun k => lo ≤ k ∧ k < hi) (.slice A n c) xs
theorem Own.of_R {lo : Nat} {w : World} {ok : Nat → Prop} {A : Option Addr} {n c : Nat} {xs : List Int} (h : Kd.R (Kd.int .u8) 5 w lo ok (.slice A n c) xs) : Own lo w.heap.size w A n c xs := Kd.R_mono (Kd.R_bound h) (fun k hk => ⟨hk.2.1, hk.2.2.1⟩)
theorem Own.on {lo hi : Nat} {w w' : World} {A : Option Addr} {n c : Nat} {xs : List Int} {S : Nat → Prop} (h : Own lo hi w A n c xs) (hk : Kept w w' S) (hs : ∀ k, S k → k < lo ∨ hi ≤ k) : Own lo hi w' A n c xs := Kd.R_kept h hk (fun k hk2 hS => by have := hs k hS; omega)
theorem Own.reads {lo hi : Nat} {w : World} {A : Option Addr} {n c : Nat} {xs : List Int} (h : Own lo hi w A n c xs) : n = xs.length ∧ n ≤ c ∧ Kd.C (Kd.int .u8) w A xs.length xs := Kd.R_reads' h
theorem Own.some_ {lo hi : Nat} {w : World} {A : Option Addr} {n c : Nat} {xs : List Int} (h : Own lo hi w A n c xs) (hn : 0 < n) : ∃ g, A = some ⟨g, 0, none⟩ ∧ lo ≤ g ∧ g < hi := by
  have h0 := h
  obtain ⟨h1, inner, ho, hr⟩ := h0
  rcases ho.2 with ⟨h2, h3⟩ | ⟨g, cap, cur, h2, _⟩
  · injection h2 with h4 h5 h6
    omega
  · injection h2 with h4 h5 h6
    subst h4
    have := h1 g (by simp [Value.ownBlock])
    exact ⟨g, rfl, this⟩
theorem Own.put {lo hi : Nat} {w : World} {g n c : Nat} {xs : List Int} (h : Own lo hi w (some ⟨g, 0, none⟩) n c xs) (j : Nat) (x : Int) : Own lo hi (w.setCell ⟨g, j, none⟩ (.int .u8 x)) (some ⟨g, 0, none⟩) n c (xs.set j x) := by
  have e := h.reads.1
  subst e
  have := (Kd.R_putg (enc := Value.int .u8) (h1 := fun _ => rfl) h (j : Int) x).1
  rw [Int.toNat_natCast] at this
  exact this
theorem Own.cell {lo hi : Nat} {w : World} {g n c : Nat} {xs : List Int} (h : Own lo hi w (some ⟨g, 0, none⟩) n c xs) (j : Nat) (hj : j < n) : w.cell? ⟨g, j, none⟩ = some (.int .u8 (xs.getD j 0)) ∧ w.frozen? ⟨g, j, none⟩ = false := by
  have := Kd.R_celln (enc := Value.int .u8) (h1 := fun _ => rfl) (0 : Int) h (j : Int) (by omega) (by omega)
  rw [Int.toNat_natCast] at this
  simpa [rdOf] using this
theorem parts_all (lo hi g : Nat) (xs : List Int) (e : Int) (m : Nat) (w : World) (h : At lo hi w g xs false e) (hm : xs.length = m) (hl : xs.length ≤ 1000000) :
    Calls Try.prog 10 #[.pointer (some ⟨g, 0, none⟩), .int .i64 m] w fun en w' => ∃ A' c', en = .returned (.slice A' xs.length c') ∧ xs.length ≤ c' ∧ Row w.heap.size w'.heap.size w' A' xs ∧ At lo hi w' g [] false e ∧ Upd g w w' := by
  have := bytes_ok lo hi g xs e m w h (by omega) hl
  rw [List.take_of_length_le (by omega), List.drop_of_length_le (by omega)] at this
  exact this

set_option maxHeartbeats 16000000 in
set_option maxRecDepth 100000 in
theorem parts_long (A : Option Addr) (c : Nat) (l : List Int) (n : Int) (w : World) (hr : Kd.C (Kd.int .u8) w A l.length l) (hc : l.length ≤ c) (hl : 200 < l.length) :
    Calls Try.prog 3 #[.slice A l.length c, .int .u8 n] w fun en w' => en = .returned (.bool true) ∧ Below w.heap.size w w' := by
  have HB := Aside0.mk (Below.refl w.heap.size w)
  have c1 : decide ((l.length : Int) > 200) = true := decide_eq_true (by omega)
  have c2_ : decide ((200 : Int) < (l.length : Int)) = true := decide_eq_true (by omega)
  clear hr
  go_enter Try.func3, Try.ntmps3
  go_wp2_with (go_at_call 8; refine (awake_any _).mono ?_; rintro en w1 ⟨rfl, b1⟩; have n0_ := Aside0.mk (HB.out.trans (b1.mono HB.out.size)); clear b1 HB; have HB := n0_; clear n0_)
  go_ret
  exact ⟨rfl, HB.out⟩
set_option maxHeartbeats 16000000 in
set_option maxRecDepth 100000 in
theorem parts_go (A : Option Addr) (c : Nat) (l : List Int) (n : Int) (w : World) (hr : Kd.C (Kd.int .u8) w A l.length l) (hc : l.length ≤ c) (hl : ¬ 200 < l.length) (hb : isBytes l) (h0 : 0 ≤ n) (h1 : n < 256) :
    Calls Try.prog 3 #[.slice A l.length c, .int .u8 n] w fun en w' => en = .returned (.bool true) ∧ Below w.heap.size w w' := by
  have HB := Aside0.mk (Below.refl w.heap.size w)
  have c1 : decide ((l.length : Int) > 200) = false := decide_eq_false (by omega)
  have c2_ : decide ((200 : Int) < (l.length : Int)) = false := decide_eq_false (by omega)
  obtain ⟨k, hk⟩ : ∃ k : Nat, Int.tmod n ((l.length : Int) + 1) = (k : Int) := ⟨(n % ((l.length : Int) + 1)).toNat, by rw [tmod_id h0]; have := Int.emod_nonneg n (show ((l.length : Int) + 1) ≠ 0 by omega); omega⟩
  have hk2 : k ≤ l.length := by
    have h5 := Int.emod_lt_of_pos n (show (0 : Int) < (l.length : Int) + 1 by omega)
    rw [tmod_id h0] at hk
    omega
  have c3 : wrap64 ((l.length : Int) + 1) = (l.length : Int) + 1 := wrap64_id (by omega) (by omega)
  have c5 : wrap64 n = n := wrap64_id (by omega) (by omega)
  have c6 : wrap64 (k : Int) = (k : Int) := wrap64_id (by omega) (by omega)
  have c7 : ((l.length : Int) + 1 == 0) = false := beq_eq_false_iff_ne.2 (by omega)
  have c8 : ((l.length : Int) + 1 = 0) = False := eq_false (by omega)
  have HR := Aside0.mk hr
  clear hr
  have hu1 := Try.underlying22
  go_enter Try.func3, Try.ntmps3
  go_upto_region 4 with (go_at_call 8; refine (awake_any _).mono ?_; rintro en w1 ⟨rfl, b1⟩; have n0_ := Aside0.mk (HB.out.trans (b1.mono HB.out.size)); clear b1 HB; have HB := n0_; clear n0_)
  go_upto_region 5 with (fail)
  refine wp_region_lit ?_
  refine Kd.R_lit (Kd.int .u8) (w0 := w) w.heap.size 5 rfl (N := 26) rfl (xs := ([] : List Int)) (inner := []) (ok := fun _ => True) (okp := fun _ => True) ?h1 ?h2 (fun _ h => h) trivial HB.out HB.out.size (by simp) ?_
  case h1 => first | (go_simp; done) | (go_simp; rfl)
  case h2 => exact Reps.none _ _
  intro v1 wa R1 B1 _ _
  refine Kd.event_run (v := .slice A l.length c) rfl (by first | (go_simp; done) | (go_simp; rfl)) ?_
  simp only [Act.put, List.setIfInBounds_toArray, List.set_cons_zero, List.set_cons_succ]
  refine Kd.R_append_rows (Kd.int .u8) (Rr := (Kd.int .u8).K wa) (w0 := w) w.heap.size rfl (.tmp 26) (.tmp 27) 22 5 (.int .u8 0) 1 rfl hu1 (by kernel_rfl) rfl (by decide) (by decide) v1 [] l A l.length c (fun _ => True) (fun k => True ∧ some k ≠ v1.ownBlock) rfl rfl R1 (Kd.C_below HR.out B1) (fun _ _ h => h) (fun _ h => h) (fun _ _ => trivial) B1 B1.size (by simp; omega) ?_
  intro v2 wb R2 B2 _ _
  rw [List.nil_append] at R2
  obtain ⟨A2, c2, rfl, h2, h3⟩ := Kd.R_reads R2
  have n0_ := Aside0.mk B2
  have HBb := Aside0.mk B2.size
  have HO := Aside0.mk (Own.of_R R2)
  have HO3 := Aside0.mk h2
  obtain ⟨hi, hhi⟩ : ∃ z, z = wb.heap.size := ⟨_, rfl⟩
  rw [← hhi] at HO
  clear HB R1 R2 B1 B2 h2 h3
  have HB := n0_
  clear n0_
  go_upto_region 7 with (go_at_call 9; refine (new_any A2 c2 l _ HO.out.reads.2.2 HO3.out (by omega)).mono ?_; rintro en w3 ⟨g1, rfl, b1, b2, b3, b4⟩; have hg1 := b1; have HC := Aside0.mk b2; have HO1 := Aside0.mk (HO.out.on (Kept.of_below b3 (fun _ => False)) (fun _ h => h.elim)); have HS1 := Aside0.mk b4; have n0_ := Aside0.mk (HB.out.trans (b3.mono HB.out.size)); clear b1 b2 b3 b4 HB; have HB := n0_; clear n0_)
  go_upto_region 8 with (go_at_call 9; refine (new_any A2 c2 l _ HO1.out.reads.2.2 HO3.out (by omega)).mono ?_; rintro en w4 ⟨g2, rfl, b1, b2, b3, b4⟩; have hg2 := b1; have HD := Aside0.mk b2; have HC2 := Aside0.mk (HC.out.below b3); have HO2 := Aside0.mk (HO1.out.on (Kept.of_below b3 (fun _ => False)) (fun _ h => h.elim)); have n0_ := Aside0.mk (HB.out.trans (b3.mono HB.out.size)); clear b1 b2 b3 b4 HB HC HO HO1; have HB := n0_; clear n0_)
  go_upto_region 10 with (fail)
  go_wp2
  have e1 : hi ≤ wb.heap.size := by omega
  have e2 : hi ≤ w3.heap.size := by have := HS1.out; omega
  have e3 : g1 < w3.heap.size := by have := HS1.out; omega
  have e4 : w.heap.size ≤ wb.heap.size := HBb.out
  go_loopw [10] (fun i wr => ∃ j : Nat, j ≤ l.length ∧ i = .int .i64 j ∧ (∃ ys, Aside0 (Own w.heap.size hi wr A2 l.length c2 ys)) ∧ Aside0 (At wb.heap.size g1 wr g1 l false 0) ∧ Aside0 (At w3.heap.size g2 wr g2 l false 0) ∧ Aside0 (Below w.heap.size w wr)) (fun i _ => l.length - (intOf i).toNat)
  case atStart => exact ⟨0, Nat.zero_le _, rfl, ⟨l, HO2⟩, HC2, HD, HB⟩
  case round =>
    obtain ⟨j, hj, rfl, ⟨ys, HO4⟩, HC4, HD4, HB4⟩ := hrel
    clear HO2 HC2 HD HB
    by_cases hlt : j < l.length
    · obtain ⟨g, rfl, hg3, hg4⟩ := HO4.out.some_ (by omega)
      obtain ⟨x0, x1⟩ := HO4.out.cell j hlt
      obtain ⟨y, hy⟩ : ∃ z, z = ys.getD j 0 := ⟨_, rfl⟩
      rw [← hy] at x0
      clear hy
      go_wp2
      go_roundw
      case rel =>
        have K : ∀ v, Kept wr (wr.setCell ⟨g, j, none⟩ v) (fun k => k = g) := fun v => (Upd.set wr g j v).kept
        exact ⟨j + 1, by omega, by go_num, ⟨_, ⟨HO4.out.put j _⟩⟩, ⟨HC4.out.on (K _) (fun k hk => .inl (by omega)) (by omega)⟩, ⟨HD4.out.on (K _) (fun k hk => .inl (by omega)) (by omega)⟩, ⟨HB4.out.setCell (p := ⟨g, j, none⟩) hg3 _⟩⟩
      case measure => simp [intOf]; omega
    · have e5 : w.heap.size ≤ g1 := by omega
      have e6 : w.heap.size ≤ g2 := by omega
      have e7 : g1 < wr.heap.size := HC4.out.lt
      have e8 : g2 < wr.heap.size := HD4.out.lt
      obtain ⟨D, hD⟩ : ∃ D, D = l.length - k := ⟨_, rfl⟩
      have c9 : wrap64 ((l.length : Int) - (k : Int)) = (l.length : Int) - (k : Int) := wrap64_id (by omega) (by omega)
      have hDk : (D : Int) = (l.length : Int) - (k : Int) := by omega
      obtain ⟨X, hX⟩ : ∃ X, X = l.take k := ⟨_, rfl⟩
      obtain ⟨Y, hY⟩ : ∃ Y, Y = l.drop k := ⟨_, rfl⟩
      have hXY : X ++ Y = l := by rw [hX, hY]; exact List.take_append_drop k l
      have hXl : X.length ≤ 200 := by rw [hX, List.length_take]; omega
      have hYl : Y.length ≤ 200 := by rw [hY, List.length_drop]; omega
      have S1 := bytes_ok wb.heap.size g1 g1 l 0 k wr HC4.out hk2 (by omega)
      rw [← hX, ← hY] at S1
      have S2 := fun (W : World) (h : At wb.heap.size g1 W g1 Y false 0) => parts_all wb.heap.size g1 g1 Y 0 D W h (by rw [hY, List.length_drop, hD]) (by omega)
      rw [hDk] at S2
      have S3 := fun (W : World) (h : At w3.heap.size g2 W g2 l false 0) => parts_all w3.heap.size g2 g2 l 0 l.length W h rfl (by omega)
      have T1 := Aside0.mk S1
      have T2 := Aside0.mk S2
      have T3 := Aside0.mk S3
      have HXY := Aside0.mk hXY
      clear S1 S2 S3 hX hY hXY HO4 hD hDk
      go_upto_region 14 with (fail)
      go_upto_region 15 with (go_at_call 10; refine T1.out.mono ?_; rintro en w5 ⟨A5, c5_, rfl, b1, b2, b3, b4⟩; have N5 := Aside0.mk b1; have X5 := Aside0.mk b2; have L5 := Aside0.mk b4.kept.1; have HC5 := Aside0.mk b3; have HD5 := Aside0.mk (HD4.out.on b4.kept (fun k hk => .inl (by omega)) (by omega)); have HB5 := Aside0.mk (step_b HB4.out e5 b4); clear b1 b2 b3 b4 HC4 HD4 HB4 T1)
      go_upto_region 16 with (go_at_call 10; refine (T2.out _ HC5.out).mono ?_; rintro en w6 ⟨A6, c6_, rfl, b1, b2, b3, b4⟩; have N6 := Aside0.mk b1; have Y6 := Aside0.mk b2; have X6 := Aside0.mk (X5.out.on (b4.kept.mono (fun k hk => .inl (by omega)))); have L6 := Aside0.mk b4.kept.1; have HC6 := Aside0.mk b3; have HD6 := Aside0.mk (HD5.out.on b4.kept (fun k hk => .inl (by omega)) (by omega)); have HB6 := Aside0.mk (step_b HB5.out e5 b4); clear b1 b2 b3 b4 HC5 HD5 HB5 X5 T2)
      go_upto_region 17 with (go_at_call 10; refine (T3.out _ HD6.out).mono ?_; rintro en w7 ⟨A7, c7_, rfl, b1, b2, b3, b4⟩; have N7 := Aside0.mk b1; have Z7 := Aside0.mk b2; have X7 := Aside0.mk (X6.out.on (b4.kept.mono (fun k hk => .inl (by omega)))); have Y7 := Aside0.mk (Y6.out.on (b4.kept.mono (fun k hk => .inl (by have := L5.out; omega)))); have HC7 := Aside0.mk (HC6.out.on b4.kept (fun k hk => .inr (by omega)) (by omega)); have HB7 := Aside0.mk (step_b HB6.out e6 b4); clear b1 b2 b3 b4 HC6 HD6 HB6 X6 Y6 T3)
      refine wp_region_lit ?_
      refine Kd.R_lit (Kd.int .u8) (w0 := w7) w7.heap.size 5 rfl (N := 66) rfl (xs := ([] : List Int)) (inner := []) (ok := fun _ => True) (okp := fun _ => True) ?h3 ?h4 (fun _ h => h) trivial (Below.refl _ _) (Nat.le_refl _) (by simp) ?_
      case h3 => first | (go_simp; done) | (go_simp; rfl)
      case h4 => exact Reps.none _ _
      intro v1 wp R1 B1 _ _
      refine Kd.event_run (v := .slice A5 X.length c5_) rfl (by first | (go_simp; done) | (go_simp; rfl)) ?_
      simp only [Act.put, List.setIfInBounds_toArray, List.set_cons_zero, List.set_cons_succ]
      refine Kd.R_append_rows (Kd.int .u8) (Rr := (Kd.int .u8).K wp) (w0 := w7) w7.heap.size rfl (.tmp 66) (.tmp 67) 22 5 (.int .u8 0) 1 rfl hu1 (by kernel_rfl) rfl (by decide) (by decide) v1 [] X A5 X.length c5_ (fun _ => True) (fun k => True ∧ some k ≠ v1.ownBlock) rfl rfl R1 (Kd.C_below X7.out.now B1) (fun _ _ h => h) (fun _ h => h) (fun _ _ => trivial) B1 B1.size (by simp; omega) ?_
      intro v2 wq R2 B2 _ _
      rw [List.nil_append] at R2
      refine Kd.event_run (v := .slice A6 Y.length c6_) rfl (by first | (go_simp; done) | (go_simp; rfl)) ?_
      simp only [Act.put, List.setIfInBounds_toArray, List.set_cons_zero, List.set_cons_succ]
      refine Kd.R_append_rows (Kd.int .u8) (Rr := (Kd.int .u8).K wq) (w0 := w7) w7.heap.size rfl (.tmp 68) (.tmp 69) 22 5 (.int .u8 0) 1 rfl hu1 (by kernel_rfl) rfl (by decide) (by decide) v2 X Y A6 Y.length c6_ (fun _ => True) (fun k => True ∧ some k ≠ v2.ownBlock) rfl rfl R2 (Kd.C_below Y7.out.now B2) (fun _ _ h => h) (fun _ h => h) (fun _ _ => trivial) B2 B2.size (by omega) ?_
      intro v3 wz R3 B3 _ _
      rw [HXY.out] at R3
      obtain ⟨A8, c8_, rfl, h8, h9⟩ := Kd.R_reads R3
      have N8 := Aside0.mk h8
      have X8 := Aside0.mk h9
      have Z8 := Aside0.mk (Kd.C_below Z7.out.now B3)
      have HC8 := Aside0.mk (HC7.out.below B3)
      have HB8 := Aside0.mk (HB7.out.trans (B3.mono HB7.out.size))
      have SM := Aside0.mk (show busbarref01_Same.f l l = some true by rw [R01.same_eq hb hb]; simp)
      clear R1 R2 R3 B1 B2 B3 h8 h9 HC7 HB7 X7 Y7 Z7
      go_upto_region 18 with (go_at_call 11; refine (busbarref01_Same.calls _ _ l _ _ l _ _ X8.out N8.out Z8.out N7.out SM.out).mono ?_; rintro en wy ⟨rfl, ⟨nd1, rfl⟩⟩)
      have W1 := Aside0.mk (busbarref01_Same.calls A7 c7_ l A c l true (wz.drewN nd1) (Kd.C_below Z8.out (pw_below_drewN (Below.refl _ _) _)) N7.out (Kd.C_below HR.out (pw_below_drewN HB8.out _)) hc SM.out)
      have W2 := Aside0.mk (fun nd2 : Nat => short_any _ _ _ _ _ _ _ (HC8.out.below (pw_below_drewN (Below.refl wz.heap.size wz) nd2)))
      have W3 := Aside0.mk (fun nd2 : Nat => left_any _ _ _ _ _ _ _ (HC8.out.below (pw_below_drewN (Below.refl wz.heap.size wz) nd2)))
      go_wp2_with (first | (go_at_call 11; refine W1.out.mono ?_; rintro en wx ⟨rfl, ⟨nd2, rfl⟩⟩) | (go_at_call 12; refine (W2.out _).mono ?_; rintro en wu ⟨rfl, rfl⟩) | (go_at_call 13; refine (W3.out _).mono ?_; rintro en wv ⟨rfl, rfl⟩))
      go_ret
      exact ⟨rfl, pw_below_drewN HB8.out _⟩

theorem busbarlaw06_CursorParts (A : Option Addr) (c : Nat) (l : List Int) (n : Int) (w : World) (hr : Kd.C (Kd.int .u8) w A l.length l) (hc : l.length ≤ c) (hm : l.length ≤ maxLen) (hw : ∀ x ∈ l, (Lit.int .u8 x).wf = true) (wn : (Lit.int .u8 n).wf = true) :
    Calls Try.prog 3 #[.slice A l.length c, .int .u8 n] w fun en w' => en = .returned (.bool true) ∧ Below w.heap.size w w' := by
  obtain ⟨h0, h1⟩ := u8_wfd wn
  by_cases hl : 200 < l.length
  · exact parts_long A c l n w hr hc hl
  · exact parts_go A c l n w hr hc hl (fun x hx => u8_wfd (hw x hx)) h0 h1
end Go.Proofs.Ythhkjmoppaopjaa.Laws
