/- CursorReads, walked. -/
import Derived.Test.YthhkjmoppaopjaaLaw06
import Derived.Test.YthhkjmoppaopjaaAct
import Derived.Test.YthhkjmoppaopjaaCu
import Derived.Test.YthhkjmoppaopjaaRef01
set_option linter.unusedVariables false
set_option linter.unusedSimpArgs false
namespace Go.Proofs.Ythhkjmoppaopjaa.Laws
open Go.RowKit Go.Proofs.Ythhkjmoppaopjaa.P Go.Proofs.Ythhkjmoppaopjaa.E Go.Proofs.Ythhkjmoppaopjaa.Cur Go.Proofs.Ythhkjmoppaopjaa.RCur Go.Proofs.Ythhkjmoppaopjaa.Cu Go.Proofs.YthhkjmoppaopjaaW.PrintWords Go.Proofs.YthhkjmoppaopjaaW.PrintLast Go.Proofs.YthhkjmoppaopjaaW.PrintMore
theorem PAt.drew_ {lo hi : Nat} {w : World} {g : Nat} {c : Cu} (h : PAt lo hi w g c) : PAt lo hi w.drew g c := h.on (S := fun _ => False) (Kept.refl w _).drew (fun _ h => h.elim) (fun h => h)
theorem QAt.drew_ {hi : Nat} {w : World} {g : Nat} {c : Cu} (h : QAt hi w g c) : QAt hi w.drew g c := h.on (S := fun _ => False) (Kept.refl w _).drew (fun _ h => h.elim) (fun h => h)
def lreads.T12 : Bool × List (List Nat × List Nat) := (true, [([], []), ([], []), ([], []), ([1, 2], [1, 2]), ([3], [3]), ([4], [4]), ([0, 5], [0, 5]), ([], []), ([], []), ([], []), ([8, 9], [8, 9]), ([10], [10]), ([11], [11]), ([7, 12, 6], [7, 12]), ([6, 13, 13], [6, 13]), ([14], [14])])
def lreads.B12 : List Nat := [0, 0, 0, 6, 14, 30, 63, 0, 0, 0, 768, 1792, 3840, 8191, 16383, 32767]
theorem lreads.tab12 : rtab .any (opsOf Try.f7 12) = lreads.T12 := by kernel_rfl
theorem lreads.bits12 : waitsOk lreads.T12.2 lreads.B12 = true := by kernel_rfl
def lreads.T21 : Bool × List (List Nat × List Nat) := (true, [([], []), ([], []), ([], []), ([1, 2], [1, 2]), ([3], [3]), ([4], [4]), ([0, 5], [0, 5]), ([], []), ([], []), ([], []), ([8, 9], [8, 9]), ([10], [10]), ([11], [11]), ([7, 12, 6], [7, 12]), ([6, 13, 13], [6, 13]), ([14], [14])])
def lreads.B21 : List Nat := [0, 0, 0, 6, 14, 30, 63, 0, 0, 0, 768, 1792, 3840, 8191, 16383, 32767]
theorem lreads.tab21 : rtab .any (opsOf Try.f7 21) = lreads.T21 := by kernel_rfl
theorem lreads.bits21 : waitsOk lreads.T21.2 lreads.B21 = true := by kernel_rfl
def lreads.T24 : Bool × List (List Nat × List Nat) := (true, [([], []), ([], []), ([], []), ([1, 2], [1, 2]), ([3], [3]), ([4], [4]), ([5], [5]), ([], []), ([], []), ([7, 8], [7, 8]), ([9], [9]), ([10], [10]), ([0, 6, 11], [0, 6, 11])])
def lreads.B24 : List Nat := [0, 0, 0, 6, 14, 30, 62, 0, 0, 384, 896, 1920, 4095]
theorem lreads.tab24 : rtab .any (opsOf Try.f7 24) = lreads.T24 := by kernel_rfl
theorem lreads.bits24 : waitsOk lreads.T24.2 lreads.B24 = true := by kernel_rfl
def lreads.T25 : Bool × List (List Nat × List Nat) := (true, [([], []), ([], []), ([], []), ([1, 2], [1, 2]), ([3], [3]), ([4], [4]), ([5], [5]), ([], []), ([], []), ([7, 8], [7, 8]), ([9], [9]), ([10], [10]), ([0, 6, 11], [0, 6, 11])])
def lreads.B25 : List Nat := [0, 0, 0, 6, 14, 30, 62, 0, 0, 384, 896, 1920, 4095]
theorem lreads.tab25 : rtab .any (opsOf Try.f7 25) = lreads.T25 := by kernel_rfl
theorem lreads.bits25 : waitsOk lreads.T25.2 lreads.B25 = true := by kernel_rfl
def lreads.T29 : Bool × List (List Nat × List Nat) := (true, [([], []), ([0], [0]), ([], []), ([2, 1], [2]), ([1, 3], [1, 3]), ([4, 3], [4]), ([5], [5]), ([6, 5, 5], [5, 6]), ([5], [5]), ([8, 5], [5, 8]), ([9, 5], [5, 9]), ([10, 5], [5, 10]), ([7, 11, 5], [5, 7, 11]), ([5, 12], [5, 12]), ([13, 7], [13]), ([14], [14]), ([15, 14, 14], [14, 15]), ([14], [14]), ([17, 14], [14, 17]), ([18, 14], [14, 18]), ([19, 14], [14, 19]), ([16, 20, 14], [14, 16, 20]), ([14, 21], [14, 21])])
def lreads.B29 : List Nat := [0, 1, 0, 7, 15, 31, 63, 127, 63, 319, 831, 1855, 4095, 8191, 16383, 32767, 65535, 32767, 163839, 425983, 950271, 2097151, 4194303]
theorem lreads.tab29 : rtab .any (opsOf Try.f7 29) = lreads.T29 := by kernel_rfl
theorem lreads.bits29 : waitsOk lreads.T29.2 lreads.B29 = true := by kernel_rfl

theorem wordsV_len (c : Cu) (n : Int) : (c.wordsV n).length ≤ c.xs.length := by
  unfold Cu.wordsV
  split
  · unfold Take.words
    split
    · rw [Take.pre_length, List.length_take]; omega
    · exact Nat.zero_le _
  · exact Nat.zero_le _
theorem u8_wfr {n : Int} (h : (Lit.int .u8 n).wf = true) : 0 ≤ n ∧ n < 256 := by
  simp only [Lit.wf, IntKind.min, IntKind.max, IntKind.signed, IntKind.bits, Bool.and_eq_true, decide_eq_true_eq] at h
  simp at h
  omega
theorem same_self {l : List Int} (hb : isBytes l) (A3 : Option Addr) (c3 : Nat) (A4 : Option Addr) (c4 : Nat) (W : World) (r3 : Kd.C (Kd.int .u8) W A3 l.length l) (z3 : l.length ≤ c3) (r4 : Kd.C (Kd.int .u8) W A4 l.length l) (z4 : l.length ≤ c4) :
    Calls Try.prog 11 #[.slice A3 l.length c3, .slice A4 l.length c4] W fun e w' => e = .returned (.bool true) ∧ Below W.heap.size W w' := by
  refine (busbarref01_Same.calls A3 c3 l A4 c4 l true W r3 z3 r4 z4 (by rw [R01.same_eq hb hb]; simp)).mono ?_
  rintro e w' ⟨rfl, n, rfl⟩
  exact ⟨rfl, pw_below_drewN (Below.refl _ _) _⟩
theorem wsame_self {l : List Int} (A3 : Option Addr) (c3 : Nat) (A4 : Option Addr) (c4 : Nat) (W : World) (r3 : Kd.C (Kd.int .u16) W A3 l.length l) (z3 : l.length ≤ c3) (r4 : Kd.C (Kd.int .u16) W A4 l.length l) (z4 : l.length ≤ c4) (hl : l.length ≤ 1000000) :
    Calls Try.prog 25 #[.slice A3 l.length c3, .slice A4 l.length c4] W fun e w' => e = .returned (.bool true) ∧ Below W.heap.size W w' := by
  have h0 := R01.words_ev l l (by omega)
  rw [beq_self_eq_true] at h0
  obtain ⟨k, hk⟩ := h0.rounds
  refine (busbarref01_Words.calls k A3 c3 l A4 c4 l true W r3 z3 r4 z4 hk).mono ?_
  rintro e w' ⟨rfl, n, rfl⟩
  exact ⟨rfl, pw_below_drewN (Below.refl _ _) _⟩

set_option maxHeartbeats 16000000 in
set_option maxRecDepth 100000 in
theorem reads_long (A : Option Addr) (c : Nat) (l : List Int) (A2 : Option Addr) (c2 : Nat) (q : List S41) (w : World) (hr : Kd.C (Kd.int .u8) w A l.length l) (hc : l.length ≤ c) (hr2 : Kd.C k41 w A2 q.length q) (hc2 : q.length ≤ c2) (hl : 200 < l.length) :
    Calls Try.prog 7 #[.slice A l.length c, .slice A2 q.length c2] w fun en w' => en = .returned (.bool true) ∧ Below w.heap.size w w' := by
  have HB := Aside0.mk (Below.refl w.heap.size w)
  have c1 : decide ((l.length : Int) > 200) = true := decide_eq_true (by omega)
  have c2_ : decide ((200 : Int) < (l.length : Int)) = true := decide_eq_true (by omega)
  clear hr hr2
  go_enter Try.func7, Try.ntmps7
  go_wp2_with (go_at_call 8; refine (awake_any _).mono ?_; rintro en w1 ⟨rfl, b1⟩; have n0_ := Aside0.mk (HB.out.trans (b1.mono HB.out.size)); clear b1 HB; have HB := n0_; clear n0_)
  go_ret
  exact ⟨rfl, HB.out⟩
set_option maxHeartbeats 16000000 in
set_option maxRecDepth 100000 in
theorem reads_many (A : Option Addr) (c : Nat) (l : List Int) (A2 : Option Addr) (c2 : Nat) (q : List S41) (w : World) (hr : Kd.C (Kd.int .u8) w A l.length l) (hc : l.length ≤ c) (hr2 : Kd.C k41 w A2 q.length q) (hc2 : q.length ≤ c2) (hl : ¬ 200 < l.length) (hq : 60 < q.length) :
    Calls Try.prog 7 #[.slice A l.length c, .slice A2 q.length c2] w fun en w' => en = .returned (.bool true) ∧ Below w.heap.size w w' := by
  have HB := Aside0.mk (Below.refl w.heap.size w)
  have c1 : decide ((l.length : Int) > 200) = false := decide_eq_false (by omega)
  have c2_ : decide ((200 : Int) < (l.length : Int)) = false := decide_eq_false (by omega)
  have d1 : decide ((q.length : Int) > 60) = true := decide_eq_true (by omega)
  have d2 : decide ((60 : Int) < (q.length : Int)) = true := decide_eq_true (by omega)
  clear hr hr2
  go_enter Try.func7, Try.ntmps7
  go_wp2_with (go_at_call 8; refine (awake_any _).mono ?_; rintro en w1 ⟨rfl, b1⟩; have n0_ := Aside0.mk (HB.out.trans (b1.mono HB.out.size)); clear b1 HB; have HB := n0_; clear n0_)
  go_ret
  exact ⟨rfl, HB.out⟩
set_option maxHeartbeats 16000000 in
set_option maxRecDepth 100000 in
theorem reads_go (A : Option Addr) (c : Nat) (l : List Int) (A2 : Option Addr) (c2 : Nat) (q : List S41) (w : World) (hr : Kd.C (Kd.int .u8) w A l.length l) (hc : l.length ≤ c) (hr2 : Kd.C k41 w A2 q.length q) (hc2 : q.length ≤ c2) (hl : ¬ 200 < l.length) (hq : ¬ 60 < q.length) (hb : isBytes l) :
    Calls Try.prog 7 #[.slice A l.length c, .slice A2 q.length c2] w fun en w' => en = .returned (.bool true) ∧ Below w.heap.size w w' := by
  have HB := Aside0.mk (Below.refl w.heap.size w)
  have c1 : decide ((l.length : Int) > 200) = false := decide_eq_false (by omega)
  have c2_ : decide ((200 : Int) < (l.length : Int)) = false := decide_eq_false (by omega)
  have d1 : decide ((q.length : Int) > 60) = false := decide_eq_false (by omega)
  have d2 : decide ((60 : Int) < (q.length : Int)) = false := decide_eq_false (by omega)
  have HN := Aside0.mk (fun W (hb' : Below w.heap.size w W) => p_new A c l W (Kd.C_below hr hb') hc (by omega) hb)
  have HQ := Aside0.mk hr2
  have HROW : Row 0 w.heap.size w A l := Kd.C_kept_came (Kd.heap_int .u8) hr (Below.refl _ _) (fun k hk => by omega)
  have HR := Aside0.mk HROW
  have HBB := Aside0.mk hb
  clear hr hr2 HROW hb
  have hu2 := Try.underlying41
  have hu3 := Try.underlying45
  go_enter Try.func7, Try.ntmps7
  go_upto_region 4 with (go_at_call 8; refine (awake_any _).mono ?_; rintro en w1 ⟨rfl, b1⟩; have n0_ := Aside0.mk (HB.out.trans (b1.mono HB.out.size)); clear b1 HB; have HB := n0_; clear n0_)
  go_upto_region 5 with (go_at_call 9; refine (HN.out _ HB.out).mono ?_; rintro en w2 ⟨g, rfl, b1, b2, b3, b4⟩; have HG := Aside0.mk (Nat.le_trans HB.out.size b1); have HC := Aside0.mk b2; have HS := Aside0.mk b4; have n0_ := Aside0.mk (HB.out.trans (b3.mono HB.out.size)); clear b1 b2 b3 b4 HB HN; have HB := n0_; clear n0_)
  go_upto_region 6 with (fail)
  obtain ⟨wc, hwc⟩ : ∃ z, z = w2.alloc (Obj.cells #[Value.slice A l.length c, Value.int IntKind.i64 0, Value.bool false, Value.int IntKind.i64 0] 45) := ⟨_, rfl⟩
  rw [← hwc]
  obtain ⟨g2, hg2⟩ : ∃ z, z = w2.heap.size := ⟨_, rfl⟩
  have hbz : Below w2.heap.size w2 wc := by rw [hwc]; exact below_alloc (Below.refl _ _) _
  have h1B := HB.out.trans (hbz.mono HB.out.size)
  have h1C := HC.out.below hbz
  have h1D : QAt w.heap.size wc g2 ⟨l, false, 0⟩ := by
    rw [hwc, hg2]
    exact q_new HR.out hc (by omega) HBB.out (Kept.of_below HB.out _)
  have hgg : g < g2 := by have := HS.out; omega
  have hg0 : w.heap.size ≤ g := HG.out
  rw [← hg2]
  have HC0 := Aside0.mk h1C
  have HD0 := Aside0.mk h1D
  have HB0 := Aside0.mk h1B
  clear hwc hbz h1B h1C h1D HC HB HS HG hg2 HR HBB
  go_wp2
  go_loopw [8] (fun i wr => ∃ (j : Nat) (c0 : Cu), j ≤ q.length ∧ i = .int .i64 j ∧ Aside0 (PAt w1.heap.size g wr g c0) ∧ Aside0 (QAt w.heap.size wr g2 c0) ∧ Aside0 (Below w.heap.size w wr)) (fun i _ => q.length - (intOf i).toNat)
  case atStart => exact ⟨0, _, Nat.zero_le _, rfl, HC0, HD0, HB0⟩
  case round =>
    obtain ⟨j, c0, hj, rfl, HC, HD, HB⟩ := hrel
    have g2lt := Aside0.mk (QAt.drew_ HD.out).lt
    clear HC0 HD0 HB0
    by_cases hlt : j < q.length
    · obtain ⟨adQ, rfl, x0_, x1_⟩ := at_T41 HQ.out (j : Int) (by omega) (by omega)
      rw [Int.toNat_natCast] at x0_ x1_
      have x0 := (HB.out.cell (World.block_lt_of_cell? w _ x0_)).trans x0_
      have x1 := (HB.out.cell (World.block_lt_of_cell? w _ x1_)).trans x1_
      have y0 := Aside0.mk x0_
      have y1 := Aside0.mk x1_
      clear x0_ x1_
      generalize (rd_T41 q (j : Int)).f0 = kind at x0 y0
      generalize (rd_T41 q (j : Int)).f1 = num at x1 y1
      by_cases k0 : kind = 0
      · subst k0
        clear y0
        clear x1 y1
        have v1 : (c0.byteV != c0.byteV) = false := bne_self_eq_false _
        go_upto_region 29 with (first | (go_at_call 19; with_reducible refine (Cu.p_byte HC.out).mono ?_; rintro en w3 ⟨rfl, b1, b2⟩; have C3 := Aside0.mk b1; have D3 := Aside0.mk (HD.out.on b2.kept (S := fun k => k = g) (fun k hk => by omega) (by omega)); have B3 := Aside0.mk (step_b HB.out hg0 b2); clear b1 b2) | (go_at_call 20; with_reducible refine (Cu.q_byte D3.out).mono ?_; rintro en w4 ⟨rfl, b1, b2⟩; have D4 := Aside0.mk b1; have C4 := Aside0.mk (C3.out.on b2.kept (S := fun k => k = g2) (fun k hk => .inr (by omega)) (by omega)); have B4 := Aside0.mk (step_b B3.out (by omega) b2); clear b1 b2))
        have m1 : ((c0.byteS).xs.length != (c0.byteS).xs.length) = false := bne_self_eq_false _
        have m2 : (((c0.byteS).xs.length : Int) != ((c0.byteS).xs.length : Int)) = false := bne_self_eq_false _
        have m3 : ((c0.byteS).s != (c0.byteS).s) = false := bne_self_eq_false _
        have m4 : ((c0.byteS).e != (c0.byteS).e) = false := bne_self_eq_false _
        refine start_ (n := 23) (S := fun w' => w'.cell? ⟨g2, 2, none⟩ = some (.bool (c0.byteS).s) ∧ w'.cell? ⟨g2, 3, none⟩ = some (.int .i64 (c0.byteS).e) ∧ Aside0 (PAt w1.heap.size g w' g (c0.byteS)) ∧ Aside0 (QAt w.heap.size w' g2 (c0.byteS)) ∧ Aside0 (Below w.heap.size w w')) (ds := []) (bm 23 0) (by as_aux_lemma => kernel_rfl) rfl (by as_aux_lemma => kernel_rfl) ⟨(QAt.drew_ D4.out).cells.1, (QAt.drew_ D4.out).cells.2, (Aside0.mk (PAt.drew_ C4.out)), (Aside0.mk (QAt.drew_ D4.out)), (Aside0.mk B4.out.drew)⟩ (fun hHeld => ?_)
        refine with_tabW lreads.tab29 lreads.bits29 (fun HT_ HW_ => ?_)
        refine pure_ (i := 0) (N := some 119) (v := ?_) (a' := ?_) (bm 23 1) rfl rfl (any_of HT_.out (by as_aux_lemma => kernel_rfl)) (fun _ _ _ h => h) (Or.inl ⟨by rfl, ?_⟩) ?_ ?_
        rotate_left
        · intro w'
          go_simp
          with_reducible rfl
        rotate_left
        · simp only [Act.put, List.setIfInBounds_toArray, List.set_cons_zero, List.set_cons_succ, i64_w, i32_w]
          rfl
        refine pure_ (i := 2) (N := some 121) (v := ?_) (a' := ?_) (bm 23 5) rfl rfl (any_of HT_.out (by as_aux_lemma => kernel_rfl)) (fun _ _ _ h => h) (Or.inl ⟨by rfl, ?_⟩) ?_ ?_
        rotate_left
        · intro w'
          go_simp
          with_reducible rfl
        rotate_left
        · simp only [Act.put, List.setIfInBounds_toArray, List.set_cons_zero, List.set_cons_succ, i64_w, i32_w]
          rfl
        refine one_ (i := 1) (N := some 120) (bm 23 7) rfl rfl (one_of HT_.out (by as_aux_lemma => kernel_rfl)) (by as_aux_lemma => decide) (fun K hK => ?_)
        refine goes_ Try.func13 (by as_aux_lemma => kernel_rfl) rfl #[.pointer (some ⟨g, 0, none⟩)] (by rfl) rfl rfl (by simp only [List.map_toArray, List.map_cons, List.map_nil]; rfl) ?_
        with_reducible refine (Cu.p_left hHeld.2.2.1.out).mono ?_
        rintro en w5 ⟨rfl, rfl⟩
        refine ⟨_, rfl, ?_⟩
        refine hK.out _ _ ⟨hHeld.1, hHeld.2.1, hHeld.2.2.1, hHeld.2.2.2.1, hHeld.2.2.2.2⟩ (fun hHeld => ?_)
        clear hK K
        refine norm_ (a' := ?_) ?_ ?_
        rotate_left
        · show Act.put _ (some 120) _ = _
          simp only [Act.put, List.setIfInBounds_toArray, List.set_cons_zero, List.set_cons_succ, i64_w, i32_w]
          rfl
        refine one_ (i := 3) (N := some 122) (bm 23 15) rfl rfl (one_of HT_.out (by as_aux_lemma => kernel_rfl)) (by as_aux_lemma => decide) (fun K hK => ?_)
        refine goes_ Try.func27 (by as_aux_lemma => kernel_rfl) rfl #[.pointer (some ⟨g2, 0, none⟩)] (by rfl) rfl rfl (by simp only [List.map_toArray, List.map_cons, List.map_nil]; rfl) ?_
        with_reducible refine (Cu.q_left hHeld.2.2.2.1.out).mono ?_
        rintro en w6 ⟨rfl, b1, b2⟩
        refine ⟨_, rfl, ?_⟩
        refine hK.out _ _ ⟨b1.cells.1, b1.cells.2, (Aside0.mk (hHeld.2.2.1.out.on b2.kept (S := fun k => k = g2) (fun k hk => .inr (by omega)) (by omega))), (Aside0.mk b1), (Aside0.mk (step_b hHeld.2.2.2.2.out (by omega) b2))⟩ (fun hHeld => ?_)
        clear hK K
        refine norm_ (a' := ?_) ?_ ?_
        rotate_left
        · show Act.put _ (some 122) _ = _
          simp only [Act.put, List.setIfInBounds_toArray, List.set_cons_zero, List.set_cons_succ, i64_w, i32_w]
          rfl
        refine pure_ (i := 4) (N := some 123) (v := ?_) (a' := ?_) (bm 23 31) rfl rfl (any_of HT_.out (by as_aux_lemma => kernel_rfl)) (fun _ _ _ h => h) (Or.inl ⟨by rfl, ?_⟩) ?_ ?_
        rotate_left
        · intro w'
          go_simp
          with_reducible rfl
        rotate_left
        · simp only [Act.put, List.setIfInBounds_toArray, List.set_cons_zero, List.set_cons_succ, i64_w, i32_w]
          rfl
        refine pure_ (i := 5) (N := some 124) (v := ?_) (a' := ?_) (bm 23 63) rfl rfl (any_of HT_.out (by as_aux_lemma => kernel_rfl)) (fun _ _ _ h => h) (Or.inl ⟨by rfl, ?_⟩) ?_ ?_
        rotate_left
        · intro w'
          go_simp
          with_reducible rfl
        rotate_left
        · simp only [Act.put, List.setIfInBounds_toArray, List.set_cons_zero, List.set_cons_succ, i64_w, i32_w]
          rfl
        refine pure_ (i := 6) (N := some 125) (v := ?_) (a' := ?_) (bm 23 127) rfl rfl (any_of HT_.out (by as_aux_lemma => kernel_rfl)) (fun _ _ _ h => h) (Or.inl ⟨by rfl, ?_⟩) ?_ ?_
        rotate_left
        · intro w'
          go_simp
          with_reducible rfl
        rotate_left
        · simp only [Act.put, List.setIfInBounds_toArray, List.set_cons_zero, List.set_cons_succ, i64_w, i32_w]
          rfl
        refine pure_ (i := 8) (N := some 127) (v := ?_) (a' := ?_) (bm 23 383) rfl rfl (any_of HT_.out (by as_aux_lemma => kernel_rfl)) (fun _ _ _ h => h) (Or.inl ⟨by rfl, ?_⟩) ?_ ?_
        rotate_left
        · intro w'
          go_simp
          with_reducible rfl
        rotate_left
        · simp only [Act.put, List.setIfInBounds_toArray, List.set_cons_zero, List.set_cons_succ, i64_w, i32_w]
          rfl
        refine pure_ (i := 9) (N := some 128) (v := ?_) (a' := ?_) (bm 23 895) rfl rfl (any_of HT_.out (by as_aux_lemma => kernel_rfl)) (fun _ _ _ h => h) (Or.inl ⟨by rfl, ?_⟩) ?_ ?_
        rotate_left
        · intro w'
          go_simp
          with_reducible rfl
        rotate_left
        · simp only [Act.put, List.setIfInBounds_toArray, List.set_cons_zero, List.set_cons_succ, i64_w, i32_w]
          rfl
        refine pure_ (i := 10) (N := some 129) (v := ?_) (a' := ?_) (bm 23 1919) rfl rfl (any_of HT_.out (by as_aux_lemma => kernel_rfl)) (fun _ _ _ h => h) (Or.inl ⟨by rfl, ?_⟩) ?_ ?_
        rotate_left
        · intro w'
          go_simp
          with_reducible rfl
        rotate_left
        · simp only [Act.put, List.setIfInBounds_toArray, List.set_cons_zero, List.set_cons_succ, i64_w, i32_w]
          rfl
        refine take_ (i := 11) (N := some 130) (v := ?_) (a' := ?_) (bm 23 3967) rfl rfl (take_ofW HT_.out HW_.out (by as_aux_lemma => kernel_rfl)) (fun _ _ _ h => h) (Or.inl ⟨by rfl, ?_⟩) hHeld ?_ ?_
        rotate_left
        · rintro w' ⟨s0, s1, s2, s3, s4⟩
          go_simp
          with_reducible rfl
        rotate_left
        · simp only [Act.put, List.setIfInBounds_toArray, List.set_cons_zero, List.set_cons_succ, i64_w, i32_w]
          rfl
        refine one_ (i := 7) (N := some 126) (bm 23 4095) rfl rfl (one_of HT_.out (by as_aux_lemma => kernel_rfl)) (by as_aux_lemma => decide) (fun K hK => ?_)
        refine goes_ Try.func12 (by as_aux_lemma => kernel_rfl) rfl #[.pointer (some ⟨g, 0, none⟩)] (by rfl) rfl rfl (by simp only [List.map_toArray, List.map_cons, List.map_nil]; rfl) ?_
        with_reducible refine (Cu.p_short hHeld.2.2.1.out).mono ?_
        rintro en w7 ⟨rfl, rfl⟩
        refine ⟨_, rfl, ?_⟩
        refine hK.out _ _ ⟨hHeld.1, hHeld.2.1, hHeld.2.2.1, hHeld.2.2.2.1, hHeld.2.2.2.2⟩ (fun hHeld => ?_)
        clear hK K
        refine norm_ (a' := ?_) ?_ ?_
        rotate_left
        · show Act.put _ (some 126) _ = _
          simp only [Act.put, List.setIfInBounds_toArray, List.set_cons_zero, List.set_cons_succ, i64_w, i32_w]
          rfl
        refine pure_ (i := 12) (N := some 131) (v := ?_) (a' := ?_) (bm 23 8191) rfl rfl (any_of HT_.out (by as_aux_lemma => kernel_rfl)) (fun _ _ _ h => h) (Or.inl ⟨by rfl, ?_⟩) ?_ ?_
        rotate_left
        · intro w'
          go_simp
          with_reducible rfl
        rotate_left
        · simp only [Act.put, List.setIfInBounds_toArray, List.set_cons_zero, List.set_cons_succ, i64_w, i32_w]
          rfl
        refine pure_ (i := 13) (N := some 132) (v := ?_) (a' := ?_) (bm 23 16383) rfl rfl (any_of HT_.out (by as_aux_lemma => kernel_rfl)) (fun _ _ _ h => h) (Or.inl ⟨by rfl, ?_⟩) ?_ ?_
        rotate_left
        · intro w'
          go_simp
          with_reducible rfl
        rotate_left
        · simp only [Act.put, List.setIfInBounds_toArray, List.set_cons_zero, List.set_cons_succ, i64_w, i32_w]
          rfl
        refine pure_ (i := 14) (N := some 133) (v := ?_) (a' := ?_) (bm 23 32767) rfl rfl (any_of HT_.out (by as_aux_lemma => kernel_rfl)) (fun _ _ _ h => h) (Or.inl ⟨by rfl, ?_⟩) ?_ ?_
        rotate_left
        · intro w'
          go_simp
          with_reducible rfl
        rotate_left
        · simp only [Act.put, List.setIfInBounds_toArray, List.set_cons_zero, List.set_cons_succ, i64_w, i32_w]
          rfl
        refine pure_ (i := 15) (N := some 134) (v := ?_) (a' := ?_) (bm 23 65535) rfl rfl (any_of HT_.out (by as_aux_lemma => kernel_rfl)) (fun _ _ _ h => h) (Or.inl ⟨by rfl, ?_⟩) ?_ ?_
        rotate_left
        · intro w'
          go_simp
          with_reducible rfl
        rotate_left
        · simp only [Act.put, List.setIfInBounds_toArray, List.set_cons_zero, List.set_cons_succ, i64_w, i32_w]
          rfl
        refine pure_ (i := 17) (N := some 136) (v := ?_) (a' := ?_) (bm 23 196607) rfl rfl (any_of HT_.out (by as_aux_lemma => kernel_rfl)) (fun _ _ _ h => h) (Or.inl ⟨by rfl, ?_⟩) ?_ ?_
        rotate_left
        · intro w'
          go_simp
          with_reducible rfl
        rotate_left
        · simp only [Act.put, List.setIfInBounds_toArray, List.set_cons_zero, List.set_cons_succ, i64_w, i32_w]
          rfl
        refine pure_ (i := 18) (N := some 137) (v := ?_) (a' := ?_) (bm 23 458751) rfl rfl (any_of HT_.out (by as_aux_lemma => kernel_rfl)) (fun _ _ _ h => h) (Or.inl ⟨by rfl, ?_⟩) ?_ ?_
        rotate_left
        · intro w'
          go_simp
          with_reducible rfl
        rotate_left
        · simp only [Act.put, List.setIfInBounds_toArray, List.set_cons_zero, List.set_cons_succ, i64_w, i32_w]
          rfl
        refine pure_ (i := 19) (N := some 138) (v := ?_) (a' := ?_) (bm 23 983039) rfl rfl (any_of HT_.out (by as_aux_lemma => kernel_rfl)) (fun _ _ _ h => h) (Or.inl ⟨by rfl, ?_⟩) ?_ ?_
        rotate_left
        · intro w'
          go_simp
          with_reducible rfl
        rotate_left
        · simp only [Act.put, List.setIfInBounds_toArray, List.set_cons_zero, List.set_cons_succ, i64_w, i32_w]
          rfl
        refine take_ (i := 20) (N := some 139) (v := ?_) (a' := ?_) (bm 23 2031615) rfl rfl (take_ofW HT_.out HW_.out (by as_aux_lemma => kernel_rfl)) (fun _ _ _ h => h) (Or.inl ⟨by rfl, ?_⟩) hHeld ?_ ?_
        rotate_left
        · rintro w' ⟨s0, s1, s2, s3, s4⟩
          go_simp
          with_reducible rfl
        rotate_left
        · simp only [Act.put, List.setIfInBounds_toArray, List.set_cons_zero, List.set_cons_succ, i64_w, i32_w]
          rfl
        refine one_ (i := 16) (N := some 135) (bm 23 2097151) rfl rfl (one_of HT_.out (by as_aux_lemma => kernel_rfl)) (by as_aux_lemma => decide) (fun K hK => ?_)
        refine goes_ Try.func16 (by as_aux_lemma => kernel_rfl) rfl #[.pointer (some ⟨g, 0, none⟩)] (by rfl) rfl rfl (by simp only [List.map_toArray, List.map_cons, List.map_nil]; rfl) ?_
        with_reducible refine (Cu.p_err hHeld.2.2.1.out).mono ?_
        rintro en w8 ⟨rfl, rfl⟩
        refine ⟨_, rfl, ?_⟩
        refine hK.out _ _ ⟨hHeld.1, hHeld.2.1, hHeld.2.2.1, hHeld.2.2.2.1, hHeld.2.2.2.2⟩ (fun hHeld => ?_)
        clear hK K
        refine norm_ (a' := ?_) ?_ ?_
        rotate_left
        · show Act.put _ (some 135) _ = _
          simp only [Act.put, List.setIfInBounds_toArray, List.set_cons_zero, List.set_cons_succ, i64_w, i32_w]
          rfl
        refine pure_ (i := 21) (N := some 140) (v := ?_) (a' := ?_) (bm 23 4194303) rfl rfl (any_of HT_.out (by as_aux_lemma => kernel_rfl)) (fun _ _ _ h => h) (Or.inl ⟨by rfl, ?_⟩) ?_ ?_
        rotate_left
        · intro w'
          go_simp
          with_reducible rfl
        rotate_left
        · simp only [Act.put, List.setIfInBounds_toArray, List.set_cons_zero, List.set_cons_succ, i64_w, i32_w]
          rfl
        refine pure_ (i := 22) (N := some 141) (v := ?_) (a' := ?_) (bm 23 8388607) rfl rfl (any_of HT_.out (by as_aux_lemma => kernel_rfl)) (fun _ _ _ h => h) (Or.inl ⟨by rfl, ?_⟩) ?_ ?_
        rotate_left
        · intro w'
          go_simp
          with_reducible rfl
        rotate_left
        · simp only [Act.put, List.setIfInBounds_toArray, List.set_cons_zero, List.set_cons_succ, i64_w, i32_w]
          rfl
        refine done_ (done_of HT_.out (by as_aux_lemma => kernel_rfl)) ?_
        
        go_wp2
        go_roundw
        case rel => exact ⟨j + 1, c0.byteS, by omega, by go_num, hHeld.2.2.1, hHeld.2.2.2.1, hHeld.2.2.2.2⟩
        case measure => simp [intOf]; omega
      have q0_ : (kind == 0) = false := beq_eq_false_iff_ne.2 k0
      clear k0
      by_cases k1 : kind = 1
      · subst k1
        clear y0
        clear x1 y1
        have v1 : (c0.wordV != c0.wordV) = false := bne_self_eq_false _
        go_upto_region 29 with (first | (go_at_call 15; with_reducible refine (Cu.p_word HC.out).mono ?_; rintro en w3 ⟨rfl, b1, b2⟩; have C3 := Aside0.mk b1; have D3 := Aside0.mk (HD.out.on b2.kept (S := fun k => k = g) (fun k hk => by omega) (by omega)); have B3 := Aside0.mk (step_b HB.out hg0 b2); clear b1 b2) | (go_at_call 21; with_reducible refine (Cu.q_word D3.out).mono ?_; rintro en w4 ⟨rfl, b1, b2⟩; have D4 := Aside0.mk b1; have C4 := Aside0.mk (C3.out.on b2.kept (S := fun k => k = g2) (fun k hk => .inr (by omega)) (by omega)); have B4 := Aside0.mk (step_b B3.out (by omega) b2); clear b1 b2))
        have m1 : ((c0.wordS).xs.length != (c0.wordS).xs.length) = false := bne_self_eq_false _
        have m2 : (((c0.wordS).xs.length : Int) != ((c0.wordS).xs.length : Int)) = false := bne_self_eq_false _
        have m3 : ((c0.wordS).s != (c0.wordS).s) = false := bne_self_eq_false _
        have m4 : ((c0.wordS).e != (c0.wordS).e) = false := bne_self_eq_false _
        refine start_ (n := 23) (S := fun w' => w'.cell? ⟨g2, 2, none⟩ = some (.bool (c0.wordS).s) ∧ w'.cell? ⟨g2, 3, none⟩ = some (.int .i64 (c0.wordS).e) ∧ Aside0 (PAt w1.heap.size g w' g (c0.wordS)) ∧ Aside0 (QAt w.heap.size w' g2 (c0.wordS)) ∧ Aside0 (Below w.heap.size w w')) (ds := []) (bm 23 0) (by as_aux_lemma => kernel_rfl) rfl (by as_aux_lemma => kernel_rfl) ⟨(QAt.drew_ D4.out).cells.1, (QAt.drew_ D4.out).cells.2, (Aside0.mk (PAt.drew_ C4.out)), (Aside0.mk (QAt.drew_ D4.out)), (Aside0.mk B4.out.drew)⟩ (fun hHeld => ?_)
        refine with_tabW lreads.tab29 lreads.bits29 (fun HT_ HW_ => ?_)
        refine pure_ (i := 0) (N := some 119) (v := ?_) (a' := ?_) (bm 23 1) rfl rfl (any_of HT_.out (by as_aux_lemma => kernel_rfl)) (fun _ _ _ h => h) (Or.inl ⟨by rfl, ?_⟩) ?_ ?_
        rotate_left
        · intro w'
          go_simp
          with_reducible rfl
        rotate_left
        · simp only [Act.put, List.setIfInBounds_toArray, List.set_cons_zero, List.set_cons_succ, i64_w, i32_w]
          rfl
        refine pure_ (i := 2) (N := some 121) (v := ?_) (a' := ?_) (bm 23 5) rfl rfl (any_of HT_.out (by as_aux_lemma => kernel_rfl)) (fun _ _ _ h => h) (Or.inl ⟨by rfl, ?_⟩) ?_ ?_
        rotate_left
        · intro w'
          go_simp
          with_reducible rfl
        rotate_left
        · simp only [Act.put, List.setIfInBounds_toArray, List.set_cons_zero, List.set_cons_succ, i64_w, i32_w]
          rfl
        refine one_ (i := 1) (N := some 120) (bm 23 7) rfl rfl (one_of HT_.out (by as_aux_lemma => kernel_rfl)) (by as_aux_lemma => decide) (fun K hK => ?_)
        refine goes_ Try.func13 (by as_aux_lemma => kernel_rfl) rfl #[.pointer (some ⟨g, 0, none⟩)] (by rfl) rfl rfl (by simp only [List.map_toArray, List.map_cons, List.map_nil]; rfl) ?_
        with_reducible refine (Cu.p_left hHeld.2.2.1.out).mono ?_
        rintro en w5 ⟨rfl, rfl⟩
        refine ⟨_, rfl, ?_⟩
        refine hK.out _ _ ⟨hHeld.1, hHeld.2.1, hHeld.2.2.1, hHeld.2.2.2.1, hHeld.2.2.2.2⟩ (fun hHeld => ?_)
        clear hK K
        refine norm_ (a' := ?_) ?_ ?_
        rotate_left
        · show Act.put _ (some 120) _ = _
          simp only [Act.put, List.setIfInBounds_toArray, List.set_cons_zero, List.set_cons_succ, i64_w, i32_w]
          rfl
        refine one_ (i := 3) (N := some 122) (bm 23 15) rfl rfl (one_of HT_.out (by as_aux_lemma => kernel_rfl)) (by as_aux_lemma => decide) (fun K hK => ?_)
        refine goes_ Try.func27 (by as_aux_lemma => kernel_rfl) rfl #[.pointer (some ⟨g2, 0, none⟩)] (by rfl) rfl rfl (by simp only [List.map_toArray, List.map_cons, List.map_nil]; rfl) ?_
        with_reducible refine (Cu.q_left hHeld.2.2.2.1.out).mono ?_
        rintro en w6 ⟨rfl, b1, b2⟩
        refine ⟨_, rfl, ?_⟩
        refine hK.out _ _ ⟨b1.cells.1, b1.cells.2, (Aside0.mk (hHeld.2.2.1.out.on b2.kept (S := fun k => k = g2) (fun k hk => .inr (by omega)) (by omega))), (Aside0.mk b1), (Aside0.mk (step_b hHeld.2.2.2.2.out (by omega) b2))⟩ (fun hHeld => ?_)
        clear hK K
        refine norm_ (a' := ?_) ?_ ?_
        rotate_left
        · show Act.put _ (some 122) _ = _
          simp only [Act.put, List.setIfInBounds_toArray, List.set_cons_zero, List.set_cons_succ, i64_w, i32_w]
          rfl
        refine pure_ (i := 4) (N := some 123) (v := ?_) (a' := ?_) (bm 23 31) rfl rfl (any_of HT_.out (by as_aux_lemma => kernel_rfl)) (fun _ _ _ h => h) (Or.inl ⟨by rfl, ?_⟩) ?_ ?_
        rotate_left
        · intro w'
          go_simp
          with_reducible rfl
        rotate_left
        · simp only [Act.put, List.setIfInBounds_toArray, List.set_cons_zero, List.set_cons_succ, i64_w, i32_w]
          rfl
        refine pure_ (i := 5) (N := some 124) (v := ?_) (a' := ?_) (bm 23 63) rfl rfl (any_of HT_.out (by as_aux_lemma => kernel_rfl)) (fun _ _ _ h => h) (Or.inl ⟨by rfl, ?_⟩) ?_ ?_
        rotate_left
        · intro w'
          go_simp
          with_reducible rfl
        rotate_left
        · simp only [Act.put, List.setIfInBounds_toArray, List.set_cons_zero, List.set_cons_succ, i64_w, i32_w]
          rfl
        refine pure_ (i := 6) (N := some 125) (v := ?_) (a' := ?_) (bm 23 127) rfl rfl (any_of HT_.out (by as_aux_lemma => kernel_rfl)) (fun _ _ _ h => h) (Or.inl ⟨by rfl, ?_⟩) ?_ ?_
        rotate_left
        · intro w'
          go_simp
          with_reducible rfl
        rotate_left
        · simp only [Act.put, List.setIfInBounds_toArray, List.set_cons_zero, List.set_cons_succ, i64_w, i32_w]
          rfl
        refine pure_ (i := 8) (N := some 127) (v := ?_) (a' := ?_) (bm 23 383) rfl rfl (any_of HT_.out (by as_aux_lemma => kernel_rfl)) (fun _ _ _ h => h) (Or.inl ⟨by rfl, ?_⟩) ?_ ?_
        rotate_left
        · intro w'
          go_simp
          with_reducible rfl
        rotate_left
        · simp only [Act.put, List.setIfInBounds_toArray, List.set_cons_zero, List.set_cons_succ, i64_w, i32_w]
          rfl
        refine pure_ (i := 9) (N := some 128) (v := ?_) (a' := ?_) (bm 23 895) rfl rfl (any_of HT_.out (by as_aux_lemma => kernel_rfl)) (fun _ _ _ h => h) (Or.inl ⟨by rfl, ?_⟩) ?_ ?_
        rotate_left
        · intro w'
          go_simp
          with_reducible rfl
        rotate_left
        · simp only [Act.put, List.setIfInBounds_toArray, List.set_cons_zero, List.set_cons_succ, i64_w, i32_w]
          rfl
        refine pure_ (i := 10) (N := some 129) (v := ?_) (a' := ?_) (bm 23 1919) rfl rfl (any_of HT_.out (by as_aux_lemma => kernel_rfl)) (fun _ _ _ h => h) (Or.inl ⟨by rfl, ?_⟩) ?_ ?_
        rotate_left
        · intro w'
          go_simp
          with_reducible rfl
        rotate_left
        · simp only [Act.put, List.setIfInBounds_toArray, List.set_cons_zero, List.set_cons_succ, i64_w, i32_w]
          rfl
        refine take_ (i := 11) (N := some 130) (v := ?_) (a' := ?_) (bm 23 3967) rfl rfl (take_ofW HT_.out HW_.out (by as_aux_lemma => kernel_rfl)) (fun _ _ _ h => h) (Or.inl ⟨by rfl, ?_⟩) hHeld ?_ ?_
        rotate_left
        · rintro w' ⟨s0, s1, s2, s3, s4⟩
          go_simp
          with_reducible rfl
        rotate_left
        · simp only [Act.put, List.setIfInBounds_toArray, List.set_cons_zero, List.set_cons_succ, i64_w, i32_w]
          rfl
        refine one_ (i := 7) (N := some 126) (bm 23 4095) rfl rfl (one_of HT_.out (by as_aux_lemma => kernel_rfl)) (by as_aux_lemma => decide) (fun K hK => ?_)
        refine goes_ Try.func12 (by as_aux_lemma => kernel_rfl) rfl #[.pointer (some ⟨g, 0, none⟩)] (by rfl) rfl rfl (by simp only [List.map_toArray, List.map_cons, List.map_nil]; rfl) ?_
        with_reducible refine (Cu.p_short hHeld.2.2.1.out).mono ?_
        rintro en w7 ⟨rfl, rfl⟩
        refine ⟨_, rfl, ?_⟩
        refine hK.out _ _ ⟨hHeld.1, hHeld.2.1, hHeld.2.2.1, hHeld.2.2.2.1, hHeld.2.2.2.2⟩ (fun hHeld => ?_)
        clear hK K
        refine norm_ (a' := ?_) ?_ ?_
        rotate_left
        · show Act.put _ (some 126) _ = _
          simp only [Act.put, List.setIfInBounds_toArray, List.set_cons_zero, List.set_cons_succ, i64_w, i32_w]
          rfl
        refine pure_ (i := 12) (N := some 131) (v := ?_) (a' := ?_) (bm 23 8191) rfl rfl (any_of HT_.out (by as_aux_lemma => kernel_rfl)) (fun _ _ _ h => h) (Or.inl ⟨by rfl, ?_⟩) ?_ ?_
        rotate_left
        · intro w'
          go_simp
          with_reducible rfl
        rotate_left
        · simp only [Act.put, List.setIfInBounds_toArray, List.set_cons_zero, List.set_cons_succ, i64_w, i32_w]
          rfl
        refine pure_ (i := 13) (N := some 132) (v := ?_) (a' := ?_) (bm 23 16383) rfl rfl (any_of HT_.out (by as_aux_lemma => kernel_rfl)) (fun _ _ _ h => h) (Or.inl ⟨by rfl, ?_⟩) ?_ ?_
        rotate_left
        · intro w'
          go_simp
          with_reducible rfl
        rotate_left
        · simp only [Act.put, List.setIfInBounds_toArray, List.set_cons_zero, List.set_cons_succ, i64_w, i32_w]
          rfl
        refine pure_ (i := 14) (N := some 133) (v := ?_) (a' := ?_) (bm 23 32767) rfl rfl (any_of HT_.out (by as_aux_lemma => kernel_rfl)) (fun _ _ _ h => h) (Or.inl ⟨by rfl, ?_⟩) ?_ ?_
        rotate_left
        · intro w'
          go_simp
          with_reducible rfl
        rotate_left
        · simp only [Act.put, List.setIfInBounds_toArray, List.set_cons_zero, List.set_cons_succ, i64_w, i32_w]
          rfl
        refine pure_ (i := 15) (N := some 134) (v := ?_) (a' := ?_) (bm 23 65535) rfl rfl (any_of HT_.out (by as_aux_lemma => kernel_rfl)) (fun _ _ _ h => h) (Or.inl ⟨by rfl, ?_⟩) ?_ ?_
        rotate_left
        · intro w'
          go_simp
          with_reducible rfl
        rotate_left
        · simp only [Act.put, List.setIfInBounds_toArray, List.set_cons_zero, List.set_cons_succ, i64_w, i32_w]
          rfl
        refine pure_ (i := 17) (N := some 136) (v := ?_) (a' := ?_) (bm 23 196607) rfl rfl (any_of HT_.out (by as_aux_lemma => kernel_rfl)) (fun _ _ _ h => h) (Or.inl ⟨by rfl, ?_⟩) ?_ ?_
        rotate_left
        · intro w'
          go_simp
          with_reducible rfl
        rotate_left
        · simp only [Act.put, List.setIfInBounds_toArray, List.set_cons_zero, List.set_cons_succ, i64_w, i32_w]
          rfl
        refine pure_ (i := 18) (N := some 137) (v := ?_) (a' := ?_) (bm 23 458751) rfl rfl (any_of HT_.out (by as_aux_lemma => kernel_rfl)) (fun _ _ _ h => h) (Or.inl ⟨by rfl, ?_⟩) ?_ ?_
        rotate_left
        · intro w'
          go_simp
          with_reducible rfl
        rotate_left
        · simp only [Act.put, List.setIfInBounds_toArray, List.set_cons_zero, List.set_cons_succ, i64_w, i32_w]
          rfl
        refine pure_ (i := 19) (N := some 138) (v := ?_) (a' := ?_) (bm 23 983039) rfl rfl (any_of HT_.out (by as_aux_lemma => kernel_rfl)) (fun _ _ _ h => h) (Or.inl ⟨by rfl, ?_⟩) ?_ ?_
        rotate_left
        · intro w'
          go_simp
          with_reducible rfl
        rotate_left
        · simp only [Act.put, List.setIfInBounds_toArray, List.set_cons_zero, List.set_cons_succ, i64_w, i32_w]
          rfl
        refine take_ (i := 20) (N := some 139) (v := ?_) (a' := ?_) (bm 23 2031615) rfl rfl (take_ofW HT_.out HW_.out (by as_aux_lemma => kernel_rfl)) (fun _ _ _ h => h) (Or.inl ⟨by rfl, ?_⟩) hHeld ?_ ?_
        rotate_left
        · rintro w' ⟨s0, s1, s2, s3, s4⟩
          go_simp
          with_reducible rfl
        rotate_left
        · simp only [Act.put, List.setIfInBounds_toArray, List.set_cons_zero, List.set_cons_succ, i64_w, i32_w]
          rfl
        refine one_ (i := 16) (N := some 135) (bm 23 2097151) rfl rfl (one_of HT_.out (by as_aux_lemma => kernel_rfl)) (by as_aux_lemma => decide) (fun K hK => ?_)
        refine goes_ Try.func16 (by as_aux_lemma => kernel_rfl) rfl #[.pointer (some ⟨g, 0, none⟩)] (by rfl) rfl rfl (by simp only [List.map_toArray, List.map_cons, List.map_nil]; rfl) ?_
        with_reducible refine (Cu.p_err hHeld.2.2.1.out).mono ?_
        rintro en w8 ⟨rfl, rfl⟩
        refine ⟨_, rfl, ?_⟩
        refine hK.out _ _ ⟨hHeld.1, hHeld.2.1, hHeld.2.2.1, hHeld.2.2.2.1, hHeld.2.2.2.2⟩ (fun hHeld => ?_)
        clear hK K
        refine norm_ (a' := ?_) ?_ ?_
        rotate_left
        · show Act.put _ (some 135) _ = _
          simp only [Act.put, List.setIfInBounds_toArray, List.set_cons_zero, List.set_cons_succ, i64_w, i32_w]
          rfl
        refine pure_ (i := 21) (N := some 140) (v := ?_) (a' := ?_) (bm 23 4194303) rfl rfl (any_of HT_.out (by as_aux_lemma => kernel_rfl)) (fun _ _ _ h => h) (Or.inl ⟨by rfl, ?_⟩) ?_ ?_
        rotate_left
        · intro w'
          go_simp
          with_reducible rfl
        rotate_left
        · simp only [Act.put, List.setIfInBounds_toArray, List.set_cons_zero, List.set_cons_succ, i64_w, i32_w]
          rfl
        refine pure_ (i := 22) (N := some 141) (v := ?_) (a' := ?_) (bm 23 8388607) rfl rfl (any_of HT_.out (by as_aux_lemma => kernel_rfl)) (fun _ _ _ h => h) (Or.inl ⟨by rfl, ?_⟩) ?_ ?_
        rotate_left
        · intro w'
          go_simp
          with_reducible rfl
        rotate_left
        · simp only [Act.put, List.setIfInBounds_toArray, List.set_cons_zero, List.set_cons_succ, i64_w, i32_w]
          rfl
        refine done_ (done_of HT_.out (by as_aux_lemma => kernel_rfl)) ?_
        
        go_wp2
        go_roundw
        case rel => exact ⟨j + 1, c0.wordS, by omega, by go_num, hHeld.2.2.1, hHeld.2.2.2.1, hHeld.2.2.2.2⟩
        case measure => simp [intOf]; omega
      have q1_ : (kind == 1) = false := beq_eq_false_iff_ne.2 k1
      clear k1
      by_cases k2 : kind = 2
      · subst k2
        clear y0
        have BSAME := Aside0.mk (fun (A3 : Option Addr) (c3_ : Nat) (A4 : Option Addr) (c4_ : Nat) (W : World) (r3 : Kd.C (Kd.int .u8) W A3 (c0.bytesV num).length (c0.bytesV num)) (r4 : Kd.C (Kd.int .u8) W A4 (c0.bytesV num).length (c0.bytesV num)) (z3 : (c0.bytesV num).length ≤ c3_) (z4 : (c0.bytesV num).length ≤ c4_) => same_self (l := (c0.bytesV num)) (Cu.bytes_bytesV HC.out.2 num) A3 c3_ A4 c4_ W r3 z3 r4 z4)
        go_upto_region 21 with (fail)
        refine start_ (n := 16) (S := fun w' => w'.cell? ⟨(adQ.add (j * 2)).block, (adQ.add (j * 2)).off + 1, none⟩ = some (.int .i64 num) ∧ Aside0 (Below w.heap.size w w')) (ds := []) (bm 16 0) (by as_aux_lemma => kernel_rfl) rfl (by as_aux_lemma => kernel_rfl) ⟨((HB.out.drew.cell (World.block_lt_of_cell? w _ y1.out)).trans y1.out), (Aside0.mk HB.out.drew)⟩ (fun hHeld => ?_)
        refine with_tabW lreads.tab21 lreads.bits21 (fun HT_ HW_ => ?_)
        refine pure_ (i := 0) (N := some 69) (v := ?_) (a' := ?_) (bm 16 1) rfl rfl (any_of HT_.out (by as_aux_lemma => kernel_rfl)) (fun _ _ _ h => h) (Or.inl ⟨by rfl, ?_⟩) ?_ ?_
        rotate_left
        · intro w'
          go_simp
          with_reducible rfl
        rotate_left
        · simp only [Act.put, List.setIfInBounds_toArray, List.set_cons_zero, List.set_cons_succ, i64_w, i32_w]
          rfl
        refine pure_ (i := 1) (N := some 70) (v := ?_) (a' := ?_) (bm 16 3) rfl rfl (any_of HT_.out (by as_aux_lemma => kernel_rfl)) (fun _ _ _ h => h) (Or.inl ⟨by rfl, ?_⟩) ?_ ?_
        rotate_left
        · intro w'
          go_simp
          with_reducible rfl
        rotate_left
        · simp only [Act.put, List.setIfInBounds_toArray, List.set_cons_zero, List.set_cons_succ, i64_w, i32_w]
          rfl
        refine pure_ (i := 2) (N := some 71) (v := ?_) (a' := ?_) (bm 16 7) rfl rfl (any_of HT_.out (by as_aux_lemma => kernel_rfl)) (fun _ _ _ h => h) (Or.inl ⟨by rfl, ?_⟩) ?_ ?_
        rotate_left
        · intro w'
          go_simp
          with_reducible rfl
        rotate_left
        · simp only [Act.put, List.setIfInBounds_toArray, List.set_cons_zero, List.set_cons_succ, i64_w, i32_w]
          rfl
        refine pure_ (i := 3) (N := some 72) (v := ?_) (a' := ?_) (bm 16 15) rfl rfl (any_of HT_.out (by as_aux_lemma => kernel_rfl)) (fun _ _ _ h => h) (Or.inl ⟨by rfl, ?_⟩) ?_ ?_
        rotate_left
        · intro w'
          go_simp
          with_reducible rfl
        rotate_left
        · simp only [Act.put, List.setIfInBounds_toArray, List.set_cons_zero, List.set_cons_succ, i64_w, i32_w]
          rfl
        refine pure_ (i := 4) (N := some 73) (v := ?_) (a' := ?_) (bm 16 31) rfl rfl (any_of HT_.out (by as_aux_lemma => kernel_rfl)) (fun _ _ _ h => h) (Or.inl ⟨by rfl, ?_⟩) ?_ ?_
        rotate_left
        · intro w'
          go_simp
          with_reducible rfl
        rotate_left
        · simp only [Act.put, List.setIfInBounds_toArray, List.set_cons_zero, List.set_cons_succ, i64_w, i32_w]
          rfl
        refine pure_ (i := 7) (N := some 76) (v := ?_) (a' := ?_) (bm 16 159) rfl rfl (any_of HT_.out (by as_aux_lemma => kernel_rfl)) (fun _ _ _ h => h) (Or.inl ⟨by rfl, ?_⟩) ?_ ?_
        rotate_left
        · intro w'
          go_simp
          with_reducible rfl
        rotate_left
        · simp only [Act.put, List.setIfInBounds_toArray, List.set_cons_zero, List.set_cons_succ, i64_w, i32_w]
          rfl
        refine pure_ (i := 8) (N := some 77) (v := ?_) (a' := ?_) (bm 16 415) rfl rfl (any_of HT_.out (by as_aux_lemma => kernel_rfl)) (fun _ _ _ h => h) (Or.inl ⟨by rfl, ?_⟩) ?_ ?_
        rotate_left
        · intro w'
          go_simp
          with_reducible rfl
        rotate_left
        · simp only [Act.put, List.setIfInBounds_toArray, List.set_cons_zero, List.set_cons_succ, i64_w, i32_w]
          rfl
        refine pure_ (i := 9) (N := some 78) (v := ?_) (a' := ?_) (bm 16 927) rfl rfl (any_of HT_.out (by as_aux_lemma => kernel_rfl)) (fun _ _ _ h => h) (Or.inl ⟨by rfl, ?_⟩) ?_ ?_
        rotate_left
        · intro w'
          go_simp
          with_reducible rfl
        rotate_left
        · simp only [Act.put, List.setIfInBounds_toArray, List.set_cons_zero, List.set_cons_succ, i64_w, i32_w]
          rfl
        refine pure_ (i := 10) (N := some 79) (v := ?_) (a' := ?_) (bm 16 1951) rfl rfl (any_of HT_.out (by as_aux_lemma => kernel_rfl)) (fun _ _ _ h => h) (Or.inl ⟨by rfl, ?_⟩) ?_ ?_
        rotate_left
        · intro w'
          go_simp
          with_reducible rfl
        rotate_left
        · simp only [Act.put, List.setIfInBounds_toArray, List.set_cons_zero, List.set_cons_succ, i64_w, i32_w]
          rfl
        refine pure_ (i := 11) (N := some 80) (v := ?_) (a' := ?_) (bm 16 3999) rfl rfl (any_of HT_.out (by as_aux_lemma => kernel_rfl)) (fun _ _ _ h => h) (Or.inl ⟨by rfl, ?_⟩) ?_ ?_
        rotate_left
        · intro w'
          go_simp
          with_reducible rfl
        rotate_left
        · simp only [Act.put, List.setIfInBounds_toArray, List.set_cons_zero, List.set_cons_succ, i64_w, i32_w]
          rfl
        refine take_ (i := 5) (N := some 74) (v := ?_) (a' := ?_) (bm 16 4031) rfl rfl (take_ofW HT_.out HW_.out (by as_aux_lemma => kernel_rfl)) (fun _ _ _ h => h) (Or.inl ⟨by rfl, ?_⟩) hHeld ?_ ?_
        rotate_left
        · rintro w' ⟨s0, s1⟩
          go_simp
          with_reducible rfl
        rotate_left
        · simp only [Act.put, List.setIfInBounds_toArray, List.set_cons_zero, List.set_cons_succ, i64_w, i32_w]
          rfl
        refine take_ (i := 12) (N := some 81) (v := ?_) (a' := ?_) (bm 16 8127) rfl rfl (take_ofW HT_.out HW_.out (by as_aux_lemma => kernel_rfl)) (fun _ _ _ h => h) (Or.inl ⟨by rfl, ?_⟩) hHeld ?_ ?_
        rotate_left
        · rintro w' ⟨s0, s1⟩
          go_simp
          with_reducible rfl
        rotate_left
        · simp only [Act.put, List.setIfInBounds_toArray, List.set_cons_zero, List.set_cons_succ, i64_w, i32_w]
          rfl
        refine one_ (i := 6) (N := some 75) (bm 16 8191) rfl rfl (one_of HT_.out (by as_aux_lemma => kernel_rfl)) (by as_aux_lemma => decide) (fun K hK => ?_)
        refine goes_ Try.func10 (by as_aux_lemma => kernel_rfl) rfl #[.pointer (some ⟨g, 0, none⟩), .int .i64 num] (by rfl) rfl rfl (by simp only [List.map_toArray, List.map_cons, List.map_nil]; rfl) ?_
        with_reducible refine (Cu.p_bytes (PAt.drew_ HC.out) num).mono ?_
        rintro en w3 ⟨A3, c3_, rfl, z3_, r3_, b1, b2⟩
        have Z3 := Aside0.mk z3_
        have R3 := Aside0.mk r3_
        have C3 := Aside0.mk b1
        have D3 := Aside0.mk ((QAt.drew_ HD.out).on b2.kept (S := fun k => k = g) (fun k hk => by omega) (by omega))
        have B3 := Aside0.mk (step_b HB.out.drew hg0 b2)
        have g3_ : g < w3.heap.size := b1.1.lt
        refine ⟨_, rfl, ?_⟩
        refine hK.out _ _ ⟨((B3.out.cell (World.block_lt_of_cell? w _ y1.out)).trans y1.out), B3⟩ (fun hHeld => ?_)
        clear hK K
        refine norm_ (a' := ?_) ?_ ?_
        rotate_left
        · show Act.put _ (some 75) _ = _
          simp only [Act.put, List.setIfInBounds_toArray, List.set_cons_zero, List.set_cons_succ, i64_w, i32_w]
          rfl
        refine one_ (i := 13) (N := some 82) (bm 16 16383) rfl rfl (one_of HT_.out (by as_aux_lemma => kernel_rfl)) (by as_aux_lemma => decide) (fun K hK => ?_)
        refine goes_ Try.func22 (by as_aux_lemma => kernel_rfl) rfl #[.pointer (some ⟨g2, 0, none⟩), .int .i64 num] (by rfl) rfl rfl (by simp only [List.map_toArray, List.map_cons, List.map_nil]; rfl) ?_
        with_reducible refine (Cu.q_bytes D3.out num).mono ?_
        rintro en w4 ⟨A4, c4_, rfl, z4_, r4_, b1, b2⟩
        have Z4 := Aside0.mk z4_
        have R4 := Aside0.mk r4_.now
        have R5 := Aside0.mk (R3.out.on (b2.kept.mono (fun k hk => .inl (by have := g2lt.out; omega)))).now
        have D5 := Aside0.mk b1
        have C5 := Aside0.mk (C3.out.on b2.kept (S := fun k => k = g2) (fun k hk => .inr (by omega)) (by omega))
        have B5 := Aside0.mk (step_b B3.out (by omega) b2)
        refine ⟨_, rfl, ?_⟩
        refine hK.out _ _ ⟨((B5.out.cell (World.block_lt_of_cell? w _ y1.out)).trans y1.out), B5⟩ (fun hHeld => ?_)
        clear hK K
        refine norm_ (a' := ?_) ?_ ?_
        rotate_left
        · show Act.put _ (some 82) _ = _
          simp only [Act.put, List.setIfInBounds_toArray, List.set_cons_zero, List.set_cons_succ, i64_w, i32_w]
          rfl
        refine one_ (i := 14) (N := some 83) (bm 16 32767) rfl rfl (one_of HT_.out (by as_aux_lemma => kernel_rfl)) (by as_aux_lemma => decide) (fun K hK => ?_)
        refine goes_ Try.func11 (by as_aux_lemma => kernel_rfl) rfl #[.slice A3 (c0.bytesV num).length c3_, .slice A4 (c0.bytesV num).length c4_] (by rfl) rfl rfl (by simp only [List.map_toArray, List.map_cons, List.map_nil]; rfl) ?_
        with_reducible refine ((BSAME.out _ _ _ _ _ R5.out R4.out Z3.out Z4.out)).mono ?_
        rintro en w6 ⟨rfl, b3⟩
        have C4 := Aside0.mk (C5.out.below b3)
        have D4 := Aside0.mk (D5.out.on (S := fun _ => False) (Kept.of_below b3 _) (fun _ h => h.elim) (fun h => h))
        have B4 := Aside0.mk (B5.out.trans (b3.mono B5.out.size))
        refine ⟨_, rfl, ?_⟩
        refine hK.out _ _ ⟨((B4.out.cell (World.block_lt_of_cell? w _ y1.out)).trans y1.out), B4⟩ (fun hHeld => ?_)
        clear hK K
        refine norm_ (a' := ?_) ?_ ?_
        rotate_left
        · show Act.put _ (some 83) _ = _
          simp only [Act.put, List.setIfInBounds_toArray, List.set_cons_zero, List.set_cons_succ, i64_w, i32_w]
          rfl
        refine pure_ (i := 15) (N := some 84) (v := ?_) (a' := ?_) (bm 16 65535) rfl rfl (any_of HT_.out (by as_aux_lemma => kernel_rfl)) (fun _ _ _ h => h) (Or.inl ⟨by rfl, ?_⟩) ?_ ?_
        rotate_left
        · intro w'
          go_simp
          with_reducible rfl
        rotate_left
        · simp only [Act.put, List.setIfInBounds_toArray, List.set_cons_zero, List.set_cons_succ, i64_w, i32_w]
          rfl
        refine done_ (done_of HT_.out (by as_aux_lemma => kernel_rfl)) ?_
        
        clear hHeld
        go_upto_region 29 with (fail)
        have m1 : ((c0.bytesS num).xs.length != (c0.bytesS num).xs.length) = false := bne_self_eq_false _
        have m2 : (((c0.bytesS num).xs.length : Int) != ((c0.bytesS num).xs.length : Int)) = false := bne_self_eq_false _
        have m3 : ((c0.bytesS num).s != (c0.bytesS num).s) = false := bne_self_eq_false _
        have m4 : ((c0.bytesS num).e != (c0.bytesS num).e) = false := bne_self_eq_false _
        refine start_ (n := 23) (S := fun w' => w'.cell? ⟨g2, 2, none⟩ = some (.bool (c0.bytesS num).s) ∧ w'.cell? ⟨g2, 3, none⟩ = some (.int .i64 (c0.bytesS num).e) ∧ Aside0 (PAt w1.heap.size g w' g (c0.bytesS num)) ∧ Aside0 (QAt w.heap.size w' g2 (c0.bytesS num)) ∧ Aside0 (Below w.heap.size w w')) (ds := []) (bm 23 0) (by as_aux_lemma => kernel_rfl) rfl (by as_aux_lemma => kernel_rfl) ⟨(QAt.drew_ D4.out).cells.1, (QAt.drew_ D4.out).cells.2, (Aside0.mk (PAt.drew_ C4.out)), (Aside0.mk (QAt.drew_ D4.out)), (Aside0.mk B4.out.drew)⟩ (fun hHeld => ?_)
        refine with_tabW lreads.tab29 lreads.bits29 (fun HT_ HW_ => ?_)
        refine pure_ (i := 0) (N := some 119) (v := ?_) (a' := ?_) (bm 23 1) rfl rfl (any_of HT_.out (by as_aux_lemma => kernel_rfl)) (fun _ _ _ h => h) (Or.inl ⟨by rfl, ?_⟩) ?_ ?_
        rotate_left
        · intro w'
          go_simp
          with_reducible rfl
        rotate_left
        · simp only [Act.put, List.setIfInBounds_toArray, List.set_cons_zero, List.set_cons_succ, i64_w, i32_w]
          rfl
        refine pure_ (i := 2) (N := some 121) (v := ?_) (a' := ?_) (bm 23 5) rfl rfl (any_of HT_.out (by as_aux_lemma => kernel_rfl)) (fun _ _ _ h => h) (Or.inl ⟨by rfl, ?_⟩) ?_ ?_
        rotate_left
        · intro w'
          go_simp
          with_reducible rfl
        rotate_left
        · simp only [Act.put, List.setIfInBounds_toArray, List.set_cons_zero, List.set_cons_succ, i64_w, i32_w]
          rfl
        refine one_ (i := 1) (N := some 120) (bm 23 7) rfl rfl (one_of HT_.out (by as_aux_lemma => kernel_rfl)) (by as_aux_lemma => decide) (fun K hK => ?_)
        refine goes_ Try.func13 (by as_aux_lemma => kernel_rfl) rfl #[.pointer (some ⟨g, 0, none⟩)] (by rfl) rfl rfl (by simp only [List.map_toArray, List.map_cons, List.map_nil]; rfl) ?_
        with_reducible refine (Cu.p_left hHeld.2.2.1.out).mono ?_
        rintro en w5 ⟨rfl, rfl⟩
        refine ⟨_, rfl, ?_⟩
        refine hK.out _ _ ⟨hHeld.1, hHeld.2.1, hHeld.2.2.1, hHeld.2.2.2.1, hHeld.2.2.2.2⟩ (fun hHeld => ?_)
        clear hK K
        refine norm_ (a' := ?_) ?_ ?_
        rotate_left
        · show Act.put _ (some 120) _ = _
          simp only [Act.put, List.setIfInBounds_toArray, List.set_cons_zero, List.set_cons_succ, i64_w, i32_w]
          rfl
        refine one_ (i := 3) (N := some 122) (bm 23 15) rfl rfl (one_of HT_.out (by as_aux_lemma => kernel_rfl)) (by as_aux_lemma => decide) (fun K hK => ?_)
        refine goes_ Try.func27 (by as_aux_lemma => kernel_rfl) rfl #[.pointer (some ⟨g2, 0, none⟩)] (by rfl) rfl rfl (by simp only [List.map_toArray, List.map_cons, List.map_nil]; rfl) ?_
        with_reducible refine (Cu.q_left hHeld.2.2.2.1.out).mono ?_
        rintro en w6 ⟨rfl, b1, b2⟩
        refine ⟨_, rfl, ?_⟩
        refine hK.out _ _ ⟨b1.cells.1, b1.cells.2, (Aside0.mk (hHeld.2.2.1.out.on b2.kept (S := fun k => k = g2) (fun k hk => .inr (by omega)) (by omega))), (Aside0.mk b1), (Aside0.mk (step_b hHeld.2.2.2.2.out (by omega) b2))⟩ (fun hHeld => ?_)
        clear hK K
        refine norm_ (a' := ?_) ?_ ?_
        rotate_left
        · show Act.put _ (some 122) _ = _
          simp only [Act.put, List.setIfInBounds_toArray, List.set_cons_zero, List.set_cons_succ, i64_w, i32_w]
          rfl
        refine pure_ (i := 4) (N := some 123) (v := ?_) (a' := ?_) (bm 23 31) rfl rfl (any_of HT_.out (by as_aux_lemma => kernel_rfl)) (fun _ _ _ h => h) (Or.inl ⟨by rfl, ?_⟩) ?_ ?_
        rotate_left
        · intro w'
          go_simp
          with_reducible rfl
        rotate_left
        · simp only [Act.put, List.setIfInBounds_toArray, List.set_cons_zero, List.set_cons_succ, i64_w, i32_w]
          rfl
        refine pure_ (i := 5) (N := some 124) (v := ?_) (a' := ?_) (bm 23 63) rfl rfl (any_of HT_.out (by as_aux_lemma => kernel_rfl)) (fun _ _ _ h => h) (Or.inl ⟨by rfl, ?_⟩) ?_ ?_
        rotate_left
        · intro w'
          go_simp
          with_reducible rfl
        rotate_left
        · simp only [Act.put, List.setIfInBounds_toArray, List.set_cons_zero, List.set_cons_succ, i64_w, i32_w]
          rfl
        refine pure_ (i := 6) (N := some 125) (v := ?_) (a' := ?_) (bm 23 127) rfl rfl (any_of HT_.out (by as_aux_lemma => kernel_rfl)) (fun _ _ _ h => h) (Or.inl ⟨by rfl, ?_⟩) ?_ ?_
        rotate_left
        · intro w'
          go_simp
          with_reducible rfl
        rotate_left
        · simp only [Act.put, List.setIfInBounds_toArray, List.set_cons_zero, List.set_cons_succ, i64_w, i32_w]
          rfl
        refine pure_ (i := 8) (N := some 127) (v := ?_) (a' := ?_) (bm 23 383) rfl rfl (any_of HT_.out (by as_aux_lemma => kernel_rfl)) (fun _ _ _ h => h) (Or.inl ⟨by rfl, ?_⟩) ?_ ?_
        rotate_left
        · intro w'
          go_simp
          with_reducible rfl
        rotate_left
        · simp only [Act.put, List.setIfInBounds_toArray, List.set_cons_zero, List.set_cons_succ, i64_w, i32_w]
          rfl
        refine pure_ (i := 9) (N := some 128) (v := ?_) (a' := ?_) (bm 23 895) rfl rfl (any_of HT_.out (by as_aux_lemma => kernel_rfl)) (fun _ _ _ h => h) (Or.inl ⟨by rfl, ?_⟩) ?_ ?_
        rotate_left
        · intro w'
          go_simp
          with_reducible rfl
        rotate_left
        · simp only [Act.put, List.setIfInBounds_toArray, List.set_cons_zero, List.set_cons_succ, i64_w, i32_w]
          rfl
        refine pure_ (i := 10) (N := some 129) (v := ?_) (a' := ?_) (bm 23 1919) rfl rfl (any_of HT_.out (by as_aux_lemma => kernel_rfl)) (fun _ _ _ h => h) (Or.inl ⟨by rfl, ?_⟩) ?_ ?_
        rotate_left
        · intro w'
          go_simp
          with_reducible rfl
        rotate_left
        · simp only [Act.put, List.setIfInBounds_toArray, List.set_cons_zero, List.set_cons_succ, i64_w, i32_w]
          rfl
        refine take_ (i := 11) (N := some 130) (v := ?_) (a' := ?_) (bm 23 3967) rfl rfl (take_ofW HT_.out HW_.out (by as_aux_lemma => kernel_rfl)) (fun _ _ _ h => h) (Or.inl ⟨by rfl, ?_⟩) hHeld ?_ ?_
        rotate_left
        · rintro w' ⟨s0, s1, s2, s3, s4⟩
          go_simp
          with_reducible rfl
        rotate_left
        · simp only [Act.put, List.setIfInBounds_toArray, List.set_cons_zero, List.set_cons_succ, i64_w, i32_w]
          rfl
        refine one_ (i := 7) (N := some 126) (bm 23 4095) rfl rfl (one_of HT_.out (by as_aux_lemma => kernel_rfl)) (by as_aux_lemma => decide) (fun K hK => ?_)
        refine goes_ Try.func12 (by as_aux_lemma => kernel_rfl) rfl #[.pointer (some ⟨g, 0, none⟩)] (by rfl) rfl rfl (by simp only [List.map_toArray, List.map_cons, List.map_nil]; rfl) ?_
        with_reducible refine (Cu.p_short hHeld.2.2.1.out).mono ?_
        rintro en w7 ⟨rfl, rfl⟩
        refine ⟨_, rfl, ?_⟩
        refine hK.out _ _ ⟨hHeld.1, hHeld.2.1, hHeld.2.2.1, hHeld.2.2.2.1, hHeld.2.2.2.2⟩ (fun hHeld => ?_)
        clear hK K
        refine norm_ (a' := ?_) ?_ ?_
        rotate_left
        · show Act.put _ (some 126) _ = _
          simp only [Act.put, List.setIfInBounds_toArray, List.set_cons_zero, List.set_cons_succ, i64_w, i32_w]
          rfl
        refine pure_ (i := 12) (N := some 131) (v := ?_) (a' := ?_) (bm 23 8191) rfl rfl (any_of HT_.out (by as_aux_lemma => kernel_rfl)) (fun _ _ _ h => h) (Or.inl ⟨by rfl, ?_⟩) ?_ ?_
        rotate_left
        · intro w'
          go_simp
          with_reducible rfl
        rotate_left
        · simp only [Act.put, List.setIfInBounds_toArray, List.set_cons_zero, List.set_cons_succ, i64_w, i32_w]
          rfl
        refine pure_ (i := 13) (N := some 132) (v := ?_) (a' := ?_) (bm 23 16383) rfl rfl (any_of HT_.out (by as_aux_lemma => kernel_rfl)) (fun _ _ _ h => h) (Or.inl ⟨by rfl, ?_⟩) ?_ ?_
        rotate_left
        · intro w'
          go_simp
          with_reducible rfl
        rotate_left
        · simp only [Act.put, List.setIfInBounds_toArray, List.set_cons_zero, List.set_cons_succ, i64_w, i32_w]
          rfl
        refine pure_ (i := 14) (N := some 133) (v := ?_) (a' := ?_) (bm 23 32767) rfl rfl (any_of HT_.out (by as_aux_lemma => kernel_rfl)) (fun _ _ _ h => h) (Or.inl ⟨by rfl, ?_⟩) ?_ ?_
        rotate_left
        · intro w'
          go_simp
          with_reducible rfl
        rotate_left
        · simp only [Act.put, List.setIfInBounds_toArray, List.set_cons_zero, List.set_cons_succ, i64_w, i32_w]
          rfl
        refine pure_ (i := 15) (N := some 134) (v := ?_) (a' := ?_) (bm 23 65535) rfl rfl (any_of HT_.out (by as_aux_lemma => kernel_rfl)) (fun _ _ _ h => h) (Or.inl ⟨by rfl, ?_⟩) ?_ ?_
        rotate_left
        · intro w'
          go_simp
          with_reducible rfl
        rotate_left
        · simp only [Act.put, List.setIfInBounds_toArray, List.set_cons_zero, List.set_cons_succ, i64_w, i32_w]
          rfl
        refine pure_ (i := 17) (N := some 136) (v := ?_) (a' := ?_) (bm 23 196607) rfl rfl (any_of HT_.out (by as_aux_lemma => kernel_rfl)) (fun _ _ _ h => h) (Or.inl ⟨by rfl, ?_⟩) ?_ ?_
        rotate_left
        · intro w'
          go_simp
          with_reducible rfl
        rotate_left
        · simp only [Act.put, List.setIfInBounds_toArray, List.set_cons_zero, List.set_cons_succ, i64_w, i32_w]
          rfl
        refine pure_ (i := 18) (N := some 137) (v := ?_) (a' := ?_) (bm 23 458751) rfl rfl (any_of HT_.out (by as_aux_lemma => kernel_rfl)) (fun _ _ _ h => h) (Or.inl ⟨by rfl, ?_⟩) ?_ ?_
        rotate_left
        · intro w'
          go_simp
          with_reducible rfl
        rotate_left
        · simp only [Act.put, List.setIfInBounds_toArray, List.set_cons_zero, List.set_cons_succ, i64_w, i32_w]
          rfl
        refine pure_ (i := 19) (N := some 138) (v := ?_) (a' := ?_) (bm 23 983039) rfl rfl (any_of HT_.out (by as_aux_lemma => kernel_rfl)) (fun _ _ _ h => h) (Or.inl ⟨by rfl, ?_⟩) ?_ ?_
        rotate_left
        · intro w'
          go_simp
          with_reducible rfl
        rotate_left
        · simp only [Act.put, List.setIfInBounds_toArray, List.set_cons_zero, List.set_cons_succ, i64_w, i32_w]
          rfl
        refine take_ (i := 20) (N := some 139) (v := ?_) (a' := ?_) (bm 23 2031615) rfl rfl (take_ofW HT_.out HW_.out (by as_aux_lemma => kernel_rfl)) (fun _ _ _ h => h) (Or.inl ⟨by rfl, ?_⟩) hHeld ?_ ?_
        rotate_left
        · rintro w' ⟨s0, s1, s2, s3, s4⟩
          go_simp
          with_reducible rfl
        rotate_left
        · simp only [Act.put, List.setIfInBounds_toArray, List.set_cons_zero, List.set_cons_succ, i64_w, i32_w]
          rfl
        refine one_ (i := 16) (N := some 135) (bm 23 2097151) rfl rfl (one_of HT_.out (by as_aux_lemma => kernel_rfl)) (by as_aux_lemma => decide) (fun K hK => ?_)
        refine goes_ Try.func16 (by as_aux_lemma => kernel_rfl) rfl #[.pointer (some ⟨g, 0, none⟩)] (by rfl) rfl rfl (by simp only [List.map_toArray, List.map_cons, List.map_nil]; rfl) ?_
        with_reducible refine (Cu.p_err hHeld.2.2.1.out).mono ?_
        rintro en w8 ⟨rfl, rfl⟩
        refine ⟨_, rfl, ?_⟩
        refine hK.out _ _ ⟨hHeld.1, hHeld.2.1, hHeld.2.2.1, hHeld.2.2.2.1, hHeld.2.2.2.2⟩ (fun hHeld => ?_)
        clear hK K
        refine norm_ (a' := ?_) ?_ ?_
        rotate_left
        · show Act.put _ (some 135) _ = _
          simp only [Act.put, List.setIfInBounds_toArray, List.set_cons_zero, List.set_cons_succ, i64_w, i32_w]
          rfl
        refine pure_ (i := 21) (N := some 140) (v := ?_) (a' := ?_) (bm 23 4194303) rfl rfl (any_of HT_.out (by as_aux_lemma => kernel_rfl)) (fun _ _ _ h => h) (Or.inl ⟨by rfl, ?_⟩) ?_ ?_
        rotate_left
        · intro w'
          go_simp
          with_reducible rfl
        rotate_left
        · simp only [Act.put, List.setIfInBounds_toArray, List.set_cons_zero, List.set_cons_succ, i64_w, i32_w]
          rfl
        refine pure_ (i := 22) (N := some 141) (v := ?_) (a' := ?_) (bm 23 8388607) rfl rfl (any_of HT_.out (by as_aux_lemma => kernel_rfl)) (fun _ _ _ h => h) (Or.inl ⟨by rfl, ?_⟩) ?_ ?_
        rotate_left
        · intro w'
          go_simp
          with_reducible rfl
        rotate_left
        · simp only [Act.put, List.setIfInBounds_toArray, List.set_cons_zero, List.set_cons_succ, i64_w, i32_w]
          rfl
        refine done_ (done_of HT_.out (by as_aux_lemma => kernel_rfl)) ?_
        
        go_wp2
        go_roundw
        case rel => exact ⟨j + 1, c0.bytesS num, by omega, by go_num, hHeld.2.2.1, hHeld.2.2.2.1, hHeld.2.2.2.2⟩
        case measure => simp [intOf]; omega
      have q2_ : (kind == 2) = false := beq_eq_false_iff_ne.2 k2
      clear k2
      by_cases k4 : kind = 4
      · subst k4
        clear y0
        have nd : decide (num > 5) = decide (5 < num) := rfl
        go_upto_region 24 with (fail)
        refine start_ (n := 13) (S := fun w' => w'.cell? ⟨(adQ.add (j * 2)).block, (adQ.add (j * 2)).off + 1, none⟩ = some (.int .i64 num) ∧ Aside0 (Below w.heap.size w w')) (ds := []) (bm 13 0) (by as_aux_lemma => kernel_rfl) rfl (by as_aux_lemma => kernel_rfl) ⟨((HB.out.drew.cell (World.block_lt_of_cell? w _ y1.out)).trans y1.out), (Aside0.mk HB.out.drew)⟩ (fun hHeld => ?_)
        refine with_tabW lreads.tab24 lreads.bits24 (fun HT_ HW_ => ?_)
        refine pure_ (i := 0) (N := some 87) (v := ?_) (a' := ?_) (bm 13 1) rfl rfl (any_of HT_.out (by as_aux_lemma => kernel_rfl)) (fun _ _ _ h => h) (Or.inl ⟨by rfl, ?_⟩) ?_ ?_
        rotate_left
        · intro w'
          go_simp
          with_reducible rfl
        rotate_left
        · simp only [Act.put, List.setIfInBounds_toArray, List.set_cons_zero, List.set_cons_succ, i64_w, i32_w]
          rfl
        refine pure_ (i := 1) (N := some 88) (v := ?_) (a' := ?_) (bm 13 3) rfl rfl (any_of HT_.out (by as_aux_lemma => kernel_rfl)) (fun _ _ _ h => h) (Or.inl ⟨by rfl, ?_⟩) ?_ ?_
        rotate_left
        · intro w'
          go_simp
          with_reducible rfl
        rotate_left
        · simp only [Act.put, List.setIfInBounds_toArray, List.set_cons_zero, List.set_cons_succ, i64_w, i32_w]
          rfl
        refine pure_ (i := 2) (N := some 89) (v := ?_) (a' := ?_) (bm 13 7) rfl rfl (any_of HT_.out (by as_aux_lemma => kernel_rfl)) (fun _ _ _ h => h) (Or.inl ⟨by rfl, ?_⟩) ?_ ?_
        rotate_left
        · intro w'
          go_simp
          with_reducible rfl
        rotate_left
        · simp only [Act.put, List.setIfInBounds_toArray, List.set_cons_zero, List.set_cons_succ, i64_w, i32_w]
          rfl
        refine pure_ (i := 3) (N := some 90) (v := ?_) (a' := ?_) (bm 13 15) rfl rfl (any_of HT_.out (by as_aux_lemma => kernel_rfl)) (fun _ _ _ h => h) (Or.inl ⟨by rfl, ?_⟩) ?_ ?_
        rotate_left
        · intro w'
          go_simp
          with_reducible rfl
        rotate_left
        · simp only [Act.put, List.setIfInBounds_toArray, List.set_cons_zero, List.set_cons_succ, i64_w, i32_w]
          rfl
        refine pure_ (i := 4) (N := some 91) (v := ?_) (a' := ?_) (bm 13 31) rfl rfl (any_of HT_.out (by as_aux_lemma => kernel_rfl)) (fun _ _ _ h => h) (Or.inl ⟨by rfl, ?_⟩) ?_ ?_
        rotate_left
        · intro w'
          go_simp
          with_reducible rfl
        rotate_left
        · simp only [Act.put, List.setIfInBounds_toArray, List.set_cons_zero, List.set_cons_succ, i64_w, i32_w]
          rfl
        refine pure_ (i := 7) (N := some 94) (v := ?_) (a' := ?_) (bm 13 159) rfl rfl (any_of HT_.out (by as_aux_lemma => kernel_rfl)) (fun _ _ _ h => h) (Or.inl ⟨by rfl, ?_⟩) ?_ ?_
        rotate_left
        · intro w'
          go_simp
          with_reducible rfl
        rotate_left
        · simp only [Act.put, List.setIfInBounds_toArray, List.set_cons_zero, List.set_cons_succ, i64_w, i32_w]
          rfl
        refine pure_ (i := 8) (N := some 95) (v := ?_) (a' := ?_) (bm 13 415) rfl rfl (any_of HT_.out (by as_aux_lemma => kernel_rfl)) (fun _ _ _ h => h) (Or.inl ⟨by rfl, ?_⟩) ?_ ?_
        rotate_left
        · intro w'
          go_simp
          with_reducible rfl
        rotate_left
        · simp only [Act.put, List.setIfInBounds_toArray, List.set_cons_zero, List.set_cons_succ, i64_w, i32_w]
          rfl
        refine pure_ (i := 9) (N := some 96) (v := ?_) (a' := ?_) (bm 13 927) rfl rfl (any_of HT_.out (by as_aux_lemma => kernel_rfl)) (fun _ _ _ h => h) (Or.inl ⟨by rfl, ?_⟩) ?_ ?_
        rotate_left
        · intro w'
          go_simp
          with_reducible rfl
        rotate_left
        · simp only [Act.put, List.setIfInBounds_toArray, List.set_cons_zero, List.set_cons_succ, i64_w, i32_w]
          rfl
        refine pure_ (i := 10) (N := some 97) (v := ?_) (a' := ?_) (bm 13 1951) rfl rfl (any_of HT_.out (by as_aux_lemma => kernel_rfl)) (fun _ _ _ h => h) (Or.inl ⟨by rfl, ?_⟩) ?_ ?_
        rotate_left
        · intro w'
          go_simp
          with_reducible rfl
        rotate_left
        · simp only [Act.put, List.setIfInBounds_toArray, List.set_cons_zero, List.set_cons_succ, i64_w, i32_w]
          rfl
        refine take_ (i := 5) (N := some 92) (v := ?_) (a' := ?_) (bm 13 1983) rfl rfl (take_ofW HT_.out HW_.out (by as_aux_lemma => kernel_rfl)) (fun _ _ _ h => h) (Or.inl ⟨by rfl, ?_⟩) hHeld ?_ ?_
        rotate_left
        · rintro w' ⟨s0, s1⟩
          go_simp
          with_reducible rfl
        rotate_left
        · simp only [Act.put, List.setIfInBounds_toArray, List.set_cons_zero, List.set_cons_succ, i64_w, i32_w]
          rfl
        refine pure_ (i := 6) (N := some 93) (v := ?_) (a' := ?_) (bm 13 2047) rfl rfl (any_of HT_.out (by as_aux_lemma => kernel_rfl)) (fun _ _ _ h => h) (Or.inl ⟨by rfl, ?_⟩) ?_ ?_
        rotate_left
        · intro w'
          go_simp
          with_reducible rfl
        rotate_left
        · simp only [Act.put, List.setIfInBounds_toArray, List.set_cons_zero, List.set_cons_succ, i64_w, i32_w]
          rfl
        refine take_ (i := 11) (N := some 98) (v := ?_) (a' := ?_) (bm 13 4095) rfl rfl (take_ofW HT_.out HW_.out (by as_aux_lemma => kernel_rfl)) (fun _ _ _ h => h) (Or.inl ⟨by rfl, ?_⟩) hHeld ?_ ?_
        rotate_left
        · rintro w' ⟨s0, s1⟩
          go_simp
          with_reducible rfl
        rotate_left
        · simp only [Act.put, List.setIfInBounds_toArray, List.set_cons_zero, List.set_cons_succ, i64_w, i32_w]
          rfl
        refine one_ (i := 12) (N := some 99) (bm 13 8191) rfl rfl (one_of HT_.out (by as_aux_lemma => kernel_rfl)) (by as_aux_lemma => decide) (fun K hK => ?_)
        refine goes_ Try.func17 (by as_aux_lemma => kernel_rfl) rfl #[.pointer (some ⟨g, 0, none⟩), .bool (decide (5 < num)), .int .i64 num] (by rfl) rfl rfl (by simp only [List.map_toArray, List.map_cons, List.map_nil]; rfl) ?_
        with_reducible refine (Cu.p_need (PAt.drew_ HC.out) (decide (5 < num)) num).mono ?_
        rintro en w3 ⟨rfl, b1, b2⟩
        have C3 := Aside0.mk b1
        have D3 := Aside0.mk ((QAt.drew_ HD.out).on b2.kept (S := fun k => k = g) (fun k hk => by omega) (by omega))
        have B3 := Aside0.mk (step_b HB.out.drew hg0 b2)
        refine ⟨_, rfl, ?_⟩
        refine hK.out _ _ ⟨((B3.out.cell (World.block_lt_of_cell? w _ y1.out)).trans y1.out), B3⟩ (fun hHeld => ?_)
        clear hK K
        refine norm_ (a' := ?_) ?_ ?_
        rotate_left
        · show Act.put _ (some 99) _ = _
          simp only [Act.put, List.setIfInBounds_toArray, List.set_cons_zero, List.set_cons_succ, i64_w, i32_w]
          rfl
        refine done_ (done_of HT_.out (by as_aux_lemma => kernel_rfl)) ?_
        
        clear hHeld
        go_upto_region 25 with (fail)
        refine start_ (n := 13) (S := fun w' => w'.cell? ⟨(adQ.add (j * 2)).block, (adQ.add (j * 2)).off + 1, none⟩ = some (.int .i64 num) ∧ Aside0 (Below w.heap.size w w')) (ds := []) (bm 13 0) (by as_aux_lemma => kernel_rfl) rfl (by as_aux_lemma => kernel_rfl) ⟨((B3.out.drew.cell (World.block_lt_of_cell? w _ y1.out)).trans y1.out), (Aside0.mk B3.out.drew)⟩ (fun hHeld => ?_)
        refine with_tabW lreads.tab25 lreads.bits25 (fun HT_ HW_ => ?_)
        refine pure_ (i := 0) (N := some 100) (v := ?_) (a' := ?_) (bm 13 1) rfl rfl (any_of HT_.out (by as_aux_lemma => kernel_rfl)) (fun _ _ _ h => h) (Or.inl ⟨by rfl, ?_⟩) ?_ ?_
        rotate_left
        · intro w'
          go_simp
          with_reducible rfl
        rotate_left
        · simp only [Act.put, List.setIfInBounds_toArray, List.set_cons_zero, List.set_cons_succ, i64_w, i32_w]
          rfl
        refine pure_ (i := 1) (N := some 101) (v := ?_) (a' := ?_) (bm 13 3) rfl rfl (any_of HT_.out (by as_aux_lemma => kernel_rfl)) (fun _ _ _ h => h) (Or.inl ⟨by rfl, ?_⟩) ?_ ?_
        rotate_left
        · intro w'
          go_simp
          with_reducible rfl
        rotate_left
        · simp only [Act.put, List.setIfInBounds_toArray, List.set_cons_zero, List.set_cons_succ, i64_w, i32_w]
          rfl
        refine pure_ (i := 2) (N := some 102) (v := ?_) (a' := ?_) (bm 13 7) rfl rfl (any_of HT_.out (by as_aux_lemma => kernel_rfl)) (fun _ _ _ h => h) (Or.inl ⟨by rfl, ?_⟩) ?_ ?_
        rotate_left
        · intro w'
          go_simp
          with_reducible rfl
        rotate_left
        · simp only [Act.put, List.setIfInBounds_toArray, List.set_cons_zero, List.set_cons_succ, i64_w, i32_w]
          rfl
        refine pure_ (i := 3) (N := some 103) (v := ?_) (a' := ?_) (bm 13 15) rfl rfl (any_of HT_.out (by as_aux_lemma => kernel_rfl)) (fun _ _ _ h => h) (Or.inl ⟨by rfl, ?_⟩) ?_ ?_
        rotate_left
        · intro w'
          go_simp
          with_reducible rfl
        rotate_left
        · simp only [Act.put, List.setIfInBounds_toArray, List.set_cons_zero, List.set_cons_succ, i64_w, i32_w]
          rfl
        refine pure_ (i := 4) (N := some 104) (v := ?_) (a' := ?_) (bm 13 31) rfl rfl (any_of HT_.out (by as_aux_lemma => kernel_rfl)) (fun _ _ _ h => h) (Or.inl ⟨by rfl, ?_⟩) ?_ ?_
        rotate_left
        · intro w'
          go_simp
          with_reducible rfl
        rotate_left
        · simp only [Act.put, List.setIfInBounds_toArray, List.set_cons_zero, List.set_cons_succ, i64_w, i32_w]
          rfl
        refine pure_ (i := 7) (N := some 107) (v := ?_) (a' := ?_) (bm 13 159) rfl rfl (any_of HT_.out (by as_aux_lemma => kernel_rfl)) (fun _ _ _ h => h) (Or.inl ⟨by rfl, ?_⟩) ?_ ?_
        rotate_left
        · intro w'
          go_simp
          with_reducible rfl
        rotate_left
        · simp only [Act.put, List.setIfInBounds_toArray, List.set_cons_zero, List.set_cons_succ, i64_w, i32_w]
          rfl
        refine pure_ (i := 8) (N := some 108) (v := ?_) (a' := ?_) (bm 13 415) rfl rfl (any_of HT_.out (by as_aux_lemma => kernel_rfl)) (fun _ _ _ h => h) (Or.inl ⟨by rfl, ?_⟩) ?_ ?_
        rotate_left
        · intro w'
          go_simp
          with_reducible rfl
        rotate_left
        · simp only [Act.put, List.setIfInBounds_toArray, List.set_cons_zero, List.set_cons_succ, i64_w, i32_w]
          rfl
        refine pure_ (i := 9) (N := some 109) (v := ?_) (a' := ?_) (bm 13 927) rfl rfl (any_of HT_.out (by as_aux_lemma => kernel_rfl)) (fun _ _ _ h => h) (Or.inl ⟨by rfl, ?_⟩) ?_ ?_
        rotate_left
        · intro w'
          go_simp
          with_reducible rfl
        rotate_left
        · simp only [Act.put, List.setIfInBounds_toArray, List.set_cons_zero, List.set_cons_succ, i64_w, i32_w]
          rfl
        refine pure_ (i := 10) (N := some 110) (v := ?_) (a' := ?_) (bm 13 1951) rfl rfl (any_of HT_.out (by as_aux_lemma => kernel_rfl)) (fun _ _ _ h => h) (Or.inl ⟨by rfl, ?_⟩) ?_ ?_
        rotate_left
        · intro w'
          go_simp
          with_reducible rfl
        rotate_left
        · simp only [Act.put, List.setIfInBounds_toArray, List.set_cons_zero, List.set_cons_succ, i64_w, i32_w]
          rfl
        refine take_ (i := 5) (N := some 105) (v := ?_) (a' := ?_) (bm 13 1983) rfl rfl (take_ofW HT_.out HW_.out (by as_aux_lemma => kernel_rfl)) (fun _ _ _ h => h) (Or.inl ⟨by rfl, ?_⟩) hHeld ?_ ?_
        rotate_left
        · rintro w' ⟨s0, s1⟩
          go_simp
          with_reducible rfl
        rotate_left
        · simp only [Act.put, List.setIfInBounds_toArray, List.set_cons_zero, List.set_cons_succ, i64_w, i32_w]
          rfl
        refine pure_ (i := 6) (N := some 106) (v := ?_) (a' := ?_) (bm 13 2047) rfl rfl (any_of HT_.out (by as_aux_lemma => kernel_rfl)) (fun _ _ _ h => h) (Or.inl ⟨by rfl, ?_⟩) ?_ ?_
        rotate_left
        · intro w'
          go_simp
          with_reducible rfl
        rotate_left
        · simp only [Act.put, List.setIfInBounds_toArray, List.set_cons_zero, List.set_cons_succ, i64_w, i32_w]
          rfl
        refine take_ (i := 11) (N := some 111) (v := ?_) (a' := ?_) (bm 13 4095) rfl rfl (take_ofW HT_.out HW_.out (by as_aux_lemma => kernel_rfl)) (fun _ _ _ h => h) (Or.inl ⟨by rfl, ?_⟩) hHeld ?_ ?_
        rotate_left
        · rintro w' ⟨s0, s1⟩
          go_simp
          with_reducible rfl
        rotate_left
        · simp only [Act.put, List.setIfInBounds_toArray, List.set_cons_zero, List.set_cons_succ, i64_w, i32_w]
          rfl
        refine one_ (i := 12) (N := some 112) (bm 13 8191) rfl rfl (one_of HT_.out (by as_aux_lemma => kernel_rfl)) (by as_aux_lemma => decide) (fun K hK => ?_)
        refine goes_ Try.func23 (by as_aux_lemma => kernel_rfl) rfl #[.pointer (some ⟨g2, 0, none⟩), .bool (decide (5 < num)), .int .i64 num] (by rfl) rfl rfl (by simp only [List.map_toArray, List.map_cons, List.map_nil]; rfl) ?_
        with_reducible refine (Cu.q_need (QAt.drew_ D3.out) (decide (5 < num)) num).mono ?_
        rintro en w4 ⟨rfl, b1, b2⟩
        have D4 := Aside0.mk b1
        have C4 := Aside0.mk ((PAt.drew_ C3.out).on b2.kept (S := fun k => k = g2) (fun k hk => .inr (by omega)) (by omega))
        have B4 := Aside0.mk (step_b B3.out.drew (by omega) b2)
        refine ⟨_, rfl, ?_⟩
        refine hK.out _ _ ⟨((B4.out.cell (World.block_lt_of_cell? w _ y1.out)).trans y1.out), B4⟩ (fun hHeld => ?_)
        clear hK K
        refine norm_ (a' := ?_) ?_ ?_
        rotate_left
        · show Act.put _ (some 112) _ = _
          simp only [Act.put, List.setIfInBounds_toArray, List.set_cons_zero, List.set_cons_succ, i64_w, i32_w]
          rfl
        refine done_ (done_of HT_.out (by as_aux_lemma => kernel_rfl)) ?_
        
        clear hHeld
        go_upto_region 29 with (fail)
        have m1 : ((c0.need (decide (5 < num)) num).xs.length != (c0.need (decide (5 < num)) num).xs.length) = false := bne_self_eq_false _
        have m2 : (((c0.need (decide (5 < num)) num).xs.length : Int) != ((c0.need (decide (5 < num)) num).xs.length : Int)) = false := bne_self_eq_false _
        have m3 : ((c0.need (decide (5 < num)) num).s != (c0.need (decide (5 < num)) num).s) = false := bne_self_eq_false _
        have m4 : ((c0.need (decide (5 < num)) num).e != (c0.need (decide (5 < num)) num).e) = false := bne_self_eq_false _
        refine start_ (n := 23) (S := fun w' => w'.cell? ⟨g2, 2, none⟩ = some (.bool (c0.need (decide (5 < num)) num).s) ∧ w'.cell? ⟨g2, 3, none⟩ = some (.int .i64 (c0.need (decide (5 < num)) num).e) ∧ Aside0 (PAt w1.heap.size g w' g (c0.need (decide (5 < num)) num)) ∧ Aside0 (QAt w.heap.size w' g2 (c0.need (decide (5 < num)) num)) ∧ Aside0 (Below w.heap.size w w')) (ds := []) (bm 23 0) (by as_aux_lemma => kernel_rfl) rfl (by as_aux_lemma => kernel_rfl) ⟨(QAt.drew_ D4.out).cells.1, (QAt.drew_ D4.out).cells.2, (Aside0.mk (PAt.drew_ C4.out)), (Aside0.mk (QAt.drew_ D4.out)), (Aside0.mk B4.out.drew)⟩ (fun hHeld => ?_)
        refine with_tabW lreads.tab29 lreads.bits29 (fun HT_ HW_ => ?_)
        refine pure_ (i := 0) (N := some 119) (v := ?_) (a' := ?_) (bm 23 1) rfl rfl (any_of HT_.out (by as_aux_lemma => kernel_rfl)) (fun _ _ _ h => h) (Or.inl ⟨by rfl, ?_⟩) ?_ ?_
        rotate_left
        · intro w'
          go_simp
          with_reducible rfl
        rotate_left
        · simp only [Act.put, List.setIfInBounds_toArray, List.set_cons_zero, List.set_cons_succ, i64_w, i32_w]
          rfl
        refine pure_ (i := 2) (N := some 121) (v := ?_) (a' := ?_) (bm 23 5) rfl rfl (any_of HT_.out (by as_aux_lemma => kernel_rfl)) (fun _ _ _ h => h) (Or.inl ⟨by rfl, ?_⟩) ?_ ?_
        rotate_left
        · intro w'
          go_simp
          with_reducible rfl
        rotate_left
        · simp only [Act.put, List.setIfInBounds_toArray, List.set_cons_zero, List.set_cons_succ, i64_w, i32_w]
          rfl
        refine one_ (i := 1) (N := some 120) (bm 23 7) rfl rfl (one_of HT_.out (by as_aux_lemma => kernel_rfl)) (by as_aux_lemma => decide) (fun K hK => ?_)
        refine goes_ Try.func13 (by as_aux_lemma => kernel_rfl) rfl #[.pointer (some ⟨g, 0, none⟩)] (by rfl) rfl rfl (by simp only [List.map_toArray, List.map_cons, List.map_nil]; rfl) ?_
        with_reducible refine (Cu.p_left hHeld.2.2.1.out).mono ?_
        rintro en w5 ⟨rfl, rfl⟩
        refine ⟨_, rfl, ?_⟩
        refine hK.out _ _ ⟨hHeld.1, hHeld.2.1, hHeld.2.2.1, hHeld.2.2.2.1, hHeld.2.2.2.2⟩ (fun hHeld => ?_)
        clear hK K
        refine norm_ (a' := ?_) ?_ ?_
        rotate_left
        · show Act.put _ (some 120) _ = _
          simp only [Act.put, List.setIfInBounds_toArray, List.set_cons_zero, List.set_cons_succ, i64_w, i32_w]
          rfl
        refine one_ (i := 3) (N := some 122) (bm 23 15) rfl rfl (one_of HT_.out (by as_aux_lemma => kernel_rfl)) (by as_aux_lemma => decide) (fun K hK => ?_)
        refine goes_ Try.func27 (by as_aux_lemma => kernel_rfl) rfl #[.pointer (some ⟨g2, 0, none⟩)] (by rfl) rfl rfl (by simp only [List.map_toArray, List.map_cons, List.map_nil]; rfl) ?_
        with_reducible refine (Cu.q_left hHeld.2.2.2.1.out).mono ?_
        rintro en w6 ⟨rfl, b1, b2⟩
        refine ⟨_, rfl, ?_⟩
        refine hK.out _ _ ⟨b1.cells.1, b1.cells.2, (Aside0.mk (hHeld.2.2.1.out.on b2.kept (S := fun k => k = g2) (fun k hk => .inr (by omega)) (by omega))), (Aside0.mk b1), (Aside0.mk (step_b hHeld.2.2.2.2.out (by omega) b2))⟩ (fun hHeld => ?_)
        clear hK K
        refine norm_ (a' := ?_) ?_ ?_
        rotate_left
        · show Act.put _ (some 122) _ = _
          simp only [Act.put, List.setIfInBounds_toArray, List.set_cons_zero, List.set_cons_succ, i64_w, i32_w]
          rfl
        refine pure_ (i := 4) (N := some 123) (v := ?_) (a' := ?_) (bm 23 31) rfl rfl (any_of HT_.out (by as_aux_lemma => kernel_rfl)) (fun _ _ _ h => h) (Or.inl ⟨by rfl, ?_⟩) ?_ ?_
        rotate_left
        · intro w'
          go_simp
          with_reducible rfl
        rotate_left
        · simp only [Act.put, List.setIfInBounds_toArray, List.set_cons_zero, List.set_cons_succ, i64_w, i32_w]
          rfl
        refine pure_ (i := 5) (N := some 124) (v := ?_) (a' := ?_) (bm 23 63) rfl rfl (any_of HT_.out (by as_aux_lemma => kernel_rfl)) (fun _ _ _ h => h) (Or.inl ⟨by rfl, ?_⟩) ?_ ?_
        rotate_left
        · intro w'
          go_simp
          with_reducible rfl
        rotate_left
        · simp only [Act.put, List.setIfInBounds_toArray, List.set_cons_zero, List.set_cons_succ, i64_w, i32_w]
          rfl
        refine pure_ (i := 6) (N := some 125) (v := ?_) (a' := ?_) (bm 23 127) rfl rfl (any_of HT_.out (by as_aux_lemma => kernel_rfl)) (fun _ _ _ h => h) (Or.inl ⟨by rfl, ?_⟩) ?_ ?_
        rotate_left
        · intro w'
          go_simp
          with_reducible rfl
        rotate_left
        · simp only [Act.put, List.setIfInBounds_toArray, List.set_cons_zero, List.set_cons_succ, i64_w, i32_w]
          rfl
        refine pure_ (i := 8) (N := some 127) (v := ?_) (a' := ?_) (bm 23 383) rfl rfl (any_of HT_.out (by as_aux_lemma => kernel_rfl)) (fun _ _ _ h => h) (Or.inl ⟨by rfl, ?_⟩) ?_ ?_
        rotate_left
        · intro w'
          go_simp
          with_reducible rfl
        rotate_left
        · simp only [Act.put, List.setIfInBounds_toArray, List.set_cons_zero, List.set_cons_succ, i64_w, i32_w]
          rfl
        refine pure_ (i := 9) (N := some 128) (v := ?_) (a' := ?_) (bm 23 895) rfl rfl (any_of HT_.out (by as_aux_lemma => kernel_rfl)) (fun _ _ _ h => h) (Or.inl ⟨by rfl, ?_⟩) ?_ ?_
        rotate_left
        · intro w'
          go_simp
          with_reducible rfl
        rotate_left
        · simp only [Act.put, List.setIfInBounds_toArray, List.set_cons_zero, List.set_cons_succ, i64_w, i32_w]
          rfl
        refine pure_ (i := 10) (N := some 129) (v := ?_) (a' := ?_) (bm 23 1919) rfl rfl (any_of HT_.out (by as_aux_lemma => kernel_rfl)) (fun _ _ _ h => h) (Or.inl ⟨by rfl, ?_⟩) ?_ ?_
        rotate_left
        · intro w'
          go_simp
          with_reducible rfl
        rotate_left
        · simp only [Act.put, List.setIfInBounds_toArray, List.set_cons_zero, List.set_cons_succ, i64_w, i32_w]
          rfl
        refine take_ (i := 11) (N := some 130) (v := ?_) (a' := ?_) (bm 23 3967) rfl rfl (take_ofW HT_.out HW_.out (by as_aux_lemma => kernel_rfl)) (fun _ _ _ h => h) (Or.inl ⟨by rfl, ?_⟩) hHeld ?_ ?_
        rotate_left
        · rintro w' ⟨s0, s1, s2, s3, s4⟩
          go_simp
          with_reducible rfl
        rotate_left
        · simp only [Act.put, List.setIfInBounds_toArray, List.set_cons_zero, List.set_cons_succ, i64_w, i32_w]
          rfl
        refine one_ (i := 7) (N := some 126) (bm 23 4095) rfl rfl (one_of HT_.out (by as_aux_lemma => kernel_rfl)) (by as_aux_lemma => decide) (fun K hK => ?_)
        refine goes_ Try.func12 (by as_aux_lemma => kernel_rfl) rfl #[.pointer (some ⟨g, 0, none⟩)] (by rfl) rfl rfl (by simp only [List.map_toArray, List.map_cons, List.map_nil]; rfl) ?_
        with_reducible refine (Cu.p_short hHeld.2.2.1.out).mono ?_
        rintro en w7 ⟨rfl, rfl⟩
        refine ⟨_, rfl, ?_⟩
        refine hK.out _ _ ⟨hHeld.1, hHeld.2.1, hHeld.2.2.1, hHeld.2.2.2.1, hHeld.2.2.2.2⟩ (fun hHeld => ?_)
        clear hK K
        refine norm_ (a' := ?_) ?_ ?_
        rotate_left
        · show Act.put _ (some 126) _ = _
          simp only [Act.put, List.setIfInBounds_toArray, List.set_cons_zero, List.set_cons_succ, i64_w, i32_w]
          rfl
        refine pure_ (i := 12) (N := some 131) (v := ?_) (a' := ?_) (bm 23 8191) rfl rfl (any_of HT_.out (by as_aux_lemma => kernel_rfl)) (fun _ _ _ h => h) (Or.inl ⟨by rfl, ?_⟩) ?_ ?_
        rotate_left
        · intro w'
          go_simp
          with_reducible rfl
        rotate_left
        · simp only [Act.put, List.setIfInBounds_toArray, List.set_cons_zero, List.set_cons_succ, i64_w, i32_w]
          rfl
        refine pure_ (i := 13) (N := some 132) (v := ?_) (a' := ?_) (bm 23 16383) rfl rfl (any_of HT_.out (by as_aux_lemma => kernel_rfl)) (fun _ _ _ h => h) (Or.inl ⟨by rfl, ?_⟩) ?_ ?_
        rotate_left
        · intro w'
          go_simp
          with_reducible rfl
        rotate_left
        · simp only [Act.put, List.setIfInBounds_toArray, List.set_cons_zero, List.set_cons_succ, i64_w, i32_w]
          rfl
        refine pure_ (i := 14) (N := some 133) (v := ?_) (a' := ?_) (bm 23 32767) rfl rfl (any_of HT_.out (by as_aux_lemma => kernel_rfl)) (fun _ _ _ h => h) (Or.inl ⟨by rfl, ?_⟩) ?_ ?_
        rotate_left
        · intro w'
          go_simp
          with_reducible rfl
        rotate_left
        · simp only [Act.put, List.setIfInBounds_toArray, List.set_cons_zero, List.set_cons_succ, i64_w, i32_w]
          rfl
        refine pure_ (i := 15) (N := some 134) (v := ?_) (a' := ?_) (bm 23 65535) rfl rfl (any_of HT_.out (by as_aux_lemma => kernel_rfl)) (fun _ _ _ h => h) (Or.inl ⟨by rfl, ?_⟩) ?_ ?_
        rotate_left
        · intro w'
          go_simp
          with_reducible rfl
        rotate_left
        · simp only [Act.put, List.setIfInBounds_toArray, List.set_cons_zero, List.set_cons_succ, i64_w, i32_w]
          rfl
        refine pure_ (i := 17) (N := some 136) (v := ?_) (a' := ?_) (bm 23 196607) rfl rfl (any_of HT_.out (by as_aux_lemma => kernel_rfl)) (fun _ _ _ h => h) (Or.inl ⟨by rfl, ?_⟩) ?_ ?_
        rotate_left
        · intro w'
          go_simp
          with_reducible rfl
        rotate_left
        · simp only [Act.put, List.setIfInBounds_toArray, List.set_cons_zero, List.set_cons_succ, i64_w, i32_w]
          rfl
        refine pure_ (i := 18) (N := some 137) (v := ?_) (a' := ?_) (bm 23 458751) rfl rfl (any_of HT_.out (by as_aux_lemma => kernel_rfl)) (fun _ _ _ h => h) (Or.inl ⟨by rfl, ?_⟩) ?_ ?_
        rotate_left
        · intro w'
          go_simp
          with_reducible rfl
        rotate_left
        · simp only [Act.put, List.setIfInBounds_toArray, List.set_cons_zero, List.set_cons_succ, i64_w, i32_w]
          rfl
        refine pure_ (i := 19) (N := some 138) (v := ?_) (a' := ?_) (bm 23 983039) rfl rfl (any_of HT_.out (by as_aux_lemma => kernel_rfl)) (fun _ _ _ h => h) (Or.inl ⟨by rfl, ?_⟩) ?_ ?_
        rotate_left
        · intro w'
          go_simp
          with_reducible rfl
        rotate_left
        · simp only [Act.put, List.setIfInBounds_toArray, List.set_cons_zero, List.set_cons_succ, i64_w, i32_w]
          rfl
        refine take_ (i := 20) (N := some 139) (v := ?_) (a' := ?_) (bm 23 2031615) rfl rfl (take_ofW HT_.out HW_.out (by as_aux_lemma => kernel_rfl)) (fun _ _ _ h => h) (Or.inl ⟨by rfl, ?_⟩) hHeld ?_ ?_
        rotate_left
        · rintro w' ⟨s0, s1, s2, s3, s4⟩
          go_simp
          with_reducible rfl
        rotate_left
        · simp only [Act.put, List.setIfInBounds_toArray, List.set_cons_zero, List.set_cons_succ, i64_w, i32_w]
          rfl
        refine one_ (i := 16) (N := some 135) (bm 23 2097151) rfl rfl (one_of HT_.out (by as_aux_lemma => kernel_rfl)) (by as_aux_lemma => decide) (fun K hK => ?_)
        refine goes_ Try.func16 (by as_aux_lemma => kernel_rfl) rfl #[.pointer (some ⟨g, 0, none⟩)] (by rfl) rfl rfl (by simp only [List.map_toArray, List.map_cons, List.map_nil]; rfl) ?_
        with_reducible refine (Cu.p_err hHeld.2.2.1.out).mono ?_
        rintro en w8 ⟨rfl, rfl⟩
        refine ⟨_, rfl, ?_⟩
        refine hK.out _ _ ⟨hHeld.1, hHeld.2.1, hHeld.2.2.1, hHeld.2.2.2.1, hHeld.2.2.2.2⟩ (fun hHeld => ?_)
        clear hK K
        refine norm_ (a' := ?_) ?_ ?_
        rotate_left
        · show Act.put _ (some 135) _ = _
          simp only [Act.put, List.setIfInBounds_toArray, List.set_cons_zero, List.set_cons_succ, i64_w, i32_w]
          rfl
        refine pure_ (i := 21) (N := some 140) (v := ?_) (a' := ?_) (bm 23 4194303) rfl rfl (any_of HT_.out (by as_aux_lemma => kernel_rfl)) (fun _ _ _ h => h) (Or.inl ⟨by rfl, ?_⟩) ?_ ?_
        rotate_left
        · intro w'
          go_simp
          with_reducible rfl
        rotate_left
        · simp only [Act.put, List.setIfInBounds_toArray, List.set_cons_zero, List.set_cons_succ, i64_w, i32_w]
          rfl
        refine pure_ (i := 22) (N := some 141) (v := ?_) (a' := ?_) (bm 23 8388607) rfl rfl (any_of HT_.out (by as_aux_lemma => kernel_rfl)) (fun _ _ _ h => h) (Or.inl ⟨by rfl, ?_⟩) ?_ ?_
        rotate_left
        · intro w'
          go_simp
          with_reducible rfl
        rotate_left
        · simp only [Act.put, List.setIfInBounds_toArray, List.set_cons_zero, List.set_cons_succ, i64_w, i32_w]
          rfl
        refine done_ (done_of HT_.out (by as_aux_lemma => kernel_rfl)) ?_
        
        go_wp2
        go_roundw
        case rel => exact ⟨j + 1, c0.need (decide (5 < num)) num, by omega, by go_num, hHeld.2.2.1, hHeld.2.2.2.1, hHeld.2.2.2.2⟩
        case measure => simp [intOf]; omega
      have q4_ : (kind == 4) = false := beq_eq_false_iff_ne.2 k4
      clear k4
      by_cases k5 : kind = 5
      · subst k5
        clear y0
        clear x1 y1
        go_upto_region 28 with (go_at_call 18; with_reducible refine (Cu.p_end HC.out).mono ?_; rintro en w3 ⟨rfl, b1, b2⟩; have C3 := Aside0.mk b1; have D3 := Aside0.mk (HD.out.on b2.kept (S := fun k => k = g) (fun k hk => by omega) (by omega)); have B3 := Aside0.mk (step_b HB.out hg0 b2); clear b1 b2)
        go_upto_region 29 with (go_at_call 24; with_reducible refine (Cu.q_end D3.out).mono ?_; rintro en w4 ⟨rfl, b1, b2⟩; have D4 := Aside0.mk b1; have C4 := Aside0.mk (C3.out.on b2.kept (S := fun k => k = g2) (fun k hk => .inr (by omega)) (by omega)); have B4 := Aside0.mk (step_b B3.out (by omega) b2); clear b1 b2)
        have m1 : ((c0.fin).xs.length != (c0.fin).xs.length) = false := bne_self_eq_false _
        have m2 : (((c0.fin).xs.length : Int) != ((c0.fin).xs.length : Int)) = false := bne_self_eq_false _
        have m3 : ((c0.fin).s != (c0.fin).s) = false := bne_self_eq_false _
        have m4 : ((c0.fin).e != (c0.fin).e) = false := bne_self_eq_false _
        refine start_ (n := 23) (S := fun w' => w'.cell? ⟨g2, 2, none⟩ = some (.bool (c0.fin).s) ∧ w'.cell? ⟨g2, 3, none⟩ = some (.int .i64 (c0.fin).e) ∧ Aside0 (PAt w1.heap.size g w' g (c0.fin)) ∧ Aside0 (QAt w.heap.size w' g2 (c0.fin)) ∧ Aside0 (Below w.heap.size w w')) (ds := []) (bm 23 0) (by as_aux_lemma => kernel_rfl) rfl (by as_aux_lemma => kernel_rfl) ⟨(QAt.drew_ D4.out).cells.1, (QAt.drew_ D4.out).cells.2, (Aside0.mk (PAt.drew_ C4.out)), (Aside0.mk (QAt.drew_ D4.out)), (Aside0.mk B4.out.drew)⟩ (fun hHeld => ?_)
        refine with_tabW lreads.tab29 lreads.bits29 (fun HT_ HW_ => ?_)
        refine pure_ (i := 0) (N := some 119) (v := ?_) (a' := ?_) (bm 23 1) rfl rfl (any_of HT_.out (by as_aux_lemma => kernel_rfl)) (fun _ _ _ h => h) (Or.inl ⟨by rfl, ?_⟩) ?_ ?_
        rotate_left
        · intro w'
          go_simp
          with_reducible rfl
        rotate_left
        · simp only [Act.put, List.setIfInBounds_toArray, List.set_cons_zero, List.set_cons_succ, i64_w, i32_w]
          rfl
        refine pure_ (i := 2) (N := some 121) (v := ?_) (a' := ?_) (bm 23 5) rfl rfl (any_of HT_.out (by as_aux_lemma => kernel_rfl)) (fun _ _ _ h => h) (Or.inl ⟨by rfl, ?_⟩) ?_ ?_
        rotate_left
        · intro w'
          go_simp
          with_reducible rfl
        rotate_left
        · simp only [Act.put, List.setIfInBounds_toArray, List.set_cons_zero, List.set_cons_succ, i64_w, i32_w]
          rfl
        refine one_ (i := 1) (N := some 120) (bm 23 7) rfl rfl (one_of HT_.out (by as_aux_lemma => kernel_rfl)) (by as_aux_lemma => decide) (fun K hK => ?_)
        refine goes_ Try.func13 (by as_aux_lemma => kernel_rfl) rfl #[.pointer (some ⟨g, 0, none⟩)] (by rfl) rfl rfl (by simp only [List.map_toArray, List.map_cons, List.map_nil]; rfl) ?_
        with_reducible refine (Cu.p_left hHeld.2.2.1.out).mono ?_
        rintro en w5 ⟨rfl, rfl⟩
        refine ⟨_, rfl, ?_⟩
        refine hK.out _ _ ⟨hHeld.1, hHeld.2.1, hHeld.2.2.1, hHeld.2.2.2.1, hHeld.2.2.2.2⟩ (fun hHeld => ?_)
        clear hK K
        refine norm_ (a' := ?_) ?_ ?_
        rotate_left
        · show Act.put _ (some 120) _ = _
          simp only [Act.put, List.setIfInBounds_toArray, List.set_cons_zero, List.set_cons_succ, i64_w, i32_w]
          rfl
        refine one_ (i := 3) (N := some 122) (bm 23 15) rfl rfl (one_of HT_.out (by as_aux_lemma => kernel_rfl)) (by as_aux_lemma => decide) (fun K hK => ?_)
        refine goes_ Try.func27 (by as_aux_lemma => kernel_rfl) rfl #[.pointer (some ⟨g2, 0, none⟩)] (by rfl) rfl rfl (by simp only [List.map_toArray, List.map_cons, List.map_nil]; rfl) ?_
        with_reducible refine (Cu.q_left hHeld.2.2.2.1.out).mono ?_
        rintro en w6 ⟨rfl, b1, b2⟩
        refine ⟨_, rfl, ?_⟩
        refine hK.out _ _ ⟨b1.cells.1, b1.cells.2, (Aside0.mk (hHeld.2.2.1.out.on b2.kept (S := fun k => k = g2) (fun k hk => .inr (by omega)) (by omega))), (Aside0.mk b1), (Aside0.mk (step_b hHeld.2.2.2.2.out (by omega) b2))⟩ (fun hHeld => ?_)
        clear hK K
        refine norm_ (a' := ?_) ?_ ?_
        rotate_left
        · show Act.put _ (some 122) _ = _
          simp only [Act.put, List.setIfInBounds_toArray, List.set_cons_zero, List.set_cons_succ, i64_w, i32_w]
          rfl
        refine pure_ (i := 4) (N := some 123) (v := ?_) (a' := ?_) (bm 23 31) rfl rfl (any_of HT_.out (by as_aux_lemma => kernel_rfl)) (fun _ _ _ h => h) (Or.inl ⟨by rfl, ?_⟩) ?_ ?_
        rotate_left
        · intro w'
          go_simp
          with_reducible rfl
        rotate_left
        · simp only [Act.put, List.setIfInBounds_toArray, List.set_cons_zero, List.set_cons_succ, i64_w, i32_w]
          rfl
        refine pure_ (i := 5) (N := some 124) (v := ?_) (a' := ?_) (bm 23 63) rfl rfl (any_of HT_.out (by as_aux_lemma => kernel_rfl)) (fun _ _ _ h => h) (Or.inl ⟨by rfl, ?_⟩) ?_ ?_
        rotate_left
        · intro w'
          go_simp
          with_reducible rfl
        rotate_left
        · simp only [Act.put, List.setIfInBounds_toArray, List.set_cons_zero, List.set_cons_succ, i64_w, i32_w]
          rfl
        refine pure_ (i := 6) (N := some 125) (v := ?_) (a' := ?_) (bm 23 127) rfl rfl (any_of HT_.out (by as_aux_lemma => kernel_rfl)) (fun _ _ _ h => h) (Or.inl ⟨by rfl, ?_⟩) ?_ ?_
        rotate_left
        · intro w'
          go_simp
          with_reducible rfl
        rotate_left
        · simp only [Act.put, List.setIfInBounds_toArray, List.set_cons_zero, List.set_cons_succ, i64_w, i32_w]
          rfl
        refine pure_ (i := 8) (N := some 127) (v := ?_) (a' := ?_) (bm 23 383) rfl rfl (any_of HT_.out (by as_aux_lemma => kernel_rfl)) (fun _ _ _ h => h) (Or.inl ⟨by rfl, ?_⟩) ?_ ?_
        rotate_left
        · intro w'
          go_simp
          with_reducible rfl
        rotate_left
        · simp only [Act.put, List.setIfInBounds_toArray, List.set_cons_zero, List.set_cons_succ, i64_w, i32_w]
          rfl
        refine pure_ (i := 9) (N := some 128) (v := ?_) (a' := ?_) (bm 23 895) rfl rfl (any_of HT_.out (by as_aux_lemma => kernel_rfl)) (fun _ _ _ h => h) (Or.inl ⟨by rfl, ?_⟩) ?_ ?_
        rotate_left
        · intro w'
          go_simp
          with_reducible rfl
        rotate_left
        · simp only [Act.put, List.setIfInBounds_toArray, List.set_cons_zero, List.set_cons_succ, i64_w, i32_w]
          rfl
        refine pure_ (i := 10) (N := some 129) (v := ?_) (a' := ?_) (bm 23 1919) rfl rfl (any_of HT_.out (by as_aux_lemma => kernel_rfl)) (fun _ _ _ h => h) (Or.inl ⟨by rfl, ?_⟩) ?_ ?_
        rotate_left
        · intro w'
          go_simp
          with_reducible rfl
        rotate_left
        · simp only [Act.put, List.setIfInBounds_toArray, List.set_cons_zero, List.set_cons_succ, i64_w, i32_w]
          rfl
        refine take_ (i := 11) (N := some 130) (v := ?_) (a' := ?_) (bm 23 3967) rfl rfl (take_ofW HT_.out HW_.out (by as_aux_lemma => kernel_rfl)) (fun _ _ _ h => h) (Or.inl ⟨by rfl, ?_⟩) hHeld ?_ ?_
        rotate_left
        · rintro w' ⟨s0, s1, s2, s3, s4⟩
          go_simp
          with_reducible rfl
        rotate_left
        · simp only [Act.put, List.setIfInBounds_toArray, List.set_cons_zero, List.set_cons_succ, i64_w, i32_w]
          rfl
        refine one_ (i := 7) (N := some 126) (bm 23 4095) rfl rfl (one_of HT_.out (by as_aux_lemma => kernel_rfl)) (by as_aux_lemma => decide) (fun K hK => ?_)
        refine goes_ Try.func12 (by as_aux_lemma => kernel_rfl) rfl #[.pointer (some ⟨g, 0, none⟩)] (by rfl) rfl rfl (by simp only [List.map_toArray, List.map_cons, List.map_nil]; rfl) ?_
        with_reducible refine (Cu.p_short hHeld.2.2.1.out).mono ?_
        rintro en w7 ⟨rfl, rfl⟩
        refine ⟨_, rfl, ?_⟩
        refine hK.out _ _ ⟨hHeld.1, hHeld.2.1, hHeld.2.2.1, hHeld.2.2.2.1, hHeld.2.2.2.2⟩ (fun hHeld => ?_)
        clear hK K
        refine norm_ (a' := ?_) ?_ ?_
        rotate_left
        · show Act.put _ (some 126) _ = _
          simp only [Act.put, List.setIfInBounds_toArray, List.set_cons_zero, List.set_cons_succ, i64_w, i32_w]
          rfl
        refine pure_ (i := 12) (N := some 131) (v := ?_) (a' := ?_) (bm 23 8191) rfl rfl (any_of HT_.out (by as_aux_lemma => kernel_rfl)) (fun _ _ _ h => h) (Or.inl ⟨by rfl, ?_⟩) ?_ ?_
        rotate_left
        · intro w'
          go_simp
          with_reducible rfl
        rotate_left
        · simp only [Act.put, List.setIfInBounds_toArray, List.set_cons_zero, List.set_cons_succ, i64_w, i32_w]
          rfl
        refine pure_ (i := 13) (N := some 132) (v := ?_) (a' := ?_) (bm 23 16383) rfl rfl (any_of HT_.out (by as_aux_lemma => kernel_rfl)) (fun _ _ _ h => h) (Or.inl ⟨by rfl, ?_⟩) ?_ ?_
        rotate_left
        · intro w'
          go_simp
          with_reducible rfl
        rotate_left
        · simp only [Act.put, List.setIfInBounds_toArray, List.set_cons_zero, List.set_cons_succ, i64_w, i32_w]
          rfl
        refine pure_ (i := 14) (N := some 133) (v := ?_) (a' := ?_) (bm 23 32767) rfl rfl (any_of HT_.out (by as_aux_lemma => kernel_rfl)) (fun _ _ _ h => h) (Or.inl ⟨by rfl, ?_⟩) ?_ ?_
        rotate_left
        · intro w'
          go_simp
          with_reducible rfl
        rotate_left
        · simp only [Act.put, List.setIfInBounds_toArray, List.set_cons_zero, List.set_cons_succ, i64_w, i32_w]
          rfl
        refine pure_ (i := 15) (N := some 134) (v := ?_) (a' := ?_) (bm 23 65535) rfl rfl (any_of HT_.out (by as_aux_lemma => kernel_rfl)) (fun _ _ _ h => h) (Or.inl ⟨by rfl, ?_⟩) ?_ ?_
        rotate_left
        · intro w'
          go_simp
          with_reducible rfl
        rotate_left
        · simp only [Act.put, List.setIfInBounds_toArray, List.set_cons_zero, List.set_cons_succ, i64_w, i32_w]
          rfl
        refine pure_ (i := 17) (N := some 136) (v := ?_) (a' := ?_) (bm 23 196607) rfl rfl (any_of HT_.out (by as_aux_lemma => kernel_rfl)) (fun _ _ _ h => h) (Or.inl ⟨by rfl, ?_⟩) ?_ ?_
        rotate_left
        · intro w'
          go_simp
          with_reducible rfl
        rotate_left
        · simp only [Act.put, List.setIfInBounds_toArray, List.set_cons_zero, List.set_cons_succ, i64_w, i32_w]
          rfl
        refine pure_ (i := 18) (N := some 137) (v := ?_) (a' := ?_) (bm 23 458751) rfl rfl (any_of HT_.out (by as_aux_lemma => kernel_rfl)) (fun _ _ _ h => h) (Or.inl ⟨by rfl, ?_⟩) ?_ ?_
        rotate_left
        · intro w'
          go_simp
          with_reducible rfl
        rotate_left
        · simp only [Act.put, List.setIfInBounds_toArray, List.set_cons_zero, List.set_cons_succ, i64_w, i32_w]
          rfl
        refine pure_ (i := 19) (N := some 138) (v := ?_) (a' := ?_) (bm 23 983039) rfl rfl (any_of HT_.out (by as_aux_lemma => kernel_rfl)) (fun _ _ _ h => h) (Or.inl ⟨by rfl, ?_⟩) ?_ ?_
        rotate_left
        · intro w'
          go_simp
          with_reducible rfl
        rotate_left
        · simp only [Act.put, List.setIfInBounds_toArray, List.set_cons_zero, List.set_cons_succ, i64_w, i32_w]
          rfl
        refine take_ (i := 20) (N := some 139) (v := ?_) (a' := ?_) (bm 23 2031615) rfl rfl (take_ofW HT_.out HW_.out (by as_aux_lemma => kernel_rfl)) (fun _ _ _ h => h) (Or.inl ⟨by rfl, ?_⟩) hHeld ?_ ?_
        rotate_left
        · rintro w' ⟨s0, s1, s2, s3, s4⟩
          go_simp
          with_reducible rfl
        rotate_left
        · simp only [Act.put, List.setIfInBounds_toArray, List.set_cons_zero, List.set_cons_succ, i64_w, i32_w]
          rfl
        refine one_ (i := 16) (N := some 135) (bm 23 2097151) rfl rfl (one_of HT_.out (by as_aux_lemma => kernel_rfl)) (by as_aux_lemma => decide) (fun K hK => ?_)
        refine goes_ Try.func16 (by as_aux_lemma => kernel_rfl) rfl #[.pointer (some ⟨g, 0, none⟩)] (by rfl) rfl rfl (by simp only [List.map_toArray, List.map_cons, List.map_nil]; rfl) ?_
        with_reducible refine (Cu.p_err hHeld.2.2.1.out).mono ?_
        rintro en w8 ⟨rfl, rfl⟩
        refine ⟨_, rfl, ?_⟩
        refine hK.out _ _ ⟨hHeld.1, hHeld.2.1, hHeld.2.2.1, hHeld.2.2.2.1, hHeld.2.2.2.2⟩ (fun hHeld => ?_)
        clear hK K
        refine norm_ (a' := ?_) ?_ ?_
        rotate_left
        · show Act.put _ (some 135) _ = _
          simp only [Act.put, List.setIfInBounds_toArray, List.set_cons_zero, List.set_cons_succ, i64_w, i32_w]
          rfl
        refine pure_ (i := 21) (N := some 140) (v := ?_) (a' := ?_) (bm 23 4194303) rfl rfl (any_of HT_.out (by as_aux_lemma => kernel_rfl)) (fun _ _ _ h => h) (Or.inl ⟨by rfl, ?_⟩) ?_ ?_
        rotate_left
        · intro w'
          go_simp
          with_reducible rfl
        rotate_left
        · simp only [Act.put, List.setIfInBounds_toArray, List.set_cons_zero, List.set_cons_succ, i64_w, i32_w]
          rfl
        refine pure_ (i := 22) (N := some 141) (v := ?_) (a' := ?_) (bm 23 8388607) rfl rfl (any_of HT_.out (by as_aux_lemma => kernel_rfl)) (fun _ _ _ h => h) (Or.inl ⟨by rfl, ?_⟩) ?_ ?_
        rotate_left
        · intro w'
          go_simp
          with_reducible rfl
        rotate_left
        · simp only [Act.put, List.setIfInBounds_toArray, List.set_cons_zero, List.set_cons_succ, i64_w, i32_w]
          rfl
        refine done_ (done_of HT_.out (by as_aux_lemma => kernel_rfl)) ?_
        
        go_wp2
        go_roundw
        case rel => exact ⟨j + 1, c0.fin, by omega, by go_num, hHeld.2.2.1, hHeld.2.2.2.1, hHeld.2.2.2.2⟩
        case measure => simp [intOf]; omega
      have q5_ : (kind == 5) = false := beq_eq_false_iff_ne.2 k5
      clear k5
      clear y0
      have WSAME := Aside0.mk (fun (A3 : Option Addr) (c3_ : Nat) (A4 : Option Addr) (c4_ : Nat) (W : World) (r3 : Kd.C (Kd.int .u16) W A3 (c0.wordsV num).length (c0.wordsV num)) (r4 : Kd.C (Kd.int .u16) W A4 (c0.wordsV num).length (c0.wordsV num)) (z3 : (c0.wordsV num).length ≤ c3_) (z4 : (c0.wordsV num).length ≤ c4_) => wsame_self (l := (c0.wordsV num)) A3 c3_ A4 c4_ W r3 z3 r4 z4 (by have := wordsV_len c0 num; have := HC.out.2.2.1; omega))
      go_upto_region 12 with (fail)
      refine start_ (n := 16) (S := fun w' => w'.cell? ⟨(adQ.add (j * 2)).block, (adQ.add (j * 2)).off + 1, none⟩ = some (.int .i64 num) ∧ Aside0 (Below w.heap.size w w')) (ds := []) (bm 16 0) (by as_aux_lemma => kernel_rfl) rfl (by as_aux_lemma => kernel_rfl) ⟨((HB.out.drew.cell (World.block_lt_of_cell? w _ y1.out)).trans y1.out), (Aside0.mk HB.out.drew)⟩ (fun hHeld => ?_)
      refine with_tabW lreads.tab12 lreads.bits12 (fun HT_ HW_ => ?_)
      refine pure_ (i := 0) (N := some 37) (v := ?_) (a' := ?_) (bm 16 1) rfl rfl (any_of HT_.out (by as_aux_lemma => kernel_rfl)) (fun _ _ _ h => h) (Or.inl ⟨by rfl, ?_⟩) ?_ ?_
      rotate_left
      · intro w'
        go_simp
        with_reducible rfl
      rotate_left
      · simp only [Act.put, List.setIfInBounds_toArray, List.set_cons_zero, List.set_cons_succ, i64_w, i32_w]
        rfl
      refine pure_ (i := 1) (N := some 38) (v := ?_) (a' := ?_) (bm 16 3) rfl rfl (any_of HT_.out (by as_aux_lemma => kernel_rfl)) (fun _ _ _ h => h) (Or.inl ⟨by rfl, ?_⟩) ?_ ?_
      rotate_left
      · intro w'
        go_simp
        with_reducible rfl
      rotate_left
      · simp only [Act.put, List.setIfInBounds_toArray, List.set_cons_zero, List.set_cons_succ, i64_w, i32_w]
        rfl
      refine pure_ (i := 2) (N := some 39) (v := ?_) (a' := ?_) (bm 16 7) rfl rfl (any_of HT_.out (by as_aux_lemma => kernel_rfl)) (fun _ _ _ h => h) (Or.inl ⟨by rfl, ?_⟩) ?_ ?_
      rotate_left
      · intro w'
        go_simp
        with_reducible rfl
      rotate_left
      · simp only [Act.put, List.setIfInBounds_toArray, List.set_cons_zero, List.set_cons_succ, i64_w, i32_w]
        rfl
      refine pure_ (i := 3) (N := some 40) (v := ?_) (a' := ?_) (bm 16 15) rfl rfl (any_of HT_.out (by as_aux_lemma => kernel_rfl)) (fun _ _ _ h => h) (Or.inl ⟨by rfl, ?_⟩) ?_ ?_
      rotate_left
      · intro w'
        go_simp
        with_reducible rfl
      rotate_left
      · simp only [Act.put, List.setIfInBounds_toArray, List.set_cons_zero, List.set_cons_succ, i64_w, i32_w]
        rfl
      refine pure_ (i := 4) (N := some 41) (v := ?_) (a' := ?_) (bm 16 31) rfl rfl (any_of HT_.out (by as_aux_lemma => kernel_rfl)) (fun _ _ _ h => h) (Or.inl ⟨by rfl, ?_⟩) ?_ ?_
      rotate_left
      · intro w'
        go_simp
        with_reducible rfl
      rotate_left
      · simp only [Act.put, List.setIfInBounds_toArray, List.set_cons_zero, List.set_cons_succ, i64_w, i32_w]
        rfl
      refine pure_ (i := 7) (N := some 44) (v := ?_) (a' := ?_) (bm 16 159) rfl rfl (any_of HT_.out (by as_aux_lemma => kernel_rfl)) (fun _ _ _ h => h) (Or.inl ⟨by rfl, ?_⟩) ?_ ?_
      rotate_left
      · intro w'
        go_simp
        with_reducible rfl
      rotate_left
      · simp only [Act.put, List.setIfInBounds_toArray, List.set_cons_zero, List.set_cons_succ, i64_w, i32_w]
        rfl
      refine pure_ (i := 8) (N := some 45) (v := ?_) (a' := ?_) (bm 16 415) rfl rfl (any_of HT_.out (by as_aux_lemma => kernel_rfl)) (fun _ _ _ h => h) (Or.inl ⟨by rfl, ?_⟩) ?_ ?_
      rotate_left
      · intro w'
        go_simp
        with_reducible rfl
      rotate_left
      · simp only [Act.put, List.setIfInBounds_toArray, List.set_cons_zero, List.set_cons_succ, i64_w, i32_w]
        rfl
      refine pure_ (i := 9) (N := some 46) (v := ?_) (a' := ?_) (bm 16 927) rfl rfl (any_of HT_.out (by as_aux_lemma => kernel_rfl)) (fun _ _ _ h => h) (Or.inl ⟨by rfl, ?_⟩) ?_ ?_
      rotate_left
      · intro w'
        go_simp
        with_reducible rfl
      rotate_left
      · simp only [Act.put, List.setIfInBounds_toArray, List.set_cons_zero, List.set_cons_succ, i64_w, i32_w]
        rfl
      refine pure_ (i := 10) (N := some 47) (v := ?_) (a' := ?_) (bm 16 1951) rfl rfl (any_of HT_.out (by as_aux_lemma => kernel_rfl)) (fun _ _ _ h => h) (Or.inl ⟨by rfl, ?_⟩) ?_ ?_
      rotate_left
      · intro w'
        go_simp
        with_reducible rfl
      rotate_left
      · simp only [Act.put, List.setIfInBounds_toArray, List.set_cons_zero, List.set_cons_succ, i64_w, i32_w]
        rfl
      refine pure_ (i := 11) (N := some 48) (v := ?_) (a' := ?_) (bm 16 3999) rfl rfl (any_of HT_.out (by as_aux_lemma => kernel_rfl)) (fun _ _ _ h => h) (Or.inl ⟨by rfl, ?_⟩) ?_ ?_
      rotate_left
      · intro w'
        go_simp
        with_reducible rfl
      rotate_left
      · simp only [Act.put, List.setIfInBounds_toArray, List.set_cons_zero, List.set_cons_succ, i64_w, i32_w]
        rfl
      refine take_ (i := 5) (N := some 42) (v := ?_) (a' := ?_) (bm 16 4031) rfl rfl (take_ofW HT_.out HW_.out (by as_aux_lemma => kernel_rfl)) (fun _ _ _ h => h) (Or.inl ⟨by rfl, ?_⟩) hHeld ?_ ?_
      rotate_left
      · rintro w' ⟨s0, s1⟩
        go_simp
        with_reducible rfl
      rotate_left
      · simp only [Act.put, List.setIfInBounds_toArray, List.set_cons_zero, List.set_cons_succ, i64_w, i32_w]
        rfl
      refine take_ (i := 12) (N := some 49) (v := ?_) (a' := ?_) (bm 16 8127) rfl rfl (take_ofW HT_.out HW_.out (by as_aux_lemma => kernel_rfl)) (fun _ _ _ h => h) (Or.inl ⟨by rfl, ?_⟩) hHeld ?_ ?_
      rotate_left
      · rintro w' ⟨s0, s1⟩
        go_simp
        with_reducible rfl
      rotate_left
      · simp only [Act.put, List.setIfInBounds_toArray, List.set_cons_zero, List.set_cons_succ, i64_w, i32_w]
        rfl
      refine one_ (i := 6) (N := some 43) (bm 16 8191) rfl rfl (one_of HT_.out (by as_aux_lemma => kernel_rfl)) (by as_aux_lemma => decide) (fun K hK => ?_)
      refine goes_ Try.func14 (by as_aux_lemma => kernel_rfl) rfl #[.pointer (some ⟨g, 0, none⟩), .int .i64 num] (by rfl) rfl rfl (by simp only [List.map_toArray, List.map_cons, List.map_nil]; rfl) ?_
      with_reducible refine (Cu.p_words (PAt.drew_ HC.out) num).mono ?_
      rintro en w3 ⟨A3, c3_, rfl, z3_, r3_, b1, b2⟩
      have Z3 := Aside0.mk z3_
      have R3 := Aside0.mk r3_
      have C3 := Aside0.mk b1
      have D3 := Aside0.mk ((QAt.drew_ HD.out).on b2.kept (S := fun k => k = g) (fun k hk => by omega) (by omega))
      have B3 := Aside0.mk (step_b HB.out.drew hg0 b2)
      have g3_ : g < w3.heap.size := b1.1.lt
      refine ⟨_, rfl, ?_⟩
      refine hK.out _ _ ⟨((B3.out.cell (World.block_lt_of_cell? w _ y1.out)).trans y1.out), B3⟩ (fun hHeld => ?_)
      clear hK K
      refine norm_ (a' := ?_) ?_ ?_
      rotate_left
      · show Act.put _ (some 43) _ = _
        simp only [Act.put, List.setIfInBounds_toArray, List.set_cons_zero, List.set_cons_succ, i64_w, i32_w]
        rfl
      refine one_ (i := 13) (N := some 50) (bm 16 16383) rfl rfl (one_of HT_.out (by as_aux_lemma => kernel_rfl)) (by as_aux_lemma => decide) (fun K hK => ?_)
      refine goes_ Try.func26 (by as_aux_lemma => kernel_rfl) rfl #[.pointer (some ⟨g2, 0, none⟩), .int .i64 num] (by rfl) rfl rfl (by simp only [List.map_toArray, List.map_cons, List.map_nil]; rfl) ?_
      with_reducible refine (Cu.q_words D3.out num).mono ?_
      rintro en w4 ⟨A4, c4_, rfl, z4_, r4_, b1, b2⟩
      have Z4 := Aside0.mk z4_
      have R4 := Aside0.mk r4_.now
      have R5 := Aside0.mk (R3.out.on (b2.kept.mono (fun k hk => .inl (by have := g2lt.out; omega)))).now
      have D5 := Aside0.mk b1
      have C5 := Aside0.mk (C3.out.on b2.kept (S := fun k => k = g2) (fun k hk => .inr (by omega)) (by omega))
      have B5 := Aside0.mk (step_b B3.out (by omega) b2)
      refine ⟨_, rfl, ?_⟩
      refine hK.out _ _ ⟨((B5.out.cell (World.block_lt_of_cell? w _ y1.out)).trans y1.out), B5⟩ (fun hHeld => ?_)
      clear hK K
      refine norm_ (a' := ?_) ?_ ?_
      rotate_left
      · show Act.put _ (some 50) _ = _
        simp only [Act.put, List.setIfInBounds_toArray, List.set_cons_zero, List.set_cons_succ, i64_w, i32_w]
        rfl
      refine one_ (i := 14) (N := some 51) (bm 16 32767) rfl rfl (one_of HT_.out (by as_aux_lemma => kernel_rfl)) (by as_aux_lemma => decide) (fun K hK => ?_)
      refine goes_ Try.func25 (by as_aux_lemma => kernel_rfl) rfl #[.slice A3 (c0.wordsV num).length c3_, .slice A4 (c0.wordsV num).length c4_] (by rfl) rfl rfl (by simp only [List.map_toArray, List.map_cons, List.map_nil]; rfl) ?_
      with_reducible refine ((WSAME.out _ _ _ _ _ R5.out R4.out Z3.out Z4.out)).mono ?_
      rintro en w6 ⟨rfl, b3⟩
      have C4 := Aside0.mk (C5.out.below b3)
      have D4 := Aside0.mk (D5.out.on (S := fun _ => False) (Kept.of_below b3 _) (fun _ h => h.elim) (fun h => h))
      have B4 := Aside0.mk (B5.out.trans (b3.mono B5.out.size))
      refine ⟨_, rfl, ?_⟩
      refine hK.out _ _ ⟨((B4.out.cell (World.block_lt_of_cell? w _ y1.out)).trans y1.out), B4⟩ (fun hHeld => ?_)
      clear hK K
      refine norm_ (a' := ?_) ?_ ?_
      rotate_left
      · show Act.put _ (some 51) _ = _
        simp only [Act.put, List.setIfInBounds_toArray, List.set_cons_zero, List.set_cons_succ, i64_w, i32_w]
        rfl
      refine pure_ (i := 15) (N := some 52) (v := ?_) (a' := ?_) (bm 16 65535) rfl rfl (any_of HT_.out (by as_aux_lemma => kernel_rfl)) (fun _ _ _ h => h) (Or.inl ⟨by rfl, ?_⟩) ?_ ?_
      rotate_left
      · intro w'
        go_simp
        with_reducible rfl
      rotate_left
      · simp only [Act.put, List.setIfInBounds_toArray, List.set_cons_zero, List.set_cons_succ, i64_w, i32_w]
        rfl
      refine done_ (done_of HT_.out (by as_aux_lemma => kernel_rfl)) ?_
      
      clear hHeld
      go_upto_region 29 with (fail)
      have m1 : ((c0.wordsS num).xs.length != (c0.wordsS num).xs.length) = false := bne_self_eq_false _
      have m2 : (((c0.wordsS num).xs.length : Int) != ((c0.wordsS num).xs.length : Int)) = false := bne_self_eq_false _
      have m3 : ((c0.wordsS num).s != (c0.wordsS num).s) = false := bne_self_eq_false _
      have m4 : ((c0.wordsS num).e != (c0.wordsS num).e) = false := bne_self_eq_false _
      refine start_ (n := 23) (S := fun w' => w'.cell? ⟨g2, 2, none⟩ = some (.bool (c0.wordsS num).s) ∧ w'.cell? ⟨g2, 3, none⟩ = some (.int .i64 (c0.wordsS num).e) ∧ Aside0 (PAt w1.heap.size g w' g (c0.wordsS num)) ∧ Aside0 (QAt w.heap.size w' g2 (c0.wordsS num)) ∧ Aside0 (Below w.heap.size w w')) (ds := []) (bm 23 0) (by as_aux_lemma => kernel_rfl) rfl (by as_aux_lemma => kernel_rfl) ⟨(QAt.drew_ D4.out).cells.1, (QAt.drew_ D4.out).cells.2, (Aside0.mk (PAt.drew_ C4.out)), (Aside0.mk (QAt.drew_ D4.out)), (Aside0.mk B4.out.drew)⟩ (fun hHeld => ?_)
      refine with_tabW lreads.tab29 lreads.bits29 (fun HT_ HW_ => ?_)
      refine pure_ (i := 0) (N := some 119) (v := ?_) (a' := ?_) (bm 23 1) rfl rfl (any_of HT_.out (by as_aux_lemma => kernel_rfl)) (fun _ _ _ h => h) (Or.inl ⟨by rfl, ?_⟩) ?_ ?_
      rotate_left
      · intro w'
        go_simp
        with_reducible rfl
      rotate_left
      · simp only [Act.put, List.setIfInBounds_toArray, List.set_cons_zero, List.set_cons_succ, i64_w, i32_w]
        rfl
      refine pure_ (i := 2) (N := some 121) (v := ?_) (a' := ?_) (bm 23 5) rfl rfl (any_of HT_.out (by as_aux_lemma => kernel_rfl)) (fun _ _ _ h => h) (Or.inl ⟨by rfl, ?_⟩) ?_ ?_
      rotate_left
      · intro w'
        go_simp
        with_reducible rfl
      rotate_left
      · simp only [Act.put, List.setIfInBounds_toArray, List.set_cons_zero, List.set_cons_succ, i64_w, i32_w]
        rfl
      refine one_ (i := 1) (N := some 120) (bm 23 7) rfl rfl (one_of HT_.out (by as_aux_lemma => kernel_rfl)) (by as_aux_lemma => decide) (fun K hK => ?_)
      refine goes_ Try.func13 (by as_aux_lemma => kernel_rfl) rfl #[.pointer (some ⟨g, 0, none⟩)] (by rfl) rfl rfl (by simp only [List.map_toArray, List.map_cons, List.map_nil]; rfl) ?_
      with_reducible refine (Cu.p_left hHeld.2.2.1.out).mono ?_
      rintro en w5 ⟨rfl, rfl⟩
      refine ⟨_, rfl, ?_⟩
      refine hK.out _ _ ⟨hHeld.1, hHeld.2.1, hHeld.2.2.1, hHeld.2.2.2.1, hHeld.2.2.2.2⟩ (fun hHeld => ?_)
      clear hK K
      refine norm_ (a' := ?_) ?_ ?_
      rotate_left
      · show Act.put _ (some 120) _ = _
        simp only [Act.put, List.setIfInBounds_toArray, List.set_cons_zero, List.set_cons_succ, i64_w, i32_w]
        rfl
      refine one_ (i := 3) (N := some 122) (bm 23 15) rfl rfl (one_of HT_.out (by as_aux_lemma => kernel_rfl)) (by as_aux_lemma => decide) (fun K hK => ?_)
      refine goes_ Try.func27 (by as_aux_lemma => kernel_rfl) rfl #[.pointer (some ⟨g2, 0, none⟩)] (by rfl) rfl rfl (by simp only [List.map_toArray, List.map_cons, List.map_nil]; rfl) ?_
      with_reducible refine (Cu.q_left hHeld.2.2.2.1.out).mono ?_
      rintro en w6 ⟨rfl, b1, b2⟩
      refine ⟨_, rfl, ?_⟩
      refine hK.out _ _ ⟨b1.cells.1, b1.cells.2, (Aside0.mk (hHeld.2.2.1.out.on b2.kept (S := fun k => k = g2) (fun k hk => .inr (by omega)) (by omega))), (Aside0.mk b1), (Aside0.mk (step_b hHeld.2.2.2.2.out (by omega) b2))⟩ (fun hHeld => ?_)
      clear hK K
      refine norm_ (a' := ?_) ?_ ?_
      rotate_left
      · show Act.put _ (some 122) _ = _
        simp only [Act.put, List.setIfInBounds_toArray, List.set_cons_zero, List.set_cons_succ, i64_w, i32_w]
        rfl
      refine pure_ (i := 4) (N := some 123) (v := ?_) (a' := ?_) (bm 23 31) rfl rfl (any_of HT_.out (by as_aux_lemma => kernel_rfl)) (fun _ _ _ h => h) (Or.inl ⟨by rfl, ?_⟩) ?_ ?_
      rotate_left
      · intro w'
        go_simp
        with_reducible rfl
      rotate_left
      · simp only [Act.put, List.setIfInBounds_toArray, List.set_cons_zero, List.set_cons_succ, i64_w, i32_w]
        rfl
      refine pure_ (i := 5) (N := some 124) (v := ?_) (a' := ?_) (bm 23 63) rfl rfl (any_of HT_.out (by as_aux_lemma => kernel_rfl)) (fun _ _ _ h => h) (Or.inl ⟨by rfl, ?_⟩) ?_ ?_
      rotate_left
      · intro w'
        go_simp
        with_reducible rfl
      rotate_left
      · simp only [Act.put, List.setIfInBounds_toArray, List.set_cons_zero, List.set_cons_succ, i64_w, i32_w]
        rfl
      refine pure_ (i := 6) (N := some 125) (v := ?_) (a' := ?_) (bm 23 127) rfl rfl (any_of HT_.out (by as_aux_lemma => kernel_rfl)) (fun _ _ _ h => h) (Or.inl ⟨by rfl, ?_⟩) ?_ ?_
      rotate_left
      · intro w'
        go_simp
        with_reducible rfl
      rotate_left
      · simp only [Act.put, List.setIfInBounds_toArray, List.set_cons_zero, List.set_cons_succ, i64_w, i32_w]
        rfl
      refine pure_ (i := 8) (N := some 127) (v := ?_) (a' := ?_) (bm 23 383) rfl rfl (any_of HT_.out (by as_aux_lemma => kernel_rfl)) (fun _ _ _ h => h) (Or.inl ⟨by rfl, ?_⟩) ?_ ?_
      rotate_left
      · intro w'
        go_simp
        with_reducible rfl
      rotate_left
      · simp only [Act.put, List.setIfInBounds_toArray, List.set_cons_zero, List.set_cons_succ, i64_w, i32_w]
        rfl
      refine pure_ (i := 9) (N := some 128) (v := ?_) (a' := ?_) (bm 23 895) rfl rfl (any_of HT_.out (by as_aux_lemma => kernel_rfl)) (fun _ _ _ h => h) (Or.inl ⟨by rfl, ?_⟩) ?_ ?_
      rotate_left
      · intro w'
        go_simp
        with_reducible rfl
      rotate_left
      · simp only [Act.put, List.setIfInBounds_toArray, List.set_cons_zero, List.set_cons_succ, i64_w, i32_w]
        rfl
      refine pure_ (i := 10) (N := some 129) (v := ?_) (a' := ?_) (bm 23 1919) rfl rfl (any_of HT_.out (by as_aux_lemma => kernel_rfl)) (fun _ _ _ h => h) (Or.inl ⟨by rfl, ?_⟩) ?_ ?_
      rotate_left
      · intro w'
        go_simp
        with_reducible rfl
      rotate_left
      · simp only [Act.put, List.setIfInBounds_toArray, List.set_cons_zero, List.set_cons_succ, i64_w, i32_w]
        rfl
      refine take_ (i := 11) (N := some 130) (v := ?_) (a' := ?_) (bm 23 3967) rfl rfl (take_ofW HT_.out HW_.out (by as_aux_lemma => kernel_rfl)) (fun _ _ _ h => h) (Or.inl ⟨by rfl, ?_⟩) hHeld ?_ ?_
      rotate_left
      · rintro w' ⟨s0, s1, s2, s3, s4⟩
        go_simp
        with_reducible rfl
      rotate_left
      · simp only [Act.put, List.setIfInBounds_toArray, List.set_cons_zero, List.set_cons_succ, i64_w, i32_w]
        rfl
      refine one_ (i := 7) (N := some 126) (bm 23 4095) rfl rfl (one_of HT_.out (by as_aux_lemma => kernel_rfl)) (by as_aux_lemma => decide) (fun K hK => ?_)
      refine goes_ Try.func12 (by as_aux_lemma => kernel_rfl) rfl #[.pointer (some ⟨g, 0, none⟩)] (by rfl) rfl rfl (by simp only [List.map_toArray, List.map_cons, List.map_nil]; rfl) ?_
      with_reducible refine (Cu.p_short hHeld.2.2.1.out).mono ?_
      rintro en w7 ⟨rfl, rfl⟩
      refine ⟨_, rfl, ?_⟩
      refine hK.out _ _ ⟨hHeld.1, hHeld.2.1, hHeld.2.2.1, hHeld.2.2.2.1, hHeld.2.2.2.2⟩ (fun hHeld => ?_)
      clear hK K
      refine norm_ (a' := ?_) ?_ ?_
      rotate_left
      · show Act.put _ (some 126) _ = _
        simp only [Act.put, List.setIfInBounds_toArray, List.set_cons_zero, List.set_cons_succ, i64_w, i32_w]
        rfl
      refine pure_ (i := 12) (N := some 131) (v := ?_) (a' := ?_) (bm 23 8191) rfl rfl (any_of HT_.out (by as_aux_lemma => kernel_rfl)) (fun _ _ _ h => h) (Or.inl ⟨by rfl, ?_⟩) ?_ ?_
      rotate_left
      · intro w'
        go_simp
        with_reducible rfl
      rotate_left
      · simp only [Act.put, List.setIfInBounds_toArray, List.set_cons_zero, List.set_cons_succ, i64_w, i32_w]
        rfl
      refine pure_ (i := 13) (N := some 132) (v := ?_) (a' := ?_) (bm 23 16383) rfl rfl (any_of HT_.out (by as_aux_lemma => kernel_rfl)) (fun _ _ _ h => h) (Or.inl ⟨by rfl, ?_⟩) ?_ ?_
      rotate_left
      · intro w'
        go_simp
        with_reducible rfl
      rotate_left
      · simp only [Act.put, List.setIfInBounds_toArray, List.set_cons_zero, List.set_cons_succ, i64_w, i32_w]
        rfl
      refine pure_ (i := 14) (N := some 133) (v := ?_) (a' := ?_) (bm 23 32767) rfl rfl (any_of HT_.out (by as_aux_lemma => kernel_rfl)) (fun _ _ _ h => h) (Or.inl ⟨by rfl, ?_⟩) ?_ ?_
      rotate_left
      · intro w'
        go_simp
        with_reducible rfl
      rotate_left
      · simp only [Act.put, List.setIfInBounds_toArray, List.set_cons_zero, List.set_cons_succ, i64_w, i32_w]
        rfl
      refine pure_ (i := 15) (N := some 134) (v := ?_) (a' := ?_) (bm 23 65535) rfl rfl (any_of HT_.out (by as_aux_lemma => kernel_rfl)) (fun _ _ _ h => h) (Or.inl ⟨by rfl, ?_⟩) ?_ ?_
      rotate_left
      · intro w'
        go_simp
        with_reducible rfl
      rotate_left
      · simp only [Act.put, List.setIfInBounds_toArray, List.set_cons_zero, List.set_cons_succ, i64_w, i32_w]
        rfl
      refine pure_ (i := 17) (N := some 136) (v := ?_) (a' := ?_) (bm 23 196607) rfl rfl (any_of HT_.out (by as_aux_lemma => kernel_rfl)) (fun _ _ _ h => h) (Or.inl ⟨by rfl, ?_⟩) ?_ ?_
      rotate_left
      · intro w'
        go_simp
        with_reducible rfl
      rotate_left
      · simp only [Act.put, List.setIfInBounds_toArray, List.set_cons_zero, List.set_cons_succ, i64_w, i32_w]
        rfl
      refine pure_ (i := 18) (N := some 137) (v := ?_) (a' := ?_) (bm 23 458751) rfl rfl (any_of HT_.out (by as_aux_lemma => kernel_rfl)) (fun _ _ _ h => h) (Or.inl ⟨by rfl, ?_⟩) ?_ ?_
      rotate_left
      · intro w'
        go_simp
        with_reducible rfl
      rotate_left
      · simp only [Act.put, List.setIfInBounds_toArray, List.set_cons_zero, List.set_cons_succ, i64_w, i32_w]
        rfl
      refine pure_ (i := 19) (N := some 138) (v := ?_) (a' := ?_) (bm 23 983039) rfl rfl (any_of HT_.out (by as_aux_lemma => kernel_rfl)) (fun _ _ _ h => h) (Or.inl ⟨by rfl, ?_⟩) ?_ ?_
      rotate_left
      · intro w'
        go_simp
        with_reducible rfl
      rotate_left
      · simp only [Act.put, List.setIfInBounds_toArray, List.set_cons_zero, List.set_cons_succ, i64_w, i32_w]
        rfl
      refine take_ (i := 20) (N := some 139) (v := ?_) (a' := ?_) (bm 23 2031615) rfl rfl (take_ofW HT_.out HW_.out (by as_aux_lemma => kernel_rfl)) (fun _ _ _ h => h) (Or.inl ⟨by rfl, ?_⟩) hHeld ?_ ?_
      rotate_left
      · rintro w' ⟨s0, s1, s2, s3, s4⟩
        go_simp
        with_reducible rfl
      rotate_left
      · simp only [Act.put, List.setIfInBounds_toArray, List.set_cons_zero, List.set_cons_succ, i64_w, i32_w]
        rfl
      refine one_ (i := 16) (N := some 135) (bm 23 2097151) rfl rfl (one_of HT_.out (by as_aux_lemma => kernel_rfl)) (by as_aux_lemma => decide) (fun K hK => ?_)
      refine goes_ Try.func16 (by as_aux_lemma => kernel_rfl) rfl #[.pointer (some ⟨g, 0, none⟩)] (by rfl) rfl rfl (by simp only [List.map_toArray, List.map_cons, List.map_nil]; rfl) ?_
      with_reducible refine (Cu.p_err hHeld.2.2.1.out).mono ?_
      rintro en w8 ⟨rfl, rfl⟩
      refine ⟨_, rfl, ?_⟩
      refine hK.out _ _ ⟨hHeld.1, hHeld.2.1, hHeld.2.2.1, hHeld.2.2.2.1, hHeld.2.2.2.2⟩ (fun hHeld => ?_)
      clear hK K
      refine norm_ (a' := ?_) ?_ ?_
      rotate_left
      · show Act.put _ (some 135) _ = _
        simp only [Act.put, List.setIfInBounds_toArray, List.set_cons_zero, List.set_cons_succ, i64_w, i32_w]
        rfl
      refine pure_ (i := 21) (N := some 140) (v := ?_) (a' := ?_) (bm 23 4194303) rfl rfl (any_of HT_.out (by as_aux_lemma => kernel_rfl)) (fun _ _ _ h => h) (Or.inl ⟨by rfl, ?_⟩) ?_ ?_
      rotate_left
      · intro w'
        go_simp
        with_reducible rfl
      rotate_left
      · simp only [Act.put, List.setIfInBounds_toArray, List.set_cons_zero, List.set_cons_succ, i64_w, i32_w]
        rfl
      refine pure_ (i := 22) (N := some 141) (v := ?_) (a' := ?_) (bm 23 8388607) rfl rfl (any_of HT_.out (by as_aux_lemma => kernel_rfl)) (fun _ _ _ h => h) (Or.inl ⟨by rfl, ?_⟩) ?_ ?_
      rotate_left
      · intro w'
        go_simp
        with_reducible rfl
      rotate_left
      · simp only [Act.put, List.setIfInBounds_toArray, List.set_cons_zero, List.set_cons_succ, i64_w, i32_w]
        rfl
      refine done_ (done_of HT_.out (by as_aux_lemma => kernel_rfl)) ?_
      
      go_wp2
      go_roundw
      case rel => exact ⟨j + 1, c0.wordsS num, by omega, by go_num, hHeld.2.2.1, hHeld.2.2.2.1, hHeld.2.2.2.2⟩
      case measure => simp [intOf]; omega
    · have m1 : (c0.xs.length == c0.xs.length) = true := beq_self_eq_true _
      have m2 : ((c0.xs.length : Int) == (c0.xs.length : Int)) = true := beq_self_eq_true _
      go_wp2_with (first | (go_at_call 13; with_reducible refine (Cu.p_left HC.out).mono ?_; rintro en w3 ⟨rfl, rfl⟩) | (go_at_call 27; with_reducible refine (Cu.q_left HD.out).mono ?_; rintro en w4 ⟨rfl, b1, b2⟩; have B4 := Aside0.mk (step_b HB.out (by omega) b2); clear b1 b2))
      go_ret
      exact ⟨rfl, B4.out⟩

theorem busbarlaw06_CursorReads (A : Option Addr) (c : Nat) (l : List Int) (A2 : Option Addr) (c2 : Nat) (q : List S41) (w : World) (hr : Kd.C (Kd.int .u8) w A l.length l) (hc : l.length ≤ c) (hr2 : Kd.C k41 w A2 q.length q) (hc2 : q.length ≤ c2) {p1 p2 p3 : Prop} (_ : p1) (hw : ∀ x ∈ l, (Lit.int .u8 x).wf = true) (_ : p2) (_ : p3) :
    Calls Try.prog 7 #[.slice A l.length c, .slice A2 q.length c2] w fun en w' => en = .returned (.bool true) ∧ Below w.heap.size w w' := by
  by_cases hl : 200 < l.length
  · exact reads_long A c l A2 c2 q w hr hc hr2 hc2 hl
  by_cases hq : 60 < q.length
  · exact reads_many A c l A2 c2 q w hr hc hr2 hc2 hl hq
  · exact reads_go A c l A2 c2 q w hr hc hr2 hc2 hl hq (fun x hx => u8_wfr (hw x hx))
end Go.Proofs.Ythhkjmoppaopjaa.Laws
