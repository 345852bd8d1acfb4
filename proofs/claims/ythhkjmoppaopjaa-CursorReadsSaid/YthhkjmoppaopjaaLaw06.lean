/- The laws of the cursor, walked. -/
import Derived.Test.YthhkjmoppaopjaaCurW
import Derived.Test.YthhkjmoppaopjaaWQPut
set_option linter.unusedVariables false
set_option linter.unusedSimpArgs false
namespace Go.Proofs.Ythhkjmoppaopjaa.Laws
open Go.RowKit Go.Proofs.Ythhkjmoppaopjaa.P Go.Proofs.Ythhkjmoppaopjaa.E Go.Proofs.Ythhkjmoppaopjaa.Cur Go.Proofs.YthhkjmoppaopjaaW.PrintWords Go.Proofs.YthhkjmoppaopjaaW.PrintLast Go.Proofs.YthhkjmoppaopjaaW.PrintMore
theorem step_b {w W W' : World} {g : Nat} (h : Below w.heap.size w W) (hg : w.heap.size ≤ g) (k : Upd g W W') : Below w.heap.size w W' := h.trans (k.below hg h.size)
set_option maxHeartbeats 4000000 in
set_option maxRecDepth 100000 in
theorem awake_any (w : World) : Calls Try.prog 8 #[] w fun e w' => e = .returned (.bool true) ∧ Below w.heap.size w w' := by
  go_enter Try.func8, Try.ntmps8
  go_upto_region 1 with (fail)
  refine wp_region_lit ?_
  refine Kd.R_lit (Kd.int .u8) w.heap.size 5 rfl (N := 5) rfl (xs := ([1, 2, 3] : List Int)) (inner := [.int .u8 1, .int .u8 2, .int .u8 3]) (ok := fun _ => True) (okp := fun _ => True) ?h1 ?h2 (fun _ h => h) trivial (Below.refl _ _) (Nat.le_refl _) (by simp) ?_
  case h1 => first | (go_simp; done) | (go_simp; rfl)
  case h2 => exact (Reps.one (show Kd.M (Kd.int .u8) _ _ _ 1 [.int .u8 1] from rfl) (Reps.one (show Kd.M (Kd.int .u8) _ _ _ 2 [.int .u8 2] from rfl) (Reps.one (show Kd.M (Kd.int .u8) _ _ _ 3 [.int .u8 3] from rfl) (Reps.none _ _))))
  intro v1 w1 R1 B1 _ _
  obtain ⟨A1, c1, rfl, h2, h3⟩ := Kd.R_reads R1
  have HN := Aside0.mk (new_any A1 c1 [1, 2, 3] w1 h3 h2 (by simp))
  have HB := Aside0.mk B1
  clear h2 h3 R1 B1
  go_wp2_with (first
    | (go_at_call 9; refine HN.out.mono ?_; rintro en w2 ⟨g, rfl, b1, b2, b3, b4⟩; have HG := Aside0.mk (Nat.le_trans HB.out.size b1); have HC := Aside0.mk b2; have HB2 := Aside0.mk (HB.out.trans (b3.mono HB.out.size)); clear b1 b2 b3 b4 HN HB)
    | (go_at_call 15; refine (word_ok _ _ _ _ _ _ _ _ HC.out (by simp) (by intro x hx; simp at hx; omega)).mono ?_; rintro en w3 ⟨rfl, b1, b2⟩; have HC3 := Aside0.mk b1; have HB3 := Aside0.mk (step_b HB2.out HG.out b2); clear b1 b2 HC HB2)
    | (go_at_call 13; refine (left_any _ _ _ _ _ _ _ HC3.out).mono ?_; rintro en w4 ⟨rfl, rfl⟩)
    | (go_at_call 15; refine (word_short _ _ _ _ _ _ _ HC3.out (by simp) (.inr (by simp))).mono ?_; rintro en w5 ⟨rfl, b1, b2⟩; have HC5 := Aside0.mk b1; have HB5 := Aside0.mk (step_b HB3.out HG.out b2); clear b1 b2 HC3 HB3)
    | (go_at_call 12; refine (short_any _ _ _ _ _ _ _ HC5.out).mono ?_; rintro en w6 ⟨rfl, rfl⟩)
    | (go_at_call 13; refine (left_any _ _ _ _ _ _ _ HC5.out).mono ?_; rintro en w7 ⟨rfl, rfl⟩)
    | (go_at_call 16; refine (err_any _ _ _ _ _ _ _ HC5.out).mono ?_; rintro en w8 ⟨rfl, rfl⟩))
  go_ret
  exact ⟨rfl, HB5.out⟩
/-! CursorFirst -/
theorem need_set (lo hi g : Nat) (xs : List Int) (s : Bool) (f : Int) (w : World) (h : At lo hi w g xs s 0) :
    Calls Try.prog 17 #[.pointer (some ⟨g, 0, none⟩), .bool false, .int .i64 f] w fun en w' => en = .returned (.tuple #[]) ∧ At lo hi w' g xs s f ∧ Upd g w w' := by
  have := need_any lo hi g xs s 0 false f w h
  simpa using this
theorem need_met (lo hi g : Nat) (xs : List Int) (s : Bool) (e f : Int) (w : World) (h : At lo hi w g xs s e) :
    Calls Try.prog 17 #[.pointer (some ⟨g, 0, none⟩), .bool true, .int .i64 f] w fun en w' => en = .returned (.tuple #[]) ∧ At lo hi w' g xs s e ∧ Upd g w w' := by
  have := need_any lo hi g xs s e true f w h
  simpa using this
theorem need_keep (lo hi g : Nat) (xs : List Int) (s : Bool) (e f : Int) (b : Bool) (w : World) (h : At lo hi w g xs s e) (he : e ≠ 0) :
    Calls Try.prog 17 #[.pointer (some ⟨g, 0, none⟩), .bool b, .int .i64 f] w fun en w' => en = .returned (.tuple #[]) ∧ At lo hi w' g xs s e ∧ Upd g w w' := by
  have := need_any lo hi g xs s e b f w h
  simpa [he] using this
theorem end_nil (lo hi g : Nat) (s : Bool) (e : Int) (w : World) (h : At lo hi w g [] s e) :
    Calls Try.prog 18 #[.pointer (some ⟨g, 0, none⟩)] w fun en w' => en = .returned (.tuple #[]) ∧ At lo hi w' g [] s e ∧ Upd g w w' := by
  have := end_any lo hi g [] s e w h
  simpa using this
theorem bytes_over (lo hi g : Nat) (xs : List Int) (s : Bool) (e e2 n : Int) (w : World) (h : At lo hi w g xs s e) (hn : (xs.length : Int) < n) (he : fstE e 2 = e2) :
    Calls Try.prog 10 #[.pointer (some ⟨g, 0, none⟩), .int .i64 n] w fun en w' => en = .returned (.slice none 0 0) ∧ At lo hi w' g [] true e2 ∧ Upd g w w' := by
  subst he
  exact bytes_short lo hi g xs s e n w h (.inr (.inr hn))
theorem fstE_ne {e : Int} (h : e ≠ 0) : fstE e 2 = e := if_neg h
theorem fstE_z : fstE 0 2 = 2 := rfl
set_option maxHeartbeats 16000000 in
set_option maxRecDepth 100000 in
theorem first_long (A : Option Addr) (c : Nat) (l : List Int) (e f : Int) (w : World) (hr : Kd.C (Kd.int .u8) w A l.length l) (hc : l.length ≤ c) (met : Bool) (hl : 200 < l.length) :
    Calls Try.prog 5 #[.slice A l.length c, .int .i64 e, .int .i64 f, .bool met] w fun en w' => en = .returned (.bool true) ∧ Below w.heap.size w w' := by
  have HB := Aside0.mk (Below.refl w.heap.size w)
  have c1 : decide ((l.length : Int) > 200) = true := decide_eq_true (by omega)
  have c2 : decide ((200 : Int) < (l.length : Int)) = true := decide_eq_true (by omega)
  clear hr
  go_enter Try.func5, Try.ntmps5
  go_wp2_with (go_at_call 8; refine (awake_any _).mono ?_; rintro en w1 ⟨rfl, b1⟩; have n0_ := Aside0.mk (HB.out.trans (b1.mono HB.out.size)); clear b1 HB; have HB := n0_; clear n0_)
  go_ret
  exact ⟨rfl, HB.out⟩
set_option maxHeartbeats 16000000 in
set_option maxRecDepth 100000 in
theorem first_m0 (A : Option Addr) (c : Nat) (l : List Int) (e : Int) (w : World) (hr : Kd.C (Kd.int .u8) w A l.length l) (hc : l.length ≤ c) (hl : ¬ 200 < l.length)  :
    Calls Try.prog 5 #[.slice A l.length c, .int .i64 e, .int .i64 0, .bool true] w fun en w' => en = .returned (.bool true) ∧ Below w.heap.size w w' := by
  have HB := Aside0.mk (Below.refl w.heap.size w)
  have c1 : decide ((l.length : Int) > 200) = false := decide_eq_false (by omega)
  have c2 : decide ((200 : Int) < (l.length : Int)) = false := decide_eq_false (by omega)
  have c3 : wrap64 ((l.length : Int) + 1) = (l.length : Int) + 1 := wrap64_id (by omega) (by omega)
  have HN := Aside0.mk (fun W (hb : Below w.heap.size w W) => new_any A c l W (Kd.C_below hr hb) hc (by omega))
  clear hr
  go_enter Try.func5, Try.ntmps5
  go_upto_region 4 with (go_at_call 8; refine (awake_any _).mono ?_; rintro en w1 ⟨rfl, b1⟩; have n0_ := Aside0.mk (HB.out.trans (b1.mono HB.out.size)); clear b1 HB; have HB := n0_; clear n0_)
  go_upto_region 7 with (go_at_call 9; refine (HN.out _ HB.out).mono ?_; rintro en w2 ⟨g, rfl, b1, b2, b3, b4⟩; have HG := Aside0.mk (Nat.le_trans HB.out.size b1); have HC := Aside0.mk b2; have n0_ := Aside0.mk (HB.out.trans (b3.mono HB.out.size)); clear b1 b2 b3 b4 HB; have HB := n0_; clear n0_)
  go_upto_region 8 with (go_at_call 16; refine (err_any _ _ _ _ _ _ _ HC.out).mono ?_; rintro en w4 ⟨rfl, rfl⟩)
  go_upto_region 9 with (go_at_call 17; refine (need_met _ _ _ _ _ _ _ _ HC.out).mono ?_; rintro en w3 ⟨rfl, b1, b2⟩; have n0_ := Aside0.mk b1; have n1_ := Aside0.mk (step_b HB.out HG.out b2); clear b1 b2 HC HB; have HC := n0_; have HB := n1_; clear n0_ n1_)
  go_upto_region 10 with (go_at_call 16; refine (err_any _ _ _ _ _ _ _ HC.out).mono ?_; rintro en w4 ⟨rfl, rfl⟩)
  go_upto_region 11 with (go_at_call 17; refine (need_set _ _ _ _ _ _ _ HC.out).mono ?_; rintro en w3 ⟨rfl, b1, b2⟩; have n0_ := Aside0.mk b1; have n1_ := Aside0.mk (step_b HB.out HG.out b2); clear b1 b2 HC HB; have HC := n0_; have HB := n1_; clear n0_ n1_)
  go_upto_region 12 with (go_at_call 16; refine (err_any _ _ _ _ _ _ _ HC.out).mono ?_; rintro en w4 ⟨rfl, rfl⟩)
  go_upto_region 13 with (go_at_call 10; refine (bytes_over _ _ _ _ _ _ _ _ _ HC.out (by omega) (fstE_z)).mono ?_; rintro en w3 ⟨rfl, b1, b2⟩; have n0_ := Aside0.mk b1; have n1_ := Aside0.mk (step_b HB.out HG.out b2); clear b1 b2 HC HB; have HC := n0_; have HB := n1_; clear n0_ n1_)
  go_upto_region 14 with (go_at_call 18; refine (end_nil _ _ _ _ _ _ HC.out).mono ?_; rintro en w3 ⟨rfl, b1, b2⟩; have n0_ := Aside0.mk b1; have n1_ := Aside0.mk (step_b HB.out HG.out b2); clear b1 b2 HC HB; have HC := n0_; have HB := n1_; clear n0_ n1_)
  go_wp2_with (go_at_call 16; refine (err_any _ _ _ _ _ _ _ HC.out).mono ?_; rintro en w4 ⟨rfl, rfl⟩)
  go_ret
  exact ⟨rfl, HB.out⟩
set_option maxHeartbeats 16000000 in
set_option maxRecDepth 100000 in
theorem first_m1 (A : Option Addr) (c : Nat) (l : List Int) (e : Int) (f : Int) (w : World) (hr : Kd.C (Kd.int .u8) w A l.length l) (hc : l.length ≤ c) (hl : ¬ 200 < l.length) (hf : f ≠ 0) :
    Calls Try.prog 5 #[.slice A l.length c, .int .i64 e, .int .i64 f, .bool true] w fun en w' => en = .returned (.bool true) ∧ Below w.heap.size w w' := by
  have HB := Aside0.mk (Below.refl w.heap.size w)
  have c1 : decide ((l.length : Int) > 200) = false := decide_eq_false (by omega)
  have c2 : decide ((200 : Int) < (l.length : Int)) = false := decide_eq_false (by omega)
  have c3 : wrap64 ((l.length : Int) + 1) = (l.length : Int) + 1 := wrap64_id (by omega) (by omega)
  have HN := Aside0.mk (fun W (hb : Below w.heap.size w W) => new_any A c l W (Kd.C_below hr hb) hc (by omega))
  clear hr
  have f1 : (f == 0) = false := beq_eq_false_iff_ne.2 hf
  have f2 : (f != 0) = true := bne_iff_ne.2 hf
  go_enter Try.func5, Try.ntmps5
  go_upto_region 4 with (go_at_call 8; refine (awake_any _).mono ?_; rintro en w1 ⟨rfl, b1⟩; have n0_ := Aside0.mk (HB.out.trans (b1.mono HB.out.size)); clear b1 HB; have HB := n0_; clear n0_)
  go_upto_region 7 with (go_at_call 9; refine (HN.out _ HB.out).mono ?_; rintro en w2 ⟨g, rfl, b1, b2, b3, b4⟩; have HG := Aside0.mk (Nat.le_trans HB.out.size b1); have HC := Aside0.mk b2; have n0_ := Aside0.mk (HB.out.trans (b3.mono HB.out.size)); clear b1 b2 b3 b4 HB; have HB := n0_; clear n0_)
  go_upto_region 8 with (go_at_call 16; refine (err_any _ _ _ _ _ _ _ HC.out).mono ?_; rintro en w4 ⟨rfl, rfl⟩)
  go_upto_region 9 with (go_at_call 17; refine (need_met _ _ _ _ _ _ _ _ HC.out).mono ?_; rintro en w3 ⟨rfl, b1, b2⟩; have n0_ := Aside0.mk b1; have n1_ := Aside0.mk (step_b HB.out HG.out b2); clear b1 b2 HC HB; have HC := n0_; have HB := n1_; clear n0_ n1_)
  go_upto_region 10 with (go_at_call 16; refine (err_any _ _ _ _ _ _ _ HC.out).mono ?_; rintro en w4 ⟨rfl, rfl⟩)
  go_upto_region 11 with (go_at_call 17; refine (need_set _ _ _ _ _ _ _ HC.out).mono ?_; rintro en w3 ⟨rfl, b1, b2⟩; have n0_ := Aside0.mk b1; have n1_ := Aside0.mk (step_b HB.out HG.out b2); clear b1 b2 HC HB; have HC := n0_; have HB := n1_; clear n0_ n1_)
  go_upto_region 12 with (go_at_call 16; refine (err_any _ _ _ _ _ _ _ HC.out).mono ?_; rintro en w4 ⟨rfl, rfl⟩)
  go_upto_region 13 with (go_at_call 10; refine (bytes_over _ _ _ _ _ _ _ _ _ HC.out (by omega) (fstE_ne hf)).mono ?_; rintro en w3 ⟨rfl, b1, b2⟩; have n0_ := Aside0.mk b1; have n1_ := Aside0.mk (step_b HB.out HG.out b2); clear b1 b2 HC HB; have HC := n0_; have HB := n1_; clear n0_ n1_)
  go_upto_region 14 with (go_at_call 18; refine (end_nil _ _ _ _ _ _ HC.out).mono ?_; rintro en w3 ⟨rfl, b1, b2⟩; have n0_ := Aside0.mk b1; have n1_ := Aside0.mk (step_b HB.out HG.out b2); clear b1 b2 HC HB; have HC := n0_; have HB := n1_; clear n0_ n1_)
  go_wp2_with (go_at_call 16; refine (err_any _ _ _ _ _ _ _ HC.out).mono ?_; rintro en w4 ⟨rfl, rfl⟩)
  go_ret
  exact ⟨rfl, HB.out⟩
set_option maxHeartbeats 16000000 in
set_option maxRecDepth 100000 in
theorem first_z0 (A : Option Addr) (c : Nat) (l : List Int) (w : World) (hr : Kd.C (Kd.int .u8) w A l.length l) (hc : l.length ≤ c) (hl : ¬ 200 < l.length)  :
    Calls Try.prog 5 #[.slice A l.length c, .int .i64 0, .int .i64 0, .bool false] w fun en w' => en = .returned (.bool true) ∧ Below w.heap.size w w' := by
  have HB := Aside0.mk (Below.refl w.heap.size w)
  have c1 : decide ((l.length : Int) > 200) = false := decide_eq_false (by omega)
  have c2 : decide ((200 : Int) < (l.length : Int)) = false := decide_eq_false (by omega)
  have c3 : wrap64 ((l.length : Int) + 1) = (l.length : Int) + 1 := wrap64_id (by omega) (by omega)
  have HN := Aside0.mk (fun W (hb : Below w.heap.size w W) => new_any A c l W (Kd.C_below hr hb) hc (by omega))
  clear hr
  go_enter Try.func5, Try.ntmps5
  go_upto_region 4 with (go_at_call 8; refine (awake_any _).mono ?_; rintro en w1 ⟨rfl, b1⟩; have n0_ := Aside0.mk (HB.out.trans (b1.mono HB.out.size)); clear b1 HB; have HB := n0_; clear n0_)
  go_upto_region 7 with (go_at_call 9; refine (HN.out _ HB.out).mono ?_; rintro en w2 ⟨g, rfl, b1, b2, b3, b4⟩; have HG := Aside0.mk (Nat.le_trans HB.out.size b1); have HC := Aside0.mk b2; have n0_ := Aside0.mk (HB.out.trans (b3.mono HB.out.size)); clear b1 b2 b3 b4 HB; have HB := n0_; clear n0_)
  go_upto_region 8 with (go_at_call 16; refine (err_any _ _ _ _ _ _ _ HC.out).mono ?_; rintro en w4 ⟨rfl, rfl⟩)
  go_upto_region 9 with (go_at_call 17; refine (need_set _ _ _ _ _ _ _ HC.out).mono ?_; rintro en w3 ⟨rfl, b1, b2⟩; have n0_ := Aside0.mk b1; have n1_ := Aside0.mk (step_b HB.out HG.out b2); clear b1 b2 HC HB; have HC := n0_; have HB := n1_; clear n0_ n1_)
  go_upto_region 10 with (go_at_call 16; refine (err_any _ _ _ _ _ _ _ HC.out).mono ?_; rintro en w4 ⟨rfl, rfl⟩)
  go_upto_region 11 with (go_at_call 17; refine (need_set _ _ _ _ _ _ _ HC.out).mono ?_; rintro en w3 ⟨rfl, b1, b2⟩; have n0_ := Aside0.mk b1; have n1_ := Aside0.mk (step_b HB.out HG.out b2); clear b1 b2 HC HB; have HC := n0_; have HB := n1_; clear n0_ n1_)
  go_upto_region 12 with (go_at_call 16; refine (err_any _ _ _ _ _ _ _ HC.out).mono ?_; rintro en w4 ⟨rfl, rfl⟩)
  go_upto_region 13 with (go_at_call 10; refine (bytes_over _ _ _ _ _ _ _ _ _ HC.out (by omega) (fstE_z)).mono ?_; rintro en w3 ⟨rfl, b1, b2⟩; have n0_ := Aside0.mk b1; have n1_ := Aside0.mk (step_b HB.out HG.out b2); clear b1 b2 HC HB; have HC := n0_; have HB := n1_; clear n0_ n1_)
  go_upto_region 14 with (go_at_call 18; refine (end_nil _ _ _ _ _ _ HC.out).mono ?_; rintro en w3 ⟨rfl, b1, b2⟩; have n0_ := Aside0.mk b1; have n1_ := Aside0.mk (step_b HB.out HG.out b2); clear b1 b2 HC HB; have HC := n0_; have HB := n1_; clear n0_ n1_)
  go_wp2_with (go_at_call 16; refine (err_any _ _ _ _ _ _ _ HC.out).mono ?_; rintro en w4 ⟨rfl, rfl⟩)
  go_ret
  exact ⟨rfl, HB.out⟩
set_option maxHeartbeats 16000000 in
set_option maxRecDepth 100000 in
theorem first_z1 (A : Option Addr) (c : Nat) (l : List Int) (f : Int) (w : World) (hr : Kd.C (Kd.int .u8) w A l.length l) (hc : l.length ≤ c) (hl : ¬ 200 < l.length) (hf : f ≠ 0) :
    Calls Try.prog 5 #[.slice A l.length c, .int .i64 0, .int .i64 f, .bool false] w fun en w' => en = .returned (.bool true) ∧ Below w.heap.size w w' := by
  have HB := Aside0.mk (Below.refl w.heap.size w)
  have c1 : decide ((l.length : Int) > 200) = false := decide_eq_false (by omega)
  have c2 : decide ((200 : Int) < (l.length : Int)) = false := decide_eq_false (by omega)
  have c3 : wrap64 ((l.length : Int) + 1) = (l.length : Int) + 1 := wrap64_id (by omega) (by omega)
  have HN := Aside0.mk (fun W (hb : Below w.heap.size w W) => new_any A c l W (Kd.C_below hr hb) hc (by omega))
  clear hr
  have f1 : (f == 0) = false := beq_eq_false_iff_ne.2 hf
  have f2 : (f != 0) = true := bne_iff_ne.2 hf
  go_enter Try.func5, Try.ntmps5
  go_upto_region 4 with (go_at_call 8; refine (awake_any _).mono ?_; rintro en w1 ⟨rfl, b1⟩; have n0_ := Aside0.mk (HB.out.trans (b1.mono HB.out.size)); clear b1 HB; have HB := n0_; clear n0_)
  go_upto_region 7 with (go_at_call 9; refine (HN.out _ HB.out).mono ?_; rintro en w2 ⟨g, rfl, b1, b2, b3, b4⟩; have HG := Aside0.mk (Nat.le_trans HB.out.size b1); have HC := Aside0.mk b2; have n0_ := Aside0.mk (HB.out.trans (b3.mono HB.out.size)); clear b1 b2 b3 b4 HB; have HB := n0_; clear n0_)
  go_upto_region 8 with (go_at_call 16; refine (err_any _ _ _ _ _ _ _ HC.out).mono ?_; rintro en w4 ⟨rfl, rfl⟩)
  go_upto_region 9 with (go_at_call 17; refine (need_set _ _ _ _ _ _ _ HC.out).mono ?_; rintro en w3 ⟨rfl, b1, b2⟩; have n0_ := Aside0.mk b1; have n1_ := Aside0.mk (step_b HB.out HG.out b2); clear b1 b2 HC HB; have HC := n0_; have HB := n1_; clear n0_ n1_)
  go_upto_region 10 with (go_at_call 16; refine (err_any _ _ _ _ _ _ _ HC.out).mono ?_; rintro en w4 ⟨rfl, rfl⟩)
  go_upto_region 11 with (go_at_call 17; refine (need_set _ _ _ _ _ _ _ HC.out).mono ?_; rintro en w3 ⟨rfl, b1, b2⟩; have n0_ := Aside0.mk b1; have n1_ := Aside0.mk (step_b HB.out HG.out b2); clear b1 b2 HC HB; have HC := n0_; have HB := n1_; clear n0_ n1_)
  go_upto_region 12 with (go_at_call 16; refine (err_any _ _ _ _ _ _ _ HC.out).mono ?_; rintro en w4 ⟨rfl, rfl⟩)
  go_upto_region 13 with (go_at_call 10; refine (bytes_over _ _ _ _ _ _ _ _ _ HC.out (by omega) (fstE_ne hf)).mono ?_; rintro en w3 ⟨rfl, b1, b2⟩; have n0_ := Aside0.mk b1; have n1_ := Aside0.mk (step_b HB.out HG.out b2); clear b1 b2 HC HB; have HC := n0_; have HB := n1_; clear n0_ n1_)
  go_upto_region 14 with (go_at_call 18; refine (end_nil _ _ _ _ _ _ HC.out).mono ?_; rintro en w3 ⟨rfl, b1, b2⟩; have n0_ := Aside0.mk b1; have n1_ := Aside0.mk (step_b HB.out HG.out b2); clear b1 b2 HC HB; have HC := n0_; have HB := n1_; clear n0_ n1_)
  go_wp2_with (go_at_call 16; refine (err_any _ _ _ _ _ _ _ HC.out).mono ?_; rintro en w4 ⟨rfl, rfl⟩)
  go_ret
  exact ⟨rfl, HB.out⟩
set_option maxHeartbeats 16000000 in
set_option maxRecDepth 100000 in
theorem first_e (A : Option Addr) (c : Nat) (l : List Int) (e : Int) (f : Int) (w : World) (hr : Kd.C (Kd.int .u8) w A l.length l) (hc : l.length ≤ c) (hl : ¬ 200 < l.length) (he : e ≠ 0) :
    Calls Try.prog 5 #[.slice A l.length c, .int .i64 e, .int .i64 f, .bool false] w fun en w' => en = .returned (.bool true) ∧ Below w.heap.size w w' := by
  have HB := Aside0.mk (Below.refl w.heap.size w)
  have c1 : decide ((l.length : Int) > 200) = false := decide_eq_false (by omega)
  have c2 : decide ((200 : Int) < (l.length : Int)) = false := decide_eq_false (by omega)
  have c3 : wrap64 ((l.length : Int) + 1) = (l.length : Int) + 1 := wrap64_id (by omega) (by omega)
  have HN := Aside0.mk (fun W (hb : Below w.heap.size w W) => new_any A c l W (Kd.C_below hr hb) hc (by omega))
  clear hr
  have e1 : (e == 0) = false := beq_eq_false_iff_ne.2 he
  have e2 : (e != 0) = true := bne_iff_ne.2 he
  go_enter Try.func5, Try.ntmps5
  go_upto_region 4 with (go_at_call 8; refine (awake_any _).mono ?_; rintro en w1 ⟨rfl, b1⟩; have n0_ := Aside0.mk (HB.out.trans (b1.mono HB.out.size)); clear b1 HB; have HB := n0_; clear n0_)
  go_upto_region 7 with (go_at_call 9; refine (HN.out _ HB.out).mono ?_; rintro en w2 ⟨g, rfl, b1, b2, b3, b4⟩; have HG := Aside0.mk (Nat.le_trans HB.out.size b1); have HC := Aside0.mk b2; have n0_ := Aside0.mk (HB.out.trans (b3.mono HB.out.size)); clear b1 b2 b3 b4 HB; have HB := n0_; clear n0_)
  go_upto_region 8 with (go_at_call 16; refine (err_any _ _ _ _ _ _ _ HC.out).mono ?_; rintro en w4 ⟨rfl, rfl⟩)
  go_upto_region 9 with (go_at_call 17; refine (need_set _ _ _ _ _ _ _ HC.out).mono ?_; rintro en w3 ⟨rfl, b1, b2⟩; have n0_ := Aside0.mk b1; have n1_ := Aside0.mk (step_b HB.out HG.out b2); clear b1 b2 HC HB; have HC := n0_; have HB := n1_; clear n0_ n1_)
  go_upto_region 10 with (go_at_call 16; refine (err_any _ _ _ _ _ _ _ HC.out).mono ?_; rintro en w4 ⟨rfl, rfl⟩)
  go_upto_region 11 with (go_at_call 17; refine (need_keep _ _ _ _ _ _ _ _ _ HC.out he).mono ?_; rintro en w3 ⟨rfl, b1, b2⟩; have n0_ := Aside0.mk b1; have n1_ := Aside0.mk (step_b HB.out HG.out b2); clear b1 b2 HC HB; have HC := n0_; have HB := n1_; clear n0_ n1_)
  go_upto_region 12 with (go_at_call 16; refine (err_any _ _ _ _ _ _ _ HC.out).mono ?_; rintro en w4 ⟨rfl, rfl⟩)
  go_upto_region 13 with (go_at_call 10; refine (bytes_over _ _ _ _ _ _ _ _ _ HC.out (by omega) (fstE_ne he)).mono ?_; rintro en w3 ⟨rfl, b1, b2⟩; have n0_ := Aside0.mk b1; have n1_ := Aside0.mk (step_b HB.out HG.out b2); clear b1 b2 HC HB; have HC := n0_; have HB := n1_; clear n0_ n1_)
  go_upto_region 14 with (go_at_call 18; refine (end_nil _ _ _ _ _ _ HC.out).mono ?_; rintro en w3 ⟨rfl, b1, b2⟩; have n0_ := Aside0.mk b1; have n1_ := Aside0.mk (step_b HB.out HG.out b2); clear b1 b2 HC HB; have HC := n0_; have HB := n1_; clear n0_ n1_)
  go_wp2_with (go_at_call 16; refine (err_any _ _ _ _ _ _ _ HC.out).mono ?_; rintro en w4 ⟨rfl, rfl⟩)
  go_ret
  exact ⟨rfl, HB.out⟩
theorem busbarlaw06_CursorFirst (A : Option Addr) (c : Nat) (l : List Int) (e f : Int) (met : Bool) (w : World) (hr : Kd.C (Kd.int .u8) w A l.length l) (hc : l.length ≤ c) (hm : l.length ≤ maxLen) (hw : ∀ x ∈ l, (Lit.int .u8 x).wf = true) (we : (Lit.int .i64 e).wf = true) (wf : (Lit.int .i64 f).wf = true) :
    Calls Try.prog 5 #[.slice A l.length c, .int .i64 e, .int .i64 f, .bool met] w fun en w' => en = .returned (.bool true) ∧ Below w.heap.size w w' := by
  by_cases hl : 200 < l.length
  · exact first_long A c l e f w hr hc met hl
  cases met with
  | true =>
    by_cases hf : f = 0
    · subst hf; exact first_m0 A c l e w hr hc hl
    · exact first_m1 A c l e f w hr hc hl hf
  | false =>
    by_cases he : e = 0
    · subst he
      by_cases hf : f = 0
      · subst hf; exact first_z0 A c l w hr hc hl
      · exact first_z1 A c l f w hr hc hl hf
    · exact first_e A c l e f w hr hc hl he
end Go.Proofs.Ythhkjmoppaopjaa.Laws
