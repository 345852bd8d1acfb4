/- CursorWords, walked. -/
import Derived.Test.YthhkjmoppaopjaaLaw06
set_option linter.unusedVariables false
set_option linter.unusedSimpArgs false
namespace Go.Proofs.Ythhkjmoppaopjaa.Laws
open Go.RowKit Go.Proofs.Ythhkjmoppaopjaa.P Go.Proofs.Ythhkjmoppaopjaa.E Go.Proofs.Ythhkjmoppaopjaa.Cur Go.Proofs.YthhkjmoppaopjaaW.PrintWords Go.Proofs.YthhkjmoppaopjaaW.PrintLast Go.Proofs.YthhkjmoppaopjaaW.PrintMore

set_option maxHeartbeats 16000000 in
set_option maxRecDepth 100000 in
theorem words_long (A : Option Addr) (c : Nat) (l : List Int) (n : Int) (w : World) (hr : Kd.C (Kd.int .u8) w A l.length l) (hc : l.length ≤ c) (hl : 200 < l.length) :
    Calls Try.prog 4 #[.slice A l.length c, .int .u8 n] w fun en w' => en = .returned (.bool true) ∧ Below w.heap.size w w' := by
  have HB := Aside0.mk (Below.refl w.heap.size w)
  have c1 : decide ((l.length : Int) > 200) = true := decide_eq_true (by omega)
  have c2 : decide ((200 : Int) < (l.length : Int)) = true := decide_eq_true (by omega)
  clear hr
  go_enter Try.func4, Try.ntmps4
  go_wp2_with (go_at_call 8; refine (awake_any _).mono ?_; rintro en w1 ⟨rfl, b1⟩; have n0_ := Aside0.mk (HB.out.trans (b1.mono HB.out.size)); clear b1 HB; have HB := n0_; clear n0_)
  go_ret
  exact ⟨rfl, HB.out⟩
set_option maxHeartbeats 16000000 in
set_option maxRecDepth 100000 in
theorem words_over (A : Option Addr) (c : Nat) (l : List Int) (n : Int) (w : World) (hr : Kd.C (Kd.int .u8) w A l.length l) (hc : l.length ≤ c) (hl : ¬ 200 < l.length) (h0 : 0 ≤ n) (h1 : n < 256) (h2 : (l.length : Int) < 2 * n) :
    Calls Try.prog 4 #[.slice A l.length c, .int .u8 n] w fun en w' => en = .returned (.bool true) ∧ Below w.heap.size w w' := by
  have HB := Aside0.mk (Below.refl w.heap.size w)
  have c1 : decide ((l.length : Int) > 200) = false := decide_eq_false (by omega)
  have c2 : decide ((200 : Int) < (l.length : Int)) = false := decide_eq_false (by omega)
  have c3 : wrap64 (2 * n) = 2 * n := wrap64_id (by omega) (by omega)
  have c5 : wrap64 n = n := wrap64_id (by omega) (by omega)
  have c4 : decide (2 * n > (l.length : Int)) = true := decide_eq_true (by omega)
  clear hr
  go_enter Try.func4, Try.ntmps4
  go_wp2_with (go_at_call 8; refine (awake_any _).mono ?_; rintro en w1 ⟨rfl, b1⟩; have n0_ := Aside0.mk (HB.out.trans (b1.mono HB.out.size)); clear b1 HB; have HB := n0_; clear n0_)
  go_ret
  exact ⟨rfl, HB.out⟩
def lwords.T15 : Bool × List (List Nat × List Nat) := (true, [([], []), ([], []), ([], []), ([1, 2], [1, 2]), ([3], [3]), ([0, 4], [0, 4]), ([5], [5]), ([6], [6]), ([6], [6]), ([6], [6]), ([9, 6], [6, 9]), ([8, 10, 6], [6, 8, 10]), ([11, 6], [6, 11]), ([12, 6], [6, 12]), ([13, 6], [6, 13]), ([6], [6]), ([6], [6]), ([16, 6], [6, 16]), ([17, 6], [6, 17]), ([15, 18, 6], [6, 15, 18]), ([19, 6], [6, 19]), ([20, 6], [6, 20]), ([14, 21, 6], [6, 14, 21]), ([7, 22, 6], [6, 7, 22]), ([6, 23], [6, 23])])
def lwords.B15 : List Nat := [0, 0, 0, 6, 14, 31, 63, 127, 127, 127, 639, 1919, 3967, 8063, 16255, 127, 127, 65663, 196735, 491647, 1015935, 2064511, 4194175, 8388607, 16777215]
theorem lwords.tab15 : rtab .any (opsOf Try.f4 15) = lwords.T15 := by kernel_rfl
theorem lwords.bits15 : waitsOk lwords.T15.2 lwords.B15 = true := by kernel_rfl
/-- Which of n operations have come up: m's bits. -/
def bm (n m : Nat) : Array Bool := ⟨(List.range n).map fun i => m.testBit i⟩
theorem At.drew {lo hi : Nat} {w : World} {g : Nat} {xs : List Int} {s : Bool} {e : Int} (h : At lo hi w g xs s e) : At lo hi w.drew g xs s e := h.on (S := fun _ => False) (Kept.refl w _).drew (fun _ h => h.elim) (fun h => h)
theorem at_two {w : World} {A : Option Addr} {l : List Int} (h : Kd.C (Kd.int .u8) w A l.length l) (i : Nat) (hi : i + 1 < l.length) : ∃ ad, A = some ad ∧ w.cell? (ad.add i) = some (.int .u8 (l.getD i 0)) ∧ w.cell? (ad.add (i + 1)) = some (.int .u8 (l.getD (i + 1) 0)) := by
  obtain ⟨ad, e, h2⟩ := Kd.at_int h (i : Int) (by omega) (by omega)
  obtain ⟨ad', e', h3⟩ := Kd.at_int h ((i + 1 : Nat) : Int) (by omega) (by omega)
  rw [e] at e'
  cases e'
  rw [Int.toNat_natCast] at h2 h3
  refine ⟨ad, e, h2.trans ?_, h3.trans ?_⟩ <;> simp [rd]
theorem drop_two (l : List Int) (j : Nat) (h : 2 * j + 1 < l.length) : l.drop (2 * j) = l.getD (2 * j) 0 :: l.getD (2 * j + 1) 0 :: l.drop (2 * (j + 1)) := by
  rw [drop_cons (show 2 * j < l.length by omega) 0, drop_cons h 0]; rfl
theorem words_len (l : List Int) (m : Nat) (h : 2 * m ≤ l.length) : (Take.words (l.take (2 * m))).length = m := by
  have e : (l.take (2 * m)).length = 2 * m := by rw [List.length_take]; omega
  unfold Take.words
  rw [e, if_pos (by omega), Take.pre_length]; omega
theorem words_get (l : List Int) (m j : Nat) (h : 2 * m ≤ l.length) (hj : j < m) : (Take.words (l.take (2 * m))).getD j 0 = l.getD (2 * j) 0 * 256 + l.getD (2 * j + 1) 0 := by
  have e : (l.take (2 * m)).length = 2 * m := by rw [List.length_take]; omega
  unfold Take.words
  rw [e, if_pos (by omega)]
  have e2 : 2 * m / 2 = m := by omega
  rw [e2]
  simp only [Take.pre, List.getD_eq_getElem?_getD, List.getElem?_map, List.getElem?_range hj, Option.map_some, Option.getD_some, Take.wordAt]
  rw [List.getElem?_take_of_lt (by omega), List.getElem?_take_of_lt (by omega)]
set_option maxHeartbeats 16000000 in
set_option maxRecDepth 100000 in
theorem words_go (A : Option Addr) (c : Nat) (l : List Int) (n : Int) (w : World) (hr : Kd.C (Kd.int .u8) w A l.length l) (hc : l.length ≤ c) (hl : ¬ 200 < l.length) (hb : isBytes l) (m : Nat) (hn : n = m) (hm : m < 256) (h2 : 2 * m ≤ l.length) :
    Calls Try.prog 4 #[.slice A l.length c, .int .u8 n] w fun en w' => en = .returned (.bool true) ∧ Below w.heap.size w w' := by
  subst hn
  have HB := Aside0.mk (Below.refl w.heap.size w)
  have c1 : decide ((l.length : Int) > 200) = false := decide_eq_false (by omega)
  have c2 : decide ((200 : Int) < (l.length : Int)) = false := decide_eq_false (by omega)
  have c3 : wrap64 (2 * (m : Int)) = 2 * m := wrap64_id (by omega) (by omega)
  have c5 : wrap64 (m : Int) = m := wrap64_id (by omega) (by omega)
  have c4 : decide (2 * (m : Int) > (l.length : Int)) = false := decide_eq_false (by omega)
  have c6 : decide ((l.length : Int) < 2 * (m : Int)) = false := decide_eq_false (by omega)
  have HN := Aside0.mk (fun W (hb : Below w.heap.size w W) => new_any A c l W (Kd.C_below hr hb) hc (by omega))
  have HR := Aside0.mk hr
  clear hr
  have hwl := words_len l m h2
  obtain ⟨wd, hwd⟩ : ∃ wd, wd = Take.words (l.take (2 * m)) := ⟨_, rfl⟩
  rw [← hwd] at hwl
  have d1 : ((wd.length : Int) != (m : Int)) = false := by rw [hwl]; simp
  have d2 : (wd.length != m) = false := by rw [hwl]; simp
  have HWD := Aside0.mk hwd
  have HWL := Aside0.mk hwl
  clear hwd hwl
  go_enter Try.func4, Try.ntmps4
  go_upto_region 5 with (first | (go_at_call 8; refine (awake_any _).mono ?_; rintro en w1 ⟨rfl, b1⟩; have n0_ := Aside0.mk (HB.out.trans (b1.mono HB.out.size)); clear b1 HB; have HB := n0_; clear n0_) | (go_at_call 9; refine (HN.out _ HB.out).mono ?_; rintro en w2 ⟨g1, rfl, b1, b2, b3, b4⟩; have HG1 := Aside0.mk (Nat.le_trans HB.out.size b1); have HC := Aside0.mk b2; have HS1 := Aside0.mk b4; have n0_ := Aside0.mk (HB.out.trans (b3.mono HB.out.size)); clear b1 b2 b3 b4 HB; have HB := n0_; clear n0_))
  go_upto_region 6 with (go_at_call 9; refine (HN.out _ HB.out).mono ?_; rintro en w3 ⟨g2, rfl, b1, b2, b3, b4⟩; have HG2 := Aside0.mk b1; have HD := Aside0.mk b2; have n1_ := Aside0.mk (HC.out.below b3); clear HC; have HC := n1_; clear n1_; have HS2 := Aside0.mk b4; have n0_ := Aside0.mk (HB.out.trans (b3.mono HB.out.size)); clear b1 b2 b3 b4 HB; have HB := n0_; clear n0_)
  have hG1 := HG1.out
  have hG2 := HG2.out
  have hS1 := HS1.out
  have hS2 := HS2.out
  rw [hS1] at hG2
  obtain ⟨w1s, hw1s⟩ : ∃ z, z = g1 := ⟨_, rfl⟩
  go_upto_region 9 with (go_at_call 14; refine (words_ok _ _ _ _ _ m _ HC.out h2 (by omega) hb).mono ?_; rw [← HWD.out]; rintro en w4 ⟨A4, c4_, rfl, b1, b2, b3, b4⟩; have N1 := Aside0.mk b1; have HW := Aside0.mk b2; have n1_ := Aside0.mk b3; have n2_ := Aside0.mk (HD.out.on b4.kept (fun k hk => .inl (by omega)) (fun hk => by omega)); have n0_ := Aside0.mk (step_b HB.out hG1 b4); clear HC HD HB b1 b2 b3 b4; have HC := n1_; have HD := n2_; have HB := n0_; clear n0_ n1_ n2_)
  go_upto_region 11 with (fail)
  go_wp2
  go_loopw [9] (fun i wr => ∃ j : Nat, j ≤ m ∧ i = .int .i64 j ∧ Aside0 (At w2.heap.size g2 wr g2 (l.drop (2 * j)) false 0) ∧ Aside0 (At w1.heap.size g1 wr g1 (l.drop (2 * m)) false 0) ∧ Aside0 (Row16 w3.heap.size w4.heap.size wr A4 wd) ∧ Aside0 (Below w.heap.size w wr)) (fun i _ => m - (intOf i).toNat)
  case atStart => exact ⟨0, Nat.zero_le _, rfl, ⟨HD.out⟩, HC, HW, HB⟩
  case round =>
    obtain ⟨j, hj, rfl, HD2, HC2, HW2, HB2⟩ := hrel
    by_cases hlt : j < m
    · have b5 : decide ((j : Int) < (wd.length : Int)) = true := decide_eq_true (by have := HWL.out; omega)
      have b6 : j < wd.length := by have := HWL.out; omega
      have HD3 := HD2.out
      rw [drop_two l j (by omega)] at HD3
      obtain ⟨xa, hxa⟩ : ∃ z, z = l.getD (2 * j) 0 := ⟨_, rfl⟩
      obtain ⟨xb, hxb⟩ : ∃ z, z = l.getD (2 * j + 1) 0 := ⟨_, rfl⟩
      rw [← hxa, ← hxb] at HD3
      obtain ⟨adw, rfl, q0_⟩ := at_row16 HW2.out j (by have := HWL.out; omega)
      obtain ⟨adb, rfl, p0_, p1_⟩ := at_two HR.out (2 * j) (by omega)
      have HD4 := Aside0.mk HD3
      clear HD3 HD2 HD HC HW HB
      have z0 : wrap64 (2 * (j : Int)) = 2 * (j : Int) := wrap64_id (by omega) (by omega)
      have z1 : wrap64 (2 * (j : Int) + 1) = 2 * (j : Int) + 1 := wrap64_id (by omega) (by omega)
      have xa_ := isBytes_rd hb (2 * j)
      have xb_ := isBytes_rd hb (2 * j + 1)
      rw [← hxa] at xa_ p0_
      rw [← hxb] at xb_ p1_
      have hsz := HW2.out
      have hgw := words_get l m j h2 hlt
      rw [← HWD.out, ← hxa, ← hxb] at hgw
      have HXA := Aside0.mk hxa
      have HXB := Aside0.mk hxb
      clear hxa hxb
      have HGW := Aside0.mk hgw
      clear hgw hsz
      go_upto_region 15 with (go_at_call 15; refine (word_ok _ _ _ _ _ _ _ _ HD4.out (by rw [HXA.out, HXB.out, ← drop_two l j (by omega), List.length_drop]; omega) (by rw [HXA.out, HXB.out, ← drop_two l j (by omega)]; exact isBytes_drop hb _)).mono ?_; rintro en w5 ⟨rfl, b1, b2⟩; have HD5 := Aside0.mk b1; have HC5 := Aside0.mk (HC2.out.on b2.kept (fun k hk => .inr (by omega)) (fun hk => by omega)); have HW5 := Aside0.mk (HW2.out.on (b2.kept.mono (fun k hk => .inl (by omega)))); have HB5 := Aside0.mk (step_b HB2.out (by omega) b2); clear b1 b2 HD4)
      obtain ⟨ad2, e2, q0⟩ := at_row16 HW5.out j (by have := HWL.out; omega)
      cases e2
      have p0 := (HB5.out.cell (World.block_lt_of_cell? w _ p0_)).trans p0_
      have p1 := (HB5.out.cell (World.block_lt_of_cell? w _ p1_)).trans p1_
      rw [HGW.out] at q0
      clear q0_ p0_ p1_ HGW
      have m1 := Take.wrap16 xa_.1 (show xa < 65536 by omega)
      have m2 := Take.wrap16 xb_.1 (show xb < 65536 by omega)
      have m3 := Take.wrap16 (x := 256 * xa) (by omega) (by omega)
      have m4 := Take.wrap16 (x := 256 * xa + xb) (by omega) (by omega)
      have m5 : (xa * 256 + xb != 256 * xa + xb) = false := by rw [show xa * 256 + xb = 256 * xa + xb by omega]; simp
      have k1 : (0 ≤ 2 * (j : Int)) = True := eq_true (by omega)
      have k2 : (2 * (j : Int) < (l.length : Int)) = True := eq_true (by omega)
      have k3 : (2 * (j : Int)).toNat = 2 * j := by omega
      have k5 : (0 ≤ 2 * (j : Int) + 1) = True := eq_true (by omega)
      have k6 : (2 * (j : Int) + 1 < (l.length : Int)) = True := eq_true (by omega)
      obtain ⟨J1, hJ1⟩ : ∃ z, z = 2 * j + 1 := ⟨_, rfl⟩
      have k7 : (2 * (j : Int) + 1).toNat = J1 := by omega
      rw [← hJ1] at p1
      clear hJ1
      have b1 : ((j : Int) < (wd.length : Int)) = True := eq_true (by have := HWL.out; omega)
      have b2 : (j < wd.length) = True := eq_true (by have := HWL.out; omega)
      have b3 : (2 * j < l.length) = True := eq_true (by omega)
      have m6 : (xa * 256 + xb != xa * 256 + xb) = false := by simp
      refine start_ (n := 25) (S := fun w' => w'.cell? (adw.add j) = some (.int .u16 (xa * 256 + xb)) ∧ w'.cell? (adb.add (2 * j)) = some (.int .u8 xa) ∧ w'.cell? (adb.add J1) = some (.int .u8 xb) ∧ Aside0 (Below w.heap.size w w') ∧ Aside0 (At w1.heap.size g1 w' g1 (l.drop (2 * m)) false 0) ∧ Aside0 (At w2.heap.size g2 w' g2 (l.drop (2 * (j + 1))) false 0) ∧ Aside0 (Row16 w3.heap.size w4.heap.size w' (some adw) wd)) (ds := []) (bm 25 0) (by as_aux_lemma => kernel_rfl) rfl (by as_aux_lemma => kernel_rfl) ⟨q0, p0, p1, ⟨HB5.out.drew⟩, ⟨At.drew HC5.out⟩, ⟨At.drew HD5.out⟩, ⟨HW5.out.on (Kept.refl _ _).drew⟩⟩ (fun hHeld => ?_)
      refine with_tabW lwords.tab15 lwords.bits15 (fun HT_ HW_ => ?_)
      refine pure_ (i := 0) (N := some 51) (v := ?_) (a' := ?_) (bm 25 1) rfl rfl (any_of HT_.out (by as_aux_lemma => kernel_rfl)) (fun _ _ _ h => h) (Or.inl ⟨by rfl, ?_⟩) ?_ ?_
      rotate_left
      · intro w'
        go_simp
        with_reducible rfl
      rotate_left
      · simp only [Act.put, List.setIfInBounds_toArray, List.set_cons_zero, List.set_cons_succ, i64_w, i32_w]
        rfl
      refine pure_ (i := 1) (N := some 52) (v := ?_) (a' := ?_) (bm 25 3) rfl rfl (any_of HT_.out (by as_aux_lemma => kernel_rfl)) (fun _ _ _ h => h) (Or.inl ⟨by rfl, ?_⟩) ?_ ?_
      rotate_left
      · intro w'
        go_simp
        with_reducible rfl
      rotate_left
      · simp only [Act.put, List.setIfInBounds_toArray, List.set_cons_zero, List.set_cons_succ, i64_w, i32_w]
        rfl
      refine pure_ (i := 2) (N := some 53) (v := ?_) (a' := ?_) (bm 25 7) rfl rfl (any_of HT_.out (by as_aux_lemma => kernel_rfl)) (fun _ _ _ h => h) (Or.inl ⟨by rfl, ?_⟩) ?_ ?_
      rotate_left
      · intro w'
        go_simp
        with_reducible rfl
      rotate_left
      · simp only [Act.put, List.setIfInBounds_toArray, List.set_cons_zero, List.set_cons_succ, i64_w, i32_w]
        rfl
      refine pure_ (i := 3) (N := some 54) (v := ?_) (a' := ?_) (bm 25 15) rfl rfl (any_of HT_.out (by as_aux_lemma => kernel_rfl)) (fun _ _ _ h => h) (Or.inl ⟨by rfl, ?_⟩) ?_ ?_
      rotate_left
      · intro w'
        go_simp
        with_reducible rfl
      rotate_left
      · simp only [Act.put, List.setIfInBounds_toArray, List.set_cons_zero, List.set_cons_succ, i64_w, i32_w]
        rfl
      refine take_ (i := 4) (N := some 55) (v := ?_) (a' := ?_) (bm 25 31) rfl rfl (take_ofW HT_.out HW_.out (by as_aux_lemma => kernel_rfl)) (fun _ _ _ h => h) (Or.inl ⟨by rfl, ?_⟩) hHeld ?_ ?_
      rotate_left
      · rintro w' ⟨s0, s1, s2, s3, s4, s5, s6⟩
        go_simp
        with_reducible rfl
      rotate_left
      · simp only [Act.put, List.setIfInBounds_toArray, List.set_cons_zero, List.set_cons_succ, i64_w, i32_w]
        rfl
      refine pure_ (i := 5) (N := some 56) (v := ?_) (a' := ?_) (bm 25 63) rfl rfl (any_of HT_.out (by as_aux_lemma => kernel_rfl)) (fun _ _ _ h => h) (Or.inl ⟨by rfl, ?_⟩) ?_ ?_
      rotate_left
      · intro w'
        go_simp
        with_reducible rfl
      rotate_left
      · simp only [Act.put, List.setIfInBounds_toArray, List.set_cons_zero, List.set_cons_succ, i64_w, i32_w]
        rfl
      refine pure_ (i := 6) (N := some 57) (v := ?_) (a' := ?_) (bm 25 127) rfl rfl (any_of HT_.out (by as_aux_lemma => kernel_rfl)) (fun _ _ _ h => h) (Or.inl ⟨by rfl, ?_⟩) ?_ ?_
      rotate_left
      · intro w'
        go_simp
        with_reducible rfl
      rotate_left
      · simp only [Act.put, List.setIfInBounds_toArray, List.set_cons_zero, List.set_cons_succ, i64_w, i32_w]
        rfl
      refine pure_ (i := 7) (N := some 58) (v := ?_) (a' := ?_) (bm 25 255) rfl rfl (any_of HT_.out (by as_aux_lemma => kernel_rfl)) (fun _ _ _ h => h) (Or.inl ⟨by rfl, ?_⟩) ?_ ?_
      rotate_left
      · intro w'
        go_simp
        with_reducible rfl
      rotate_left
      · simp only [Act.put, List.setIfInBounds_toArray, List.set_cons_zero, List.set_cons_succ, i64_w, i32_w]
        rfl
      refine pure_ (i := 8) (N := some 59) (v := ?_) (a' := ?_) (bm 25 511) rfl rfl (any_of HT_.out (by as_aux_lemma => kernel_rfl)) (fun _ _ _ h => h) (Or.inl ⟨by rfl, ?_⟩) ?_ ?_
      rotate_left
      · intro w'
        go_simp
        with_reducible rfl
      rotate_left
      · simp only [Act.put, List.setIfInBounds_toArray, List.set_cons_zero, List.set_cons_succ, i64_w, i32_w]
        rfl
      refine pure_ (i := 9) (N := some 60) (v := ?_) (a' := ?_) (bm 25 1023) rfl rfl (any_of HT_.out (by as_aux_lemma => kernel_rfl)) (fun _ _ _ h => h) (Or.inl ⟨by rfl, ?_⟩) ?_ ?_
      rotate_left
      · intro w'
        go_simp
        with_reducible rfl
      rotate_left
      · simp only [Act.put, List.setIfInBounds_toArray, List.set_cons_zero, List.set_cons_succ, i64_w, i32_w]
        rfl
      refine pure_ (i := 10) (N := some 61) (v := ?_) (a' := ?_) (bm 25 2047) rfl rfl (any_of HT_.out (by as_aux_lemma => kernel_rfl)) (fun _ _ _ h => h) (Or.inl ⟨by rfl, ?_⟩) ?_ ?_
      rotate_left
      · intro w'
        go_simp
        with_reducible rfl
      rotate_left
      · simp only [Act.put, List.setIfInBounds_toArray, List.set_cons_zero, List.set_cons_succ, i64_w, i32_w]
        rfl
      refine pure_ (i := 11) (N := some 62) (v := ?_) (a' := ?_) (bm 25 4095) rfl rfl (any_of HT_.out (by as_aux_lemma => kernel_rfl)) (fun _ _ _ h => h) (Or.inl ⟨by rfl, ?_⟩) ?_ ?_
      rotate_left
      · intro w'
        go_simp
        with_reducible rfl
      rotate_left
      · simp only [Act.put, List.setIfInBounds_toArray, List.set_cons_zero, List.set_cons_succ, i64_w, i32_w]
        rfl
      refine pure_ (i := 15) (N := some 66) (v := ?_) (a' := ?_) (bm 25 36863) rfl rfl (any_of HT_.out (by as_aux_lemma => kernel_rfl)) (fun _ _ _ h => h) (Or.inl ⟨by rfl, ?_⟩) ?_ ?_
      rotate_left
      · intro w'
        go_simp
        with_reducible rfl
      rotate_left
      · simp only [Act.put, List.setIfInBounds_toArray, List.set_cons_zero, List.set_cons_succ, i64_w, i32_w]
        rfl
      refine pure_ (i := 16) (N := some 67) (v := ?_) (a' := ?_) (bm 25 102399) rfl rfl (any_of HT_.out (by as_aux_lemma => kernel_rfl)) (fun _ _ _ h => h) (Or.inl ⟨by rfl, ?_⟩) ?_ ?_
      rotate_left
      · intro w'
        go_simp
        with_reducible rfl
      rotate_left
      · simp only [Act.put, List.setIfInBounds_toArray, List.set_cons_zero, List.set_cons_succ, i64_w, i32_w]
        rfl
      refine pure_ (i := 17) (N := some 68) (v := ?_) (a' := ?_) (bm 25 233471) rfl rfl (any_of HT_.out (by as_aux_lemma => kernel_rfl)) (fun _ _ _ h => h) (Or.inl ⟨by rfl, ?_⟩) ?_ ?_
      rotate_left
      · intro w'
        go_simp
        with_reducible rfl
      rotate_left
      · simp only [Act.put, List.setIfInBounds_toArray, List.set_cons_zero, List.set_cons_succ, i64_w, i32_w]
        rfl
      refine pure_ (i := 18) (N := some 69) (v := ?_) (a' := ?_) (bm 25 495615) rfl rfl (any_of HT_.out (by as_aux_lemma => kernel_rfl)) (fun _ _ _ h => h) (Or.inl ⟨by rfl, ?_⟩) ?_ ?_
      rotate_left
      · intro w'
        go_simp
        with_reducible rfl
      rotate_left
      · simp only [Act.put, List.setIfInBounds_toArray, List.set_cons_zero, List.set_cons_succ, i64_w, i32_w]
        rfl
      refine pure_ (i := 19) (N := some 70) (v := ?_) (a' := ?_) (bm 25 1019903) rfl rfl (any_of HT_.out (by as_aux_lemma => kernel_rfl)) (fun _ _ _ h => h) (Or.inl ⟨by rfl, ?_⟩) ?_ ?_
      rotate_left
      · intro w'
        go_simp
        with_reducible rfl
      rotate_left
      · simp only [Act.put, List.setIfInBounds_toArray, List.set_cons_zero, List.set_cons_succ, i64_w, i32_w]
        rfl
      refine take_ (i := 12) (N := some 63) (v := ?_) (a' := ?_) (bm 25 1023999) rfl rfl (take_ofW HT_.out HW_.out (by as_aux_lemma => kernel_rfl)) (fun _ _ _ h => h) (Or.inl ⟨by rfl, ?_⟩) hHeld ?_ ?_
      rotate_left
      · rintro w' ⟨s0, s1, s2, s3, s4, s5, s6⟩
        go_simp
        with_reducible rfl
      rotate_left
      · simp only [Act.put, List.setIfInBounds_toArray, List.set_cons_zero, List.set_cons_succ, i64_w, i32_w]
        rfl
      refine pure_ (i := 13) (N := some 64) (v := ?_) (a' := ?_) (bm 25 1032191) rfl rfl (any_of HT_.out (by as_aux_lemma => kernel_rfl)) (fun _ _ _ h => h) (Or.inl ⟨by rfl, ?_⟩) ?_ ?_
      rotate_left
      · intro w'
        go_simp
        with_reducible rfl
      rotate_left
      · simp only [Act.put, List.setIfInBounds_toArray, List.set_cons_zero, List.set_cons_succ, i64_w, i32_w]
        rfl
      refine pure_ (i := 14) (N := some 65) (v := ?_) (a' := ?_) (bm 25 1048575) rfl rfl (any_of HT_.out (by as_aux_lemma => kernel_rfl)) (fun _ _ _ h => h) (Or.inl ⟨by rfl, ?_⟩) ?_ ?_
      rotate_left
      · intro w'
        go_simp
        with_reducible rfl
      rotate_left
      · simp only [Act.put, List.setIfInBounds_toArray, List.set_cons_zero, List.set_cons_succ, i64_w, i32_w]
        rfl
      refine take_ (i := 20) (N := some 71) (v := ?_) (a' := ?_) (bm 25 2097151) rfl rfl (take_ofW HT_.out HW_.out (by as_aux_lemma => kernel_rfl)) (fun _ _ _ h => h) (Or.inl ⟨by rfl, ?_⟩) hHeld ?_ ?_
      rotate_left
      · rintro w' ⟨s0, s1, s2, s3, s4, s5, s6⟩
        go_simp
        with_reducible rfl
      rotate_left
      · simp only [Act.put, List.setIfInBounds_toArray, List.set_cons_zero, List.set_cons_succ, i64_w, i32_w]
        rfl
      refine pure_ (i := 21) (N := some 72) (v := ?_) (a' := ?_) (bm 25 4194303) rfl rfl (any_of HT_.out (by as_aux_lemma => kernel_rfl)) (fun _ _ _ h => h) (Or.inl ⟨by rfl, ?_⟩) ?_ ?_
      rotate_left
      · intro w'
        go_simp
        with_reducible rfl
      rotate_left
      · simp only [Act.put, List.setIfInBounds_toArray, List.set_cons_zero, List.set_cons_succ, i64_w, i32_w]
        rfl
      refine pure_ (i := 22) (N := some 73) (v := ?_) (a' := ?_) (bm 25 8388607) rfl rfl (any_of HT_.out (by as_aux_lemma => kernel_rfl)) (fun _ _ _ h => h) (Or.inl ⟨by rfl, ?_⟩) ?_ ?_
      rotate_left
      · intro w'
        go_simp
        with_reducible rfl
      rotate_left
      · simp only [Act.put, List.setIfInBounds_toArray, List.set_cons_zero, List.set_cons_succ, i64_w, i32_w]
        rfl
      refine pure_ (i := 23) (N := some 74) (v := ?_) (a' := ?_) (bm 25 16777215) rfl rfl (any_of HT_.out (by as_aux_lemma => kernel_rfl)) (fun _ _ _ h => h) (Or.inl ⟨by rfl, ?_⟩) ?_ ?_
      rotate_left
      · intro w'
        go_simp
        with_reducible rfl
      rotate_left
      · simp only [Act.put, List.setIfInBounds_toArray, List.set_cons_zero, List.set_cons_succ, i64_w, i32_w]
        rfl
      refine pure_ (i := 24) (N := some 75) (v := ?_) (a' := ?_) (bm 25 33554431) rfl rfl (any_of HT_.out (by as_aux_lemma => kernel_rfl)) (fun _ _ _ h => h) (Or.inl ⟨by rfl, ?_⟩) ?_ ?_
      rotate_left
      · intro w'
        go_simp
        with_reducible rfl
      rotate_left
      · simp only [Act.put, List.setIfInBounds_toArray, List.set_cons_zero, List.set_cons_succ, i64_w, i32_w]
        rfl
      refine done_ (done_of HT_.out (by as_aux_lemma => kernel_rfl)) ?_
    
      go_wp2
      go_roundw
      case rel => exact ⟨j + 1, by omega, by go_num, (by first | exact hHeld.2.2.2.2.2.1), (by exact hHeld.2.2.2.2.1), (by exact hHeld.2.2.2.2.2.2), (by exact hHeld.2.2.2.1)⟩
      case measure => simp [intOf]; omega
    · have b5 : decide ((j : Int) < (wd.length : Int)) = false := decide_eq_false (by have := HWL.out; omega)
      have b6 : ¬ j < wd.length := by have := HWL.out; omega
      have hjm : j = m := by omega
      obtain ⟨rest, hrest⟩ : ∃ z, z = l.drop (2 * m) := ⟨_, rfl⟩
      have hdl : (l.drop (2 * m)).length = l.length - 2 * m := List.length_drop
      have HC9 := HC2.out
      have HD9 : At w2.heap.size g2 wr g2 (l.drop (2 * m)) false 0 := by have h9 := HD2.out; rw [hjm] at h9; exact h9
      rw [← hrest] at hdl HC9 HD9
      clear hrest hjm
      have m5 : wrap64 ((l.length : Int) - 2 * (m : Int)) = (l.length : Int) - 2 * (m : Int) := wrap64_id (by omega) (by omega)
      have m6 : ((rest.length : Int) == (l.length : Int) - 2 * (m : Int)) = true := beq_iff_eq.2 (by omega)
      have HC8 := Aside0.mk HC9
      have HD8 := Aside0.mk HD9
      clear HC HD HW HB HC2 HD2 HC9 HD9 hdl HN
      go_upto_region 17 with (fail)
      go_wp2_with (first | (go_at_call 13; with_reducible refine (left_any _ _ _ _ _ _ _ HC8.out).mono ?_; rintro en w6 ⟨rfl, rfl⟩) | (go_at_call 13; with_reducible refine (left_any _ _ _ _ _ _ _ HD8.out).mono ?_; rintro en w6 ⟨rfl, rfl⟩) | (go_at_call 16; with_reducible refine (err_any _ _ _ _ _ _ _ HC8.out).mono ?_; rintro en w6 ⟨rfl, rfl⟩) | (go_at_call 16; with_reducible refine (err_any _ _ _ _ _ _ _ HD8.out).mono ?_; rintro en w6 ⟨rfl, rfl⟩))
      go_ret
      exact ⟨rfl, HB2.out⟩

theorem u8_wf {n : Int} (h : (Lit.int .u8 n).wf = true) : 0 ≤ n ∧ n < 256 := by
  simp only [Lit.wf, IntKind.min, IntKind.max, IntKind.signed, IntKind.bits, Bool.and_eq_true, decide_eq_true_eq] at h
  simp at h
  omega
theorem busbarlaw06_CursorWords (A : Option Addr) (c : Nat) (l : List Int) (n : Int) (w : World) (hr : Kd.C (Kd.int .u8) w A l.length l) (hc : l.length ≤ c) (hm : l.length ≤ maxLen) (hw : ∀ x ∈ l, (Lit.int .u8 x).wf = true) (wn : (Lit.int .u8 n).wf = true) :
    Calls Try.prog 4 #[.slice A l.length c, .int .u8 n] w fun en w' => en = .returned (.bool true) ∧ Below w.heap.size w w' := by
  obtain ⟨h0, h1⟩ := u8_wf wn
  by_cases hl : 200 < l.length
  · exact words_long A c l n w hr hc hl
  by_cases h2 : (l.length : Int) < 2 * n
  · exact words_over A c l n w hr hc hl h0 h1 h2
  · exact words_go A c l n w hr hc hl (fun x hx => u8_wf (hw x hx)) n.toNat (by omega) (by omega) (by omega)
end Go.Proofs.Ythhkjmoppaopjaa.Laws
