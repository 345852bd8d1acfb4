/- What the laws of this chapter rest on, part 3: what the functions that they reach answer, each shown once. Conditions: what each theorem states. (Merged by a program of this session, wip/tools/merge.py, out of its own texts and of the words that the kit's print wrote for this seat, cut to those that are used.) -/
import Derived.Test.YtggiobdjepgkfaaBB
set_option linter.unusedVariables false
set_option linter.unusedSimpArgs false
set_option maxHeartbeats 16000000
set_option maxRecDepth 100000
section
namespace Go.Proofs.Ytggiobdjepgkfaa.RCur
open Go.RowKit Go.Proofs.Ytggiobdjepgkfaa.P Go.Proofs.Ytggiobdjepgkfaa.E Go.Proofs.Ytggiobdjepgkfaa.Cur Go.Proofs.YtggiobdjepgkfaaW.PrintWords Go.Proofs.YtggiobdjepgkfaaW.PrintLast Go.Proofs.YtggiobdjepgkfaaW.PrintMore
def RAt (hi : Nat) (w : World) (g : Nat) (xs : List Int) (n : Nat) (s : Bool) (e : Int) : Prop :=
  hi ≤ g ∧ n ≤ xs.length ∧ xs.length ≤ 1000000 ∧ ∃ A c, w.heap[g]? = some (.cells #[.slice A xs.length c, .int .i64 n, .bool s, .int .i64 e] 57 (0, 0)) ∧ xs.length ≤ c ∧ Row 0 hi w A xs
theorem cells4 {w : World} {g : Nat} {t : TypeId} {v0 v1 v2 v3 : Value} (h : w.heap[g]? = some (.cells #[v0, v1, v2, v3] t (0, 0))) : (w.cell? ⟨g, 0, none⟩ = some v0 ∧ w.cell? ⟨g, 1, none⟩ = some v1 ∧ w.cell? ⟨g, 2, none⟩ = some v2 ∧ w.cell? ⟨g, 3, none⟩ = some v3) ∧ w.frozen? ⟨g, 0, none⟩ = false ∧ w.frozen? ⟨g, 1, none⟩ = false ∧ w.frozen? ⟨g, 2, none⟩ = false ∧ w.frozen? ⟨g, 3, none⟩ = false :=
  ⟨⟨blk_cell h 0, blk_cell h 1, blk_cell h 2, blk_cell h 3⟩, blk_frozen h 0, blk_frozen h 1, blk_frozen h 2, blk_frozen h 3⟩
def bm (n m : Nat) : Array Bool := ⟨(List.range n).map fun i => m.testBit i⟩
theorem need_set (hi g : Nat) (xs : List Int) (n : Nat) (s : Bool) (f : Int) (w : World) (h : RAt hi w g xs n s 0) :
    Calls Try.prog 30 #[.pointer (some ⟨g, 0, none⟩), .bool false, .int .i64 f] w fun en w' => en = .returned (.tuple #[]) ∧ RAt hi w' g xs n s f ∧ Upd g w w' := by
  obtain ⟨h1, hn, hx, A, c, h2, h3, h4⟩ := h
  obtain ⟨⟨k0, k1, k2, k3⟩, f0, f1, f2, f3⟩ := cells4 h2
  have H2 := Aside0.mk h2
  have H4 := Aside0.mk h4
  clear h2 h4
  have hu1 := Try.underlying57
  go_enter Try.func30, Try.ntmps30
  go_wp2
  first
  | exact bodyPost_end (results_none rfl _ _ _) rfl ⟨rfl, ⟨h1, hn, hx, A, c, blk_put H2.out 3 _ rfl, h3, H4.out.on ((Upd.set w g 3 _).kept.mono (fun k hk => .inr (by omega)))⟩, Upd.set _ _ _ _⟩
  | exact bodyPost_ret (results_none rfl _ _ _) rfl ⟨rfl, ⟨h1, hn, hx, A, c, blk_put H2.out 3 _ rfl, h3, H4.out.on ((Upd.set w g 3 _).kept.mono (fun k hk => .inr (by omega)))⟩, Upd.set _ _ _ _⟩
theorem need_keep (hi g : Nat) (xs : List Int) (n : Nat) (s : Bool) (e : Int) (w : World) (h : RAt hi w g xs n s e) (f : Int) (he : e ≠ 0) :
    Calls Try.prog 30 #[.pointer (some ⟨g, 0, none⟩), .bool false, .int .i64 f] w fun en w' => en = .returned (.tuple #[]) ∧ RAt hi w' g xs n s e ∧ Upd g w w' := by
  have e1 : (e == 0) = false := beq_eq_false_iff_ne.2 he
  have e2 : (e != 0) = true := bne_iff_ne.2 he
  clear he
  obtain ⟨h1, hn, hx, A, c, h2, h3, h4⟩ := h
  obtain ⟨⟨k0, k1, k2, k3⟩, f0, f1, f2, f3⟩ := cells4 h2
  have H2 := Aside0.mk h2
  have H4 := Aside0.mk h4
  clear h2 h4
  have hu1 := Try.underlying57
  go_enter Try.func30, Try.ntmps30
  go_wp2
  exact bodyPost_ret (results_none rfl _ _ _) rfl ⟨rfl, ⟨h1, hn, hx, A, c, H2.out, h3, H4.out⟩, Upd.refl _ _⟩
theorem need_any (hi g : Nat) (xs : List Int) (n : Nat) (s : Bool) (e : Int) (w : World) (h : RAt hi w g xs n s e) (f : Int) :
    Calls Try.prog 30 #[.pointer (some ⟨g, 0, none⟩), .bool false, .int .i64 f] w fun en w' => en = .returned (.tuple #[]) ∧ RAt hi w' g xs n s (fstE e f) ∧ Upd g w w' := by
  by_cases he : e = 0
  · subst he
    exact need_set hi g xs n s f w h
  · have := need_keep hi g xs n s e w h f he
    rw [show fstE e f = e from if_neg he]
    exact this
def rbytes.T1 : Bool × List (List Nat × List Nat) := (true, [([], []), ([0], [0]), ([1], [1]), ([2], [2]), ([3], [3]), ([4], [4]), ([5, 4], [4, 5]), ([4, 6], [4, 6]), ([7, 4], [7]), ([8], [8]), ([8], [8]), ([10, 8], [8, 10]), ([11, 8], [8, 11]), ([12, 8], [8, 12]), ([13, 8], [8, 13]), ([8], [8]), ([15, 8], [8, 15]), ([16, 8], [8, 16]), ([17, 8], [8, 17]), ([14, 18, 8], [8, 14, 18]), ([9, 19, 8], [8, 9, 19]), ([8, 20], [8, 20])])
def rbytes.B1 : List Nat := [0, 1, 3, 7, 15, 31, 63, 127, 255, 511, 511, 1535, 3583, 7679, 15871, 511, 33279, 98815, 229887, 523775, 1048575, 2097151]
theorem rbytes.tab1 : rtab .any (opsOf Try.f31 1) = rbytes.T1 := by kernel_rfl
theorem rbytes.bits1 : waitsOk rbytes.T1.2 rbytes.B1 = true := by kernel_rfl
def rbytes.T7 : Bool × List (List Nat × List Nat) := (true, [([], []), ([0], [0]), ([1], [1]), ([2], [2]), ([], []), ([4], [4]), ([5], [5]), ([6], [6]), ([], []), ([7, 8], [7, 8]), ([], []), ([10], [10]), ([11], [11]), ([12], [12]), ([3, 9, 13], [3, 9, 13]), ([14, 0, 1, 2, 3, 4, 5, 6, 7, 8, 9, 10, 11, 12, 13, 14], [14])])
def rbytes.B7 : List Nat := [0, 1, 3, 7, 0, 16, 48, 112, 0, 496, 0, 1024, 3072, 7168, 16383, 32767]
theorem rbytes.tab7 : rtab .any (opsOf Try.f31 7) = rbytes.T7 := by kernel_rfl
theorem rbytes.bits7 : waitsOk rbytes.T7.2 rbytes.B7 = true := by kernel_rfl
theorem bytes_s (hi g : Nat) (xs : List Int) (n : Nat) (e m : Int) (w : World) (h : RAt hi w g xs n true e)  :
    Calls Try.prog 31 #[.pointer (some ⟨g, 0, none⟩), .int .i64 m] w fun en w' => en = .returned (.slice none 0 0) ∧ RAt hi w' g xs xs.length true (fstE e 2) ∧ Upd g w w' := by
  obtain ⟨h1, hn, hx, A, c, h2, h3, h4⟩ := h
  obtain ⟨⟨k0, k1, k2, k3⟩, f0, f1, f2, f3⟩ := cells4 h2
  have H2 := Aside0.mk h2
  have H4 := Aside0.mk h4
  clear h2 h4
  have hu1 := Try.underlying57
  have c1 : wrap64 ((xs.length : Int) - (n : Int)) = (xs.length : Int) - (n : Int) := wrap64_id (by omega) (by omega)
  have FIN := Aside0.mk (fun (W : World) (hW : RAt hi W g xs xs.length true e) => need_any hi g xs xs.length true e W hW 2)
  go_enter Try.func31, Try.ntmps31
  go_wp2
  refine start_ (n := 22) (S := fun w' => w'.cell? ⟨g, 0, none⟩ = some (.slice A xs.length c) ∧ w'.cell? ⟨g, 1, none⟩ = some (.int .i64 n) ∧ w'.cell? ⟨g, 2, none⟩ = some (.bool true) ∧ Aside0 (w'.heap[g]? = some (.cells #[.slice A xs.length c, .int .i64 n, .bool true, .int .i64 e] 57 (0, 0))) ∧ Aside0 (Upd g w w')) (ds := []) (bm 22 0) (by as_aux_lemma => kernel_rfl) rfl (by as_aux_lemma => kernel_rfl) ⟨k0, k1, k2, (Aside0.mk H2.out), (Aside0.mk ⟨rfl, rfl, rfl, (Kept.refl _ _).drew⟩)⟩ (fun hHeld => ?_)
  refine with_tabW rbytes.tab1 rbytes.bits1 (fun HT_ HW_ => ?_)
  refine pure_ (i := 0) (N := some 5) (v := ?_) (a' := ?_) (bm 22 1) rfl rfl (any_of HT_.out (by as_aux_lemma => kernel_rfl)) (fun _ _ _ h => h) (Or.inl ⟨by rfl, ?_⟩) ?_ ?_
  rotate_left
  · intro w'
    go_simp
    with_reducible rfl
  rotate_left
  · simp only [Act.put, List.setIfInBounds_toArray, List.set_cons_zero, List.set_cons_succ, i64_w, i32_w]
    rfl
  refine pure_ (i := 1) (N := some 6) (v := ?_) (a' := ?_) (bm 22 3) rfl rfl (any_of HT_.out (by as_aux_lemma => kernel_rfl)) (fun _ _ _ h => h) (Or.inl ⟨by rfl, ?_⟩) ?_ ?_
  rotate_left
  · intro w'
    go_simp
    with_reducible rfl
  rotate_left
  · simp only [Act.put, List.setIfInBounds_toArray, List.set_cons_zero, List.set_cons_succ, i64_w, i32_w]
    rfl
  refine pure_ (i := 2) (N := some 7) (v := ?_) (a' := ?_) (bm 22 7) rfl rfl (any_of HT_.out (by as_aux_lemma => kernel_rfl)) (fun _ _ _ h => h) (Or.inl ⟨by rfl, ?_⟩) ?_ ?_
  rotate_left
  · intro w'
    go_simp
    with_reducible rfl
  rotate_left
  · simp only [Act.put, List.setIfInBounds_toArray, List.set_cons_zero, List.set_cons_succ, i64_w, i32_w]
    rfl
  refine take_ (i := 3) (N := some 8) (v := ?_) (a' := ?_) (bm 22 15) rfl rfl (take_ofW HT_.out HW_.out (by as_aux_lemma => kernel_rfl)) (fun _ _ _ h => h) (Or.inl ⟨by rfl, ?_⟩) hHeld ?_ ?_
  rotate_left
  · rintro w' ⟨s0, s1, s2, s3, s4⟩
    go_simp
    with_reducible rfl
  rotate_left
  · simp only [Act.put, List.setIfInBounds_toArray, List.set_cons_zero, List.set_cons_succ, i64_w, i32_w]
    rfl
  refine pure_ (i := 4) (N := some 9) (v := ?_) (a' := ?_) (bm 22 31) rfl rfl (any_of HT_.out (by as_aux_lemma => kernel_rfl)) (fun _ _ _ h => h) (Or.inl ⟨by rfl, ?_⟩) ?_ ?_
  rotate_left
  · intro w'
    go_simp
    with_reducible rfl
  rotate_left
  · simp only [Act.put, List.setIfInBounds_toArray, List.set_cons_zero, List.set_cons_succ, i64_w, i32_w]
    rfl
  refine pure_ (i := 5) (N := some 10) (v := undef) (a' := ?_) (bm 22 63) rfl rfl (any_of HT_.out (by as_aux_lemma => kernel_rfl)) (fun _ _ _ h => h) (Or.inr ⟨by rfl, rfl⟩) ?_ ?_
  rotate_left
  · simp only [Act.put, List.setIfInBounds_toArray, List.set_cons_zero, List.set_cons_succ, i64_w, i32_w]
    rfl
  refine pure_ (i := 6) (N := some 11) (v := undef) (a' := ?_) (bm 22 127) rfl rfl (any_of HT_.out (by as_aux_lemma => kernel_rfl)) (fun _ _ _ h => h) (Or.inr ⟨by rfl, rfl⟩) ?_ ?_
  rotate_left
  · simp only [Act.put, List.setIfInBounds_toArray, List.set_cons_zero, List.set_cons_succ, i64_w, i32_w]
    rfl
  refine pure_ (i := 7) (N := some 12) (v := ?_) (a' := ?_) (bm 22 255) rfl rfl (any_of HT_.out (by as_aux_lemma => kernel_rfl)) (fun _ _ _ h => h) (Or.inl ⟨by rfl, ?_⟩) ?_ ?_
  rotate_left
  · intro w'
    go_simp
    with_reducible rfl
  rotate_left
  · simp only [Act.put, List.setIfInBounds_toArray, List.set_cons_zero, List.set_cons_succ, i64_w, i32_w]
    rfl
  refine pure_ (i := 8) (N := some 13) (v := ?_) (a' := ?_) (bm 22 511) rfl rfl (any_of HT_.out (by as_aux_lemma => kernel_rfl)) (fun _ _ _ h => h) (Or.inl ⟨by rfl, ?_⟩) ?_ ?_
  rotate_left
  · intro w'
    go_simp
    with_reducible rfl
  rotate_left
  · simp only [Act.put, List.setIfInBounds_toArray, List.set_cons_zero, List.set_cons_succ, i64_w, i32_w]
    rfl
  refine pure_ (i := 9) (N := some 14) (v := undef) (a' := ?_) (bm 22 1023) rfl rfl (any_of HT_.out (by as_aux_lemma => kernel_rfl)) (fun _ _ _ h => h) (Or.inr ⟨by rfl, rfl⟩) ?_ ?_
  rotate_left
  · simp only [Act.put, List.setIfInBounds_toArray, List.set_cons_zero, List.set_cons_succ, i64_w, i32_w]
    rfl
  refine pure_ (i := 10) (N := some 15) (v := undef) (a' := ?_) (bm 22 2047) rfl rfl (any_of HT_.out (by as_aux_lemma => kernel_rfl)) (fun _ _ _ h => h) (Or.inr ⟨by rfl, rfl⟩) ?_ ?_
  rotate_left
  · simp only [Act.put, List.setIfInBounds_toArray, List.set_cons_zero, List.set_cons_succ, i64_w, i32_w]
    rfl
  refine pure_ (i := 11) (N := some 16) (v := undef) (a' := ?_) (bm 22 4095) rfl rfl (any_of HT_.out (by as_aux_lemma => kernel_rfl)) (fun _ _ _ h => h) (Or.inr ⟨by rfl, rfl⟩) ?_ ?_
  rotate_left
  · simp only [Act.put, List.setIfInBounds_toArray, List.set_cons_zero, List.set_cons_succ, i64_w, i32_w]
    rfl
  refine pure_ (i := 12) (N := some 17) (v := undef) (a' := ?_) (bm 22 8191) rfl rfl (any_of HT_.out (by as_aux_lemma => kernel_rfl)) (fun _ _ _ h => h) (Or.inr ⟨by rfl, rfl⟩) ?_ ?_
  rotate_left
  · simp only [Act.put, List.setIfInBounds_toArray, List.set_cons_zero, List.set_cons_succ, i64_w, i32_w]
    rfl
  refine pure_ (i := 13) (N := some 18) (v := undef) (a' := ?_) (bm 22 16383) rfl rfl (any_of HT_.out (by as_aux_lemma => kernel_rfl)) (fun _ _ _ h => h) (Or.inr ⟨by rfl, rfl⟩) ?_ ?_
  rotate_left
  · simp only [Act.put, List.setIfInBounds_toArray, List.set_cons_zero, List.set_cons_succ, i64_w, i32_w]
    rfl
  refine pure_ (i := 14) (N := some 19) (v := undef) (a' := ?_) (bm 22 32767) rfl rfl (any_of HT_.out (by as_aux_lemma => kernel_rfl)) (fun _ _ _ h => h) (Or.inr ⟨by rfl, rfl⟩) ?_ ?_
  rotate_left
  · simp only [Act.put, List.setIfInBounds_toArray, List.set_cons_zero, List.set_cons_succ, i64_w, i32_w]
    rfl
  refine pure_ (i := 15) (N := some 20) (v := undef) (a' := ?_) (bm 22 65535) rfl rfl (any_of HT_.out (by as_aux_lemma => kernel_rfl)) (fun _ _ _ h => h) (Or.inr ⟨by rfl, rfl⟩) ?_ ?_
  rotate_left
  · simp only [Act.put, List.setIfInBounds_toArray, List.set_cons_zero, List.set_cons_succ, i64_w, i32_w]
    rfl
  refine pure_ (i := 16) (N := some 21) (v := undef) (a' := ?_) (bm 22 131071) rfl rfl (any_of HT_.out (by as_aux_lemma => kernel_rfl)) (fun _ _ _ h => h) (Or.inr ⟨by rfl, rfl⟩) ?_ ?_
  rotate_left
  · simp only [Act.put, List.setIfInBounds_toArray, List.set_cons_zero, List.set_cons_succ, i64_w, i32_w]
    rfl
  refine pure_ (i := 17) (N := some 22) (v := undef) (a' := ?_) (bm 22 262143) rfl rfl (any_of HT_.out (by as_aux_lemma => kernel_rfl)) (fun _ _ _ h => h) (Or.inr ⟨by rfl, rfl⟩) ?_ ?_
  rotate_left
  · simp only [Act.put, List.setIfInBounds_toArray, List.set_cons_zero, List.set_cons_succ, i64_w, i32_w]
    rfl
  refine pure_ (i := 18) (N := some 23) (v := undef) (a' := ?_) (bm 22 524287) rfl rfl (any_of HT_.out (by as_aux_lemma => kernel_rfl)) (fun _ _ _ h => h) (Or.inr ⟨by rfl, rfl⟩) ?_ ?_
  rotate_left
  · simp only [Act.put, List.setIfInBounds_toArray, List.set_cons_zero, List.set_cons_succ, i64_w, i32_w]
    rfl
  refine pure_ (i := 19) (N := some 24) (v := undef) (a' := ?_) (bm 22 1048575) rfl rfl (any_of HT_.out (by as_aux_lemma => kernel_rfl)) (fun _ _ _ h => h) (Or.inr ⟨by rfl, rfl⟩) ?_ ?_
  rotate_left
  · simp only [Act.put, List.setIfInBounds_toArray, List.set_cons_zero, List.set_cons_succ, i64_w, i32_w]
    rfl
  refine pure_ (i := 20) (N := some 25) (v := undef) (a' := ?_) (bm 22 2097151) rfl rfl (any_of HT_.out (by as_aux_lemma => kernel_rfl)) (fun _ _ _ h => h) (Or.inr ⟨by rfl, rfl⟩) ?_ ?_
  rotate_left
  · simp only [Act.put, List.setIfInBounds_toArray, List.set_cons_zero, List.set_cons_succ, i64_w, i32_w]
    rfl
  refine pure_ (i := 21) (N := some 26) (v := ?_) (a' := ?_) (bm 22 4194303) rfl rfl (any_of HT_.out (by as_aux_lemma => kernel_rfl)) (fun _ _ _ h => h) (Or.inl ⟨by rfl, ?_⟩) ?_ ?_
  rotate_left
  · intro w'
    go_simp
    with_reducible rfl
  rotate_left
  · simp only [Act.put, List.setIfInBounds_toArray, List.set_cons_zero, List.set_cons_succ, i64_w, i32_w]
    rfl
  refine done_ (done_of HT_.out (by as_aux_lemma => kernel_rfl)) ?_
  have hb := hHeld.2.2.2.1.out
  have hU := hHeld.2.2.2.2.out
  obtain ⟨⟨q0, q1, q2, q3⟩, p0, p1, p2, p3⟩ := cells4 hb
  clear hHeld
  generalize World.drew w = wd at *
  have HS := Aside0.mk (fun (W : World) (hW : W = (wd.setCell ⟨g, 2, none⟩ (.bool true)).setCell ⟨g, 1, none⟩ (.int .i64 xs.length)) => (by
    subst hW
    exact ⟨h1, Nat.le_refl _, hx, A, c, blk_put (blk_put hb 2 _ rfl) 1 _ rfl, h3, H4.out.on ((hU.trans ((Upd.set _ _ _ _).trans (Upd.set _ _ _ _))).kept.mono (fun k hk => .inr (by omega)))⟩ : RAt hi W g xs xs.length true e))
  have HU := Aside0.mk (hU.trans ((Upd.set wd g 2 (.bool true)).trans (Upd.set _ g 1 (.int .i64 xs.length))))
  clear hb hU
  go_wp2_with (go_at_call 30; refine (FIN.out _ ?hw).mono ?_; (case hw => exact HS.out _ rfl); rintro en w2 ⟨rfl, b1, b2⟩; have N1 := Aside0.mk b1; have N2 := Aside0.mk b2; clear b1 b2)
  go_ret
  exact ⟨rfl, N1.out, HU.out.trans N2.out⟩
theorem bytes_neg (hi g : Nat) (xs : List Int) (n : Nat) (e m : Int) (w : World) (h : RAt hi w g xs n false e) (hm : m < 0) :
    Calls Try.prog 31 #[.pointer (some ⟨g, 0, none⟩), .int .i64 m] w fun en w' => en = .returned (.slice none 0 0) ∧ RAt hi w' g xs xs.length true (fstE e 2) ∧ Upd g w w' := by
  obtain ⟨h1, hn, hx, A, c, h2, h3, h4⟩ := h
  obtain ⟨⟨k0, k1, k2, k3⟩, f0, f1, f2, f3⟩ := cells4 h2
  have H2 := Aside0.mk h2
  have H4 := Aside0.mk h4
  clear h2 h4
  have hu1 := Try.underlying57
  have d1 : decide (m < 0) = true := decide_eq_true hm
  have c1 : wrap64 ((xs.length : Int) - (n : Int)) = (xs.length : Int) - (n : Int) := wrap64_id (by omega) (by omega)
  have FIN := Aside0.mk (fun (W : World) (hW : RAt hi W g xs xs.length true e) => need_any hi g xs xs.length true e W hW 2)
  go_enter Try.func31, Try.ntmps31
  go_wp2
  refine start_ (n := 22) (S := fun w' => w'.cell? ⟨g, 0, none⟩ = some (.slice A xs.length c) ∧ w'.cell? ⟨g, 1, none⟩ = some (.int .i64 n) ∧ w'.cell? ⟨g, 2, none⟩ = some (.bool false) ∧ Aside0 (w'.heap[g]? = some (.cells #[.slice A xs.length c, .int .i64 n, .bool false, .int .i64 e] 57 (0, 0))) ∧ Aside0 (Upd g w w')) (ds := []) (bm 22 0) (by as_aux_lemma => kernel_rfl) rfl (by as_aux_lemma => kernel_rfl) ⟨k0, k1, k2, (Aside0.mk H2.out), (Aside0.mk ⟨rfl, rfl, rfl, (Kept.refl _ _).drew⟩)⟩ (fun hHeld => ?_)
  refine with_tabW rbytes.tab1 rbytes.bits1 (fun HT_ HW_ => ?_)
  refine pure_ (i := 0) (N := some 5) (v := ?_) (a' := ?_) (bm 22 1) rfl rfl (any_of HT_.out (by as_aux_lemma => kernel_rfl)) (fun _ _ _ h => h) (Or.inl ⟨by rfl, ?_⟩) ?_ ?_
  rotate_left
  · intro w'
    go_simp
    with_reducible rfl
  rotate_left
  · simp only [Act.put, List.setIfInBounds_toArray, List.set_cons_zero, List.set_cons_succ, i64_w, i32_w]
    rfl
  refine pure_ (i := 1) (N := some 6) (v := ?_) (a' := ?_) (bm 22 3) rfl rfl (any_of HT_.out (by as_aux_lemma => kernel_rfl)) (fun _ _ _ h => h) (Or.inl ⟨by rfl, ?_⟩) ?_ ?_
  rotate_left
  · intro w'
    go_simp
    with_reducible rfl
  rotate_left
  · simp only [Act.put, List.setIfInBounds_toArray, List.set_cons_zero, List.set_cons_succ, i64_w, i32_w]
    rfl
  refine pure_ (i := 2) (N := some 7) (v := ?_) (a' := ?_) (bm 22 7) rfl rfl (any_of HT_.out (by as_aux_lemma => kernel_rfl)) (fun _ _ _ h => h) (Or.inl ⟨by rfl, ?_⟩) ?_ ?_
  rotate_left
  · intro w'
    go_simp
    with_reducible rfl
  rotate_left
  · simp only [Act.put, List.setIfInBounds_toArray, List.set_cons_zero, List.set_cons_succ, i64_w, i32_w]
    rfl
  refine take_ (i := 3) (N := some 8) (v := ?_) (a' := ?_) (bm 22 15) rfl rfl (take_ofW HT_.out HW_.out (by as_aux_lemma => kernel_rfl)) (fun _ _ _ h => h) (Or.inl ⟨by rfl, ?_⟩) hHeld ?_ ?_
  rotate_left
  · rintro w' ⟨s0, s1, s2, s3, s4⟩
    go_simp
    with_reducible rfl
  rotate_left
  · simp only [Act.put, List.setIfInBounds_toArray, List.set_cons_zero, List.set_cons_succ, i64_w, i32_w]
    rfl
  refine pure_ (i := 4) (N := some 9) (v := ?_) (a' := ?_) (bm 22 31) rfl rfl (any_of HT_.out (by as_aux_lemma => kernel_rfl)) (fun _ _ _ h => h) (Or.inl ⟨by rfl, ?_⟩) ?_ ?_
  rotate_left
  · intro w'
    go_simp
    with_reducible rfl
  rotate_left
  · simp only [Act.put, List.setIfInBounds_toArray, List.set_cons_zero, List.set_cons_succ, i64_w, i32_w]
    rfl
  refine pure_ (i := 5) (N := some 10) (v := ?_) (a' := ?_) (bm 22 63) rfl rfl (any_of HT_.out (by as_aux_lemma => kernel_rfl)) (fun _ _ _ h => h) (Or.inl ⟨by rfl, ?_⟩) ?_ ?_
  rotate_left
  · intro w'
    go_simp
    with_reducible rfl
  rotate_left
  · simp only [Act.put, List.setIfInBounds_toArray, List.set_cons_zero, List.set_cons_succ, i64_w, i32_w]
    rfl
  refine pure_ (i := 6) (N := some 11) (v := ?_) (a' := ?_) (bm 22 127) rfl rfl (any_of HT_.out (by as_aux_lemma => kernel_rfl)) (fun _ _ _ h => h) (Or.inl ⟨by rfl, ?_⟩) ?_ ?_
  rotate_left
  · intro w'
    go_simp
    with_reducible rfl
  rotate_left
  · simp only [Act.put, List.setIfInBounds_toArray, List.set_cons_zero, List.set_cons_succ, i64_w, i32_w]
    rfl
  refine pure_ (i := 7) (N := some 12) (v := ?_) (a' := ?_) (bm 22 255) rfl rfl (any_of HT_.out (by as_aux_lemma => kernel_rfl)) (fun _ _ _ h => h) (Or.inl ⟨by rfl, ?_⟩) ?_ ?_
  rotate_left
  · intro w'
    go_simp
    with_reducible rfl
  rotate_left
  · simp only [Act.put, List.setIfInBounds_toArray, List.set_cons_zero, List.set_cons_succ, i64_w, i32_w]
    rfl
  refine pure_ (i := 8) (N := some 13) (v := ?_) (a' := ?_) (bm 22 511) rfl rfl (any_of HT_.out (by as_aux_lemma => kernel_rfl)) (fun _ _ _ h => h) (Or.inl ⟨by rfl, ?_⟩) ?_ ?_
  rotate_left
  · intro w'
    go_simp
    with_reducible rfl
  rotate_left
  · simp only [Act.put, List.setIfInBounds_toArray, List.set_cons_zero, List.set_cons_succ, i64_w, i32_w]
    rfl
  refine pure_ (i := 9) (N := some 14) (v := undef) (a' := ?_) (bm 22 1023) rfl rfl (any_of HT_.out (by as_aux_lemma => kernel_rfl)) (fun _ _ _ h => h) (Or.inr ⟨by rfl, rfl⟩) ?_ ?_
  rotate_left
  · simp only [Act.put, List.setIfInBounds_toArray, List.set_cons_zero, List.set_cons_succ, i64_w, i32_w]
    rfl
  refine pure_ (i := 10) (N := some 15) (v := undef) (a' := ?_) (bm 22 2047) rfl rfl (any_of HT_.out (by as_aux_lemma => kernel_rfl)) (fun _ _ _ h => h) (Or.inr ⟨by rfl, rfl⟩) ?_ ?_
  rotate_left
  · simp only [Act.put, List.setIfInBounds_toArray, List.set_cons_zero, List.set_cons_succ, i64_w, i32_w]
    rfl
  refine pure_ (i := 11) (N := some 16) (v := undef) (a' := ?_) (bm 22 4095) rfl rfl (any_of HT_.out (by as_aux_lemma => kernel_rfl)) (fun _ _ _ h => h) (Or.inr ⟨by rfl, rfl⟩) ?_ ?_
  rotate_left
  · simp only [Act.put, List.setIfInBounds_toArray, List.set_cons_zero, List.set_cons_succ, i64_w, i32_w]
    rfl
  refine pure_ (i := 12) (N := some 17) (v := undef) (a' := ?_) (bm 22 8191) rfl rfl (any_of HT_.out (by as_aux_lemma => kernel_rfl)) (fun _ _ _ h => h) (Or.inr ⟨by rfl, rfl⟩) ?_ ?_
  rotate_left
  · simp only [Act.put, List.setIfInBounds_toArray, List.set_cons_zero, List.set_cons_succ, i64_w, i32_w]
    rfl
  refine pure_ (i := 13) (N := some 18) (v := undef) (a' := ?_) (bm 22 16383) rfl rfl (any_of HT_.out (by as_aux_lemma => kernel_rfl)) (fun _ _ _ h => h) (Or.inr ⟨by rfl, rfl⟩) ?_ ?_
  rotate_left
  · simp only [Act.put, List.setIfInBounds_toArray, List.set_cons_zero, List.set_cons_succ, i64_w, i32_w]
    rfl
  refine pure_ (i := 14) (N := some 19) (v := undef) (a' := ?_) (bm 22 32767) rfl rfl (any_of HT_.out (by as_aux_lemma => kernel_rfl)) (fun _ _ _ h => h) (Or.inr ⟨by rfl, rfl⟩) ?_ ?_
  rotate_left
  · simp only [Act.put, List.setIfInBounds_toArray, List.set_cons_zero, List.set_cons_succ, i64_w, i32_w]
    rfl
  refine pure_ (i := 15) (N := some 20) (v := undef) (a' := ?_) (bm 22 65535) rfl rfl (any_of HT_.out (by as_aux_lemma => kernel_rfl)) (fun _ _ _ h => h) (Or.inr ⟨by rfl, rfl⟩) ?_ ?_
  rotate_left
  · simp only [Act.put, List.setIfInBounds_toArray, List.set_cons_zero, List.set_cons_succ, i64_w, i32_w]
    rfl
  refine pure_ (i := 16) (N := some 21) (v := undef) (a' := ?_) (bm 22 131071) rfl rfl (any_of HT_.out (by as_aux_lemma => kernel_rfl)) (fun _ _ _ h => h) (Or.inr ⟨by rfl, rfl⟩) ?_ ?_
  rotate_left
  · simp only [Act.put, List.setIfInBounds_toArray, List.set_cons_zero, List.set_cons_succ, i64_w, i32_w]
    rfl
  refine pure_ (i := 17) (N := some 22) (v := undef) (a' := ?_) (bm 22 262143) rfl rfl (any_of HT_.out (by as_aux_lemma => kernel_rfl)) (fun _ _ _ h => h) (Or.inr ⟨by rfl, rfl⟩) ?_ ?_
  rotate_left
  · simp only [Act.put, List.setIfInBounds_toArray, List.set_cons_zero, List.set_cons_succ, i64_w, i32_w]
    rfl
  refine pure_ (i := 18) (N := some 23) (v := undef) (a' := ?_) (bm 22 524287) rfl rfl (any_of HT_.out (by as_aux_lemma => kernel_rfl)) (fun _ _ _ h => h) (Or.inr ⟨by rfl, rfl⟩) ?_ ?_
  rotate_left
  · simp only [Act.put, List.setIfInBounds_toArray, List.set_cons_zero, List.set_cons_succ, i64_w, i32_w]
    rfl
  refine pure_ (i := 19) (N := some 24) (v := undef) (a' := ?_) (bm 22 1048575) rfl rfl (any_of HT_.out (by as_aux_lemma => kernel_rfl)) (fun _ _ _ h => h) (Or.inr ⟨by rfl, rfl⟩) ?_ ?_
  rotate_left
  · simp only [Act.put, List.setIfInBounds_toArray, List.set_cons_zero, List.set_cons_succ, i64_w, i32_w]
    rfl
  refine pure_ (i := 20) (N := some 25) (v := undef) (a' := ?_) (bm 22 2097151) rfl rfl (any_of HT_.out (by as_aux_lemma => kernel_rfl)) (fun _ _ _ h => h) (Or.inr ⟨by rfl, rfl⟩) ?_ ?_
  rotate_left
  · simp only [Act.put, List.setIfInBounds_toArray, List.set_cons_zero, List.set_cons_succ, i64_w, i32_w]
    rfl
  refine pure_ (i := 21) (N := some 26) (v := ?_) (a' := ?_) (bm 22 4194303) rfl rfl (any_of HT_.out (by as_aux_lemma => kernel_rfl)) (fun _ _ _ h => h) (Or.inl ⟨by rfl, ?_⟩) ?_ ?_
  rotate_left
  · intro w'
    go_simp
    with_reducible rfl
  rotate_left
  · simp only [Act.put, List.setIfInBounds_toArray, List.set_cons_zero, List.set_cons_succ, i64_w, i32_w]
    rfl
  refine done_ (done_of HT_.out (by as_aux_lemma => kernel_rfl)) ?_
  have hb := hHeld.2.2.2.1.out
  have hU := hHeld.2.2.2.2.out
  obtain ⟨⟨q0, q1, q2, q3⟩, p0, p1, p2, p3⟩ := cells4 hb
  clear hHeld
  generalize World.drew w = wd at *
  have HS := Aside0.mk (fun (W : World) (hW : W = (wd.setCell ⟨g, 2, none⟩ (.bool true)).setCell ⟨g, 1, none⟩ (.int .i64 xs.length)) => (by
    subst hW
    exact ⟨h1, Nat.le_refl _, hx, A, c, blk_put (blk_put hb 2 _ rfl) 1 _ rfl, h3, H4.out.on ((hU.trans ((Upd.set _ _ _ _).trans (Upd.set _ _ _ _))).kept.mono (fun k hk => .inr (by omega)))⟩ : RAt hi W g xs xs.length true e))
  have HU := Aside0.mk (hU.trans ((Upd.set wd g 2 (.bool true)).trans (Upd.set _ g 1 (.int .i64 xs.length))))
  clear hb hU
  go_wp2_with (go_at_call 30; refine (FIN.out _ ?hw).mono ?_; (case hw => exact HS.out _ rfl); rintro en w2 ⟨rfl, b1, b2⟩; have N1 := Aside0.mk b1; have N2 := Aside0.mk b2; clear b1 b2)
  go_ret
  exact ⟨rfl, N1.out, HU.out.trans N2.out⟩
theorem bytes_over (hi g : Nat) (xs : List Int) (n : Nat) (e m : Int) (w : World) (h : RAt hi w g xs n false e) (hm : ¬ m < 0) (ho : (xs.length : Int) - n < m) :
    Calls Try.prog 31 #[.pointer (some ⟨g, 0, none⟩), .int .i64 m] w fun en w' => en = .returned (.slice none 0 0) ∧ RAt hi w' g xs xs.length true (fstE e 2) ∧ Upd g w w' := by
  obtain ⟨h1, hn, hx, A, c, h2, h3, h4⟩ := h
  obtain ⟨⟨k0, k1, k2, k3⟩, f0, f1, f2, f3⟩ := cells4 h2
  have H2 := Aside0.mk h2
  have H4 := Aside0.mk h4
  clear h2 h4
  have hu1 := Try.underlying57
  have d1 : decide (m < 0) = false := decide_eq_false hm
  have d2 : decide (m > (xs.length : Int) - (n : Int)) = true := decide_eq_true ho
  have d3 : decide ((xs.length : Int) - (n : Int) < m) = true := decide_eq_true ho
  have c1 : wrap64 ((xs.length : Int) - (n : Int)) = (xs.length : Int) - (n : Int) := wrap64_id (by omega) (by omega)
  have FIN := Aside0.mk (fun (W : World) (hW : RAt hi W g xs xs.length true e) => need_any hi g xs xs.length true e W hW 2)
  go_enter Try.func31, Try.ntmps31
  go_wp2
  refine start_ (n := 22) (S := fun w' => w'.cell? ⟨g, 0, none⟩ = some (.slice A xs.length c) ∧ w'.cell? ⟨g, 1, none⟩ = some (.int .i64 n) ∧ w'.cell? ⟨g, 2, none⟩ = some (.bool false) ∧ Aside0 (w'.heap[g]? = some (.cells #[.slice A xs.length c, .int .i64 n, .bool false, .int .i64 e] 57 (0, 0))) ∧ Aside0 (Upd g w w')) (ds := []) (bm 22 0) (by as_aux_lemma => kernel_rfl) rfl (by as_aux_lemma => kernel_rfl) ⟨k0, k1, k2, (Aside0.mk H2.out), (Aside0.mk ⟨rfl, rfl, rfl, (Kept.refl _ _).drew⟩)⟩ (fun hHeld => ?_)
  refine with_tabW rbytes.tab1 rbytes.bits1 (fun HT_ HW_ => ?_)
  refine pure_ (i := 0) (N := some 5) (v := ?_) (a' := ?_) (bm 22 1) rfl rfl (any_of HT_.out (by as_aux_lemma => kernel_rfl)) (fun _ _ _ h => h) (Or.inl ⟨by rfl, ?_⟩) ?_ ?_
  rotate_left
  · intro w'
    go_simp
    with_reducible rfl
  rotate_left
  · simp only [Act.put, List.setIfInBounds_toArray, List.set_cons_zero, List.set_cons_succ, i64_w, i32_w]
    rfl
  refine pure_ (i := 1) (N := some 6) (v := ?_) (a' := ?_) (bm 22 3) rfl rfl (any_of HT_.out (by as_aux_lemma => kernel_rfl)) (fun _ _ _ h => h) (Or.inl ⟨by rfl, ?_⟩) ?_ ?_
  rotate_left
  · intro w'
    go_simp
    with_reducible rfl
  rotate_left
  · simp only [Act.put, List.setIfInBounds_toArray, List.set_cons_zero, List.set_cons_succ, i64_w, i32_w]
    rfl
  refine pure_ (i := 2) (N := some 7) (v := ?_) (a' := ?_) (bm 22 7) rfl rfl (any_of HT_.out (by as_aux_lemma => kernel_rfl)) (fun _ _ _ h => h) (Or.inl ⟨by rfl, ?_⟩) ?_ ?_
  rotate_left
  · intro w'
    go_simp
    with_reducible rfl
  rotate_left
  · simp only [Act.put, List.setIfInBounds_toArray, List.set_cons_zero, List.set_cons_succ, i64_w, i32_w]
    rfl
  refine take_ (i := 3) (N := some 8) (v := ?_) (a' := ?_) (bm 22 15) rfl rfl (take_ofW HT_.out HW_.out (by as_aux_lemma => kernel_rfl)) (fun _ _ _ h => h) (Or.inl ⟨by rfl, ?_⟩) hHeld ?_ ?_
  rotate_left
  · rintro w' ⟨s0, s1, s2, s3, s4⟩
    go_simp
    with_reducible rfl
  rotate_left
  · simp only [Act.put, List.setIfInBounds_toArray, List.set_cons_zero, List.set_cons_succ, i64_w, i32_w]
    rfl
  refine pure_ (i := 4) (N := some 9) (v := ?_) (a' := ?_) (bm 22 31) rfl rfl (any_of HT_.out (by as_aux_lemma => kernel_rfl)) (fun _ _ _ h => h) (Or.inl ⟨by rfl, ?_⟩) ?_ ?_
  rotate_left
  · intro w'
    go_simp
    with_reducible rfl
  rotate_left
  · simp only [Act.put, List.setIfInBounds_toArray, List.set_cons_zero, List.set_cons_succ, i64_w, i32_w]
    rfl
  refine pure_ (i := 5) (N := some 10) (v := ?_) (a' := ?_) (bm 22 63) rfl rfl (any_of HT_.out (by as_aux_lemma => kernel_rfl)) (fun _ _ _ h => h) (Or.inl ⟨by rfl, ?_⟩) ?_ ?_
  rotate_left
  · intro w'
    go_simp
    with_reducible rfl
  rotate_left
  · simp only [Act.put, List.setIfInBounds_toArray, List.set_cons_zero, List.set_cons_succ, i64_w, i32_w]
    rfl
  refine pure_ (i := 6) (N := some 11) (v := ?_) (a' := ?_) (bm 22 127) rfl rfl (any_of HT_.out (by as_aux_lemma => kernel_rfl)) (fun _ _ _ h => h) (Or.inl ⟨by rfl, ?_⟩) ?_ ?_
  rotate_left
  · intro w'
    go_simp
    with_reducible rfl
  rotate_left
  · simp only [Act.put, List.setIfInBounds_toArray, List.set_cons_zero, List.set_cons_succ, i64_w, i32_w]
    rfl
  refine pure_ (i := 7) (N := some 12) (v := ?_) (a' := ?_) (bm 22 255) rfl rfl (any_of HT_.out (by as_aux_lemma => kernel_rfl)) (fun _ _ _ h => h) (Or.inl ⟨by rfl, ?_⟩) ?_ ?_
  rotate_left
  · intro w'
    go_simp
    with_reducible rfl
  rotate_left
  · simp only [Act.put, List.setIfInBounds_toArray, List.set_cons_zero, List.set_cons_succ, i64_w, i32_w]
    rfl
  refine pure_ (i := 8) (N := some 13) (v := ?_) (a' := ?_) (bm 22 511) rfl rfl (any_of HT_.out (by as_aux_lemma => kernel_rfl)) (fun _ _ _ h => h) (Or.inl ⟨by rfl, ?_⟩) ?_ ?_
  rotate_left
  · intro w'
    go_simp
    with_reducible rfl
  rotate_left
  · simp only [Act.put, List.setIfInBounds_toArray, List.set_cons_zero, List.set_cons_succ, i64_w, i32_w]
    rfl
  refine pure_ (i := 9) (N := some 14) (v := ?_) (a' := ?_) (bm 22 1023) rfl rfl (any_of HT_.out (by as_aux_lemma => kernel_rfl)) (fun _ _ _ h => h) (Or.inl ⟨by rfl, ?_⟩) ?_ ?_
  rotate_left
  · intro w'
    go_simp
    with_reducible rfl
  rotate_left
  · simp only [Act.put, List.setIfInBounds_toArray, List.set_cons_zero, List.set_cons_succ, i64_w, i32_w]
    rfl
  refine pure_ (i := 10) (N := some 15) (v := ?_) (a' := ?_) (bm 22 2047) rfl rfl (any_of HT_.out (by as_aux_lemma => kernel_rfl)) (fun _ _ _ h => h) (Or.inl ⟨by rfl, ?_⟩) ?_ ?_
  rotate_left
  · intro w'
    go_simp
    with_reducible rfl
  rotate_left
  · simp only [Act.put, List.setIfInBounds_toArray, List.set_cons_zero, List.set_cons_succ, i64_w, i32_w]
    rfl
  refine pure_ (i := 11) (N := some 16) (v := ?_) (a' := ?_) (bm 22 4095) rfl rfl (any_of HT_.out (by as_aux_lemma => kernel_rfl)) (fun _ _ _ h => h) (Or.inl ⟨by rfl, ?_⟩) ?_ ?_
  rotate_left
  · intro w'
    go_simp
    with_reducible rfl
  rotate_left
  · simp only [Act.put, List.setIfInBounds_toArray, List.set_cons_zero, List.set_cons_succ, i64_w, i32_w]
    rfl
  refine pure_ (i := 12) (N := some 17) (v := ?_) (a' := ?_) (bm 22 8191) rfl rfl (any_of HT_.out (by as_aux_lemma => kernel_rfl)) (fun _ _ _ h => h) (Or.inl ⟨by rfl, ?_⟩) ?_ ?_
  rotate_left
  · intro w'
    go_simp
    with_reducible rfl
  rotate_left
  · simp only [Act.put, List.setIfInBounds_toArray, List.set_cons_zero, List.set_cons_succ, i64_w, i32_w]
    rfl
  refine pure_ (i := 15) (N := some 20) (v := ?_) (a' := ?_) (bm 22 40959) rfl rfl (any_of HT_.out (by as_aux_lemma => kernel_rfl)) (fun _ _ _ h => h) (Or.inl ⟨by rfl, ?_⟩) ?_ ?_
  rotate_left
  · intro w'
    go_simp
    with_reducible rfl
  rotate_left
  · simp only [Act.put, List.setIfInBounds_toArray, List.set_cons_zero, List.set_cons_succ, i64_w, i32_w]
    rfl
  refine pure_ (i := 16) (N := some 21) (v := ?_) (a' := ?_) (bm 22 106495) rfl rfl (any_of HT_.out (by as_aux_lemma => kernel_rfl)) (fun _ _ _ h => h) (Or.inl ⟨by rfl, ?_⟩) ?_ ?_
  rotate_left
  · intro w'
    go_simp
    with_reducible rfl
  rotate_left
  · simp only [Act.put, List.setIfInBounds_toArray, List.set_cons_zero, List.set_cons_succ, i64_w, i32_w]
    rfl
  refine pure_ (i := 17) (N := some 22) (v := ?_) (a' := ?_) (bm 22 237567) rfl rfl (any_of HT_.out (by as_aux_lemma => kernel_rfl)) (fun _ _ _ h => h) (Or.inl ⟨by rfl, ?_⟩) ?_ ?_
  rotate_left
  · intro w'
    go_simp
    with_reducible rfl
  rotate_left
  · simp only [Act.put, List.setIfInBounds_toArray, List.set_cons_zero, List.set_cons_succ, i64_w, i32_w]
    rfl
  refine take_ (i := 13) (N := some 18) (v := ?_) (a' := ?_) (bm 22 245759) rfl rfl (take_ofW HT_.out HW_.out (by as_aux_lemma => kernel_rfl)) (fun _ _ _ h => h) (Or.inl ⟨by rfl, ?_⟩) hHeld ?_ ?_
  rotate_left
  · rintro w' ⟨s0, s1, s2, s3, s4⟩
    go_simp
    with_reducible rfl
  rotate_left
  · simp only [Act.put, List.setIfInBounds_toArray, List.set_cons_zero, List.set_cons_succ, i64_w, i32_w]
    rfl
  refine pure_ (i := 14) (N := some 19) (v := ?_) (a' := ?_) (bm 22 262143) rfl rfl (any_of HT_.out (by as_aux_lemma => kernel_rfl)) (fun _ _ _ h => h) (Or.inl ⟨by rfl, ?_⟩) ?_ ?_
  rotate_left
  · intro w'
    go_simp
    with_reducible rfl
  rotate_left
  · simp only [Act.put, List.setIfInBounds_toArray, List.set_cons_zero, List.set_cons_succ, i64_w, i32_w]
    rfl
  refine take_ (i := 18) (N := some 23) (v := ?_) (a' := ?_) (bm 22 524287) rfl rfl (take_ofW HT_.out HW_.out (by as_aux_lemma => kernel_rfl)) (fun _ _ _ h => h) (Or.inl ⟨by rfl, ?_⟩) hHeld ?_ ?_
  rotate_left
  · rintro w' ⟨s0, s1, s2, s3, s4⟩
    go_simp
    with_reducible rfl
  rotate_left
  · simp only [Act.put, List.setIfInBounds_toArray, List.set_cons_zero, List.set_cons_succ, i64_w, i32_w]
    rfl
  refine pure_ (i := 19) (N := some 24) (v := ?_) (a' := ?_) (bm 22 1048575) rfl rfl (any_of HT_.out (by as_aux_lemma => kernel_rfl)) (fun _ _ _ h => h) (Or.inl ⟨by rfl, ?_⟩) ?_ ?_
  rotate_left
  · intro w'
    go_simp
    with_reducible rfl
  rotate_left
  · simp only [Act.put, List.setIfInBounds_toArray, List.set_cons_zero, List.set_cons_succ, i64_w, i32_w]
    rfl
  refine pure_ (i := 20) (N := some 25) (v := ?_) (a' := ?_) (bm 22 2097151) rfl rfl (any_of HT_.out (by as_aux_lemma => kernel_rfl)) (fun _ _ _ h => h) (Or.inl ⟨by rfl, ?_⟩) ?_ ?_
  rotate_left
  · intro w'
    go_simp
    with_reducible rfl
  rotate_left
  · simp only [Act.put, List.setIfInBounds_toArray, List.set_cons_zero, List.set_cons_succ, i64_w, i32_w]
    rfl
  refine pure_ (i := 21) (N := some 26) (v := ?_) (a' := ?_) (bm 22 4194303) rfl rfl (any_of HT_.out (by as_aux_lemma => kernel_rfl)) (fun _ _ _ h => h) (Or.inl ⟨by rfl, ?_⟩) ?_ ?_
  rotate_left
  · intro w'
    go_simp
    with_reducible rfl
  rotate_left
  · simp only [Act.put, List.setIfInBounds_toArray, List.set_cons_zero, List.set_cons_succ, i64_w, i32_w]
    rfl
  refine done_ (done_of HT_.out (by as_aux_lemma => kernel_rfl)) ?_
  have hb := hHeld.2.2.2.1.out
  have hU := hHeld.2.2.2.2.out
  obtain ⟨⟨q0, q1, q2, q3⟩, p0, p1, p2, p3⟩ := cells4 hb
  clear hHeld
  generalize World.drew w = wd at *
  have HS := Aside0.mk (fun (W : World) (hW : W = (wd.setCell ⟨g, 2, none⟩ (.bool true)).setCell ⟨g, 1, none⟩ (.int .i64 xs.length)) => (by
    subst hW
    exact ⟨h1, Nat.le_refl _, hx, A, c, blk_put (blk_put hb 2 _ rfl) 1 _ rfl, h3, H4.out.on ((hU.trans ((Upd.set _ _ _ _).trans (Upd.set _ _ _ _))).kept.mono (fun k hk => .inr (by omega)))⟩ : RAt hi W g xs xs.length true e))
  have HU := Aside0.mk (hU.trans ((Upd.set wd g 2 (.bool true)).trans (Upd.set _ g 1 (.int .i64 xs.length))))
  clear hb hU
  go_wp2_with (go_at_call 30; refine (FIN.out _ ?hw).mono ?_; (case hw => exact HS.out _ rfl); rintro en w2 ⟨rfl, b1, b2⟩; have N1 := Aside0.mk b1; have N2 := Aside0.mk b2; clear b1 b2)
  go_ret
  exact ⟨rfl, N1.out, HU.out.trans N2.out⟩
theorem bytes_ok (hi g : Nat) (xs : List Int) (n : Nat) (e : Int) (m : Nat) (w : World) (h : RAt hi w g xs n false e) (hm : m ≤ xs.length - n) :
    Calls Try.prog 31 #[.pointer (some ⟨g, 0, none⟩), .int .i64 m] w fun en w' => ∃ A' c', en = .returned (.slice A' ((xs.drop n).take m).length c') ∧ ((xs.drop n).take m).length ≤ c' ∧ Row 0 hi w' A' ((xs.drop n).take m) ∧ RAt hi w' g xs (n + m) false e ∧ Upd g w w' := by
  obtain ⟨h1, hn, hx, A, c, h2, h3, h4⟩ := h
  obtain ⟨⟨k0, k1, k2, k3⟩, f0, f1, f2, f3⟩ := cells4 h2
  have H2 := Aside0.mk h2
  have H4 := Aside0.mk h4
  clear h2 h4
  have hu1 := Try.underlying57
  have c1 : wrap64 ((xs.length : Int) - (n : Int)) = (xs.length : Int) - (n : Int) := wrap64_id (by omega) (by omega)
  have d1 : decide ((m : Int) < 0) = false := decide_eq_false (by omega)
  have d2 : decide ((m : Int) > (xs.length : Int) - (n : Int)) = false := decide_eq_false (by omega)
  have d3 : decide ((xs.length : Int) - (n : Int) < (m : Int)) = false := decide_eq_false (by omega)
  have c2 : wrap64 ((n : Int) + (m : Int)) = (n : Int) + (m : Int) := wrap64_id (by omega) (by omega)
  have c3 : wrap64 ((n : Int) + (m : Int) - (m : Int)) = (n : Int) := by rw [wrap64_id (by omega) (by omega)]; omega
  have c5 : wrap64 (n : Int) = (n : Int) := wrap64_id (by omega) (by omega)
  have c4 : (n : Int) + (m : Int) - (m : Int) = (n : Int) := by omega
  clear c3
  obtain ⟨i, hi1, hi2⟩ := u8_info
  have cut := cut_mid 22 5 .i64 .i64 Try.underlying22 hi1 1 hi2 A xs.length c (n : Int) ((n : Int) + (m : Int)) (by omega) (by omega) (by omega) h3
  have hl : ((xs.drop n).take m).length = m := by rw [List.length_take, List.length_drop]; omega
  have hZt : ((n : Int) + (m : Int)).toNat = n + m := by omega
  have hZm : n + m - n = m := by omega
  rw [hZt, Int.toNat_natCast, hZm] at cut
  obtain ⟨A2, hA2⟩ : ∃ A2, A2 = if c = n then A else A.map fun x => x.add (n * 1) := ⟨_, rfl⟩
  rw [← hA2] at cut
  have HR : ∀ W', Kept w W' (fun k => k < 0 ∨ hi ≤ k) → Kd.C (Kd.int .u8) W' A2 ((xs.drop n).take m).length ((xs.drop n).take m) := fun W' hk => Kd.C_take (by have := Kd.C_drop (H4.out W' hk) hn h3; rw [hA2]; exact this) (by rw [List.length_drop]; omega)
  have HRR := Aside0.mk HR
  have hcn : m ≤ c - n := by omega
  clear HR hA2 hi1 hZm hZt
  rw [hl]
  go_enter Try.func31, Try.ntmps31
  go_wp2
  refine start_ (n := 22) (S := fun w' => w'.cell? ⟨g, 0, none⟩ = some (.slice A xs.length c) ∧ w'.cell? ⟨g, 1, none⟩ = some (.int .i64 n) ∧ w'.cell? ⟨g, 2, none⟩ = some (.bool false) ∧ Aside0 (w'.heap[g]? = some (.cells #[.slice A xs.length c, .int .i64 n, .bool false, .int .i64 e] 57 (0, 0))) ∧ Aside0 (Upd g w w')) (ds := []) (bm 22 0) (by as_aux_lemma => kernel_rfl) rfl (by as_aux_lemma => kernel_rfl) ⟨k0, k1, k2, (Aside0.mk H2.out), (Aside0.mk ⟨rfl, rfl, rfl, (Kept.refl _ _).drew⟩)⟩ (fun hHeld => ?_)
  refine with_tabW rbytes.tab1 rbytes.bits1 (fun HT_ HW_ => ?_)
  refine pure_ (i := 0) (N := some 5) (v := ?_) (a' := ?_) (bm 22 1) rfl rfl (any_of HT_.out (by as_aux_lemma => kernel_rfl)) (fun _ _ _ h => h) (Or.inl ⟨by rfl, ?_⟩) ?_ ?_
  rotate_left
  · intro w'
    go_simp
    with_reducible rfl
  rotate_left
  · simp only [Act.put, List.setIfInBounds_toArray, List.set_cons_zero, List.set_cons_succ, i64_w, i32_w]
    rfl
  refine pure_ (i := 1) (N := some 6) (v := ?_) (a' := ?_) (bm 22 3) rfl rfl (any_of HT_.out (by as_aux_lemma => kernel_rfl)) (fun _ _ _ h => h) (Or.inl ⟨by rfl, ?_⟩) ?_ ?_
  rotate_left
  · intro w'
    go_simp
    with_reducible rfl
  rotate_left
  · simp only [Act.put, List.setIfInBounds_toArray, List.set_cons_zero, List.set_cons_succ, i64_w, i32_w]
    rfl
  refine pure_ (i := 2) (N := some 7) (v := ?_) (a' := ?_) (bm 22 7) rfl rfl (any_of HT_.out (by as_aux_lemma => kernel_rfl)) (fun _ _ _ h => h) (Or.inl ⟨by rfl, ?_⟩) ?_ ?_
  rotate_left
  · intro w'
    go_simp
    with_reducible rfl
  rotate_left
  · simp only [Act.put, List.setIfInBounds_toArray, List.set_cons_zero, List.set_cons_succ, i64_w, i32_w]
    rfl
  refine take_ (i := 3) (N := some 8) (v := ?_) (a' := ?_) (bm 22 15) rfl rfl (take_ofW HT_.out HW_.out (by as_aux_lemma => kernel_rfl)) (fun _ _ _ h => h) (Or.inl ⟨by rfl, ?_⟩) hHeld ?_ ?_
  rotate_left
  · rintro w' ⟨s0, s1, s2, s3, s4⟩
    go_simp
    with_reducible rfl
  rotate_left
  · simp only [Act.put, List.setIfInBounds_toArray, List.set_cons_zero, List.set_cons_succ, i64_w, i32_w]
    rfl
  refine pure_ (i := 4) (N := some 9) (v := ?_) (a' := ?_) (bm 22 31) rfl rfl (any_of HT_.out (by as_aux_lemma => kernel_rfl)) (fun _ _ _ h => h) (Or.inl ⟨by rfl, ?_⟩) ?_ ?_
  rotate_left
  · intro w'
    go_simp
    with_reducible rfl
  rotate_left
  · simp only [Act.put, List.setIfInBounds_toArray, List.set_cons_zero, List.set_cons_succ, i64_w, i32_w]
    rfl
  refine pure_ (i := 5) (N := some 10) (v := ?_) (a' := ?_) (bm 22 63) rfl rfl (any_of HT_.out (by as_aux_lemma => kernel_rfl)) (fun _ _ _ h => h) (Or.inl ⟨by rfl, ?_⟩) ?_ ?_
  rotate_left
  · intro w'
    go_simp
    with_reducible rfl
  rotate_left
  · simp only [Act.put, List.setIfInBounds_toArray, List.set_cons_zero, List.set_cons_succ, i64_w, i32_w]
    rfl
  refine pure_ (i := 6) (N := some 11) (v := ?_) (a' := ?_) (bm 22 127) rfl rfl (any_of HT_.out (by as_aux_lemma => kernel_rfl)) (fun _ _ _ h => h) (Or.inl ⟨by rfl, ?_⟩) ?_ ?_
  rotate_left
  · intro w'
    go_simp
    with_reducible rfl
  rotate_left
  · simp only [Act.put, List.setIfInBounds_toArray, List.set_cons_zero, List.set_cons_succ, i64_w, i32_w]
    rfl
  refine pure_ (i := 7) (N := some 12) (v := ?_) (a' := ?_) (bm 22 255) rfl rfl (any_of HT_.out (by as_aux_lemma => kernel_rfl)) (fun _ _ _ h => h) (Or.inl ⟨by rfl, ?_⟩) ?_ ?_
  rotate_left
  · intro w'
    go_simp
    with_reducible rfl
  rotate_left
  · simp only [Act.put, List.setIfInBounds_toArray, List.set_cons_zero, List.set_cons_succ, i64_w, i32_w]
    rfl
  refine pure_ (i := 8) (N := some 13) (v := ?_) (a' := ?_) (bm 22 511) rfl rfl (any_of HT_.out (by as_aux_lemma => kernel_rfl)) (fun _ _ _ h => h) (Or.inl ⟨by rfl, ?_⟩) ?_ ?_
  rotate_left
  · intro w'
    go_simp
    with_reducible rfl
  rotate_left
  · simp only [Act.put, List.setIfInBounds_toArray, List.set_cons_zero, List.set_cons_succ, i64_w, i32_w]
    rfl
  refine pure_ (i := 9) (N := some 14) (v := ?_) (a' := ?_) (bm 22 1023) rfl rfl (any_of HT_.out (by as_aux_lemma => kernel_rfl)) (fun _ _ _ h => h) (Or.inl ⟨by rfl, ?_⟩) ?_ ?_
  rotate_left
  · intro w'
    go_simp
    with_reducible rfl
  rotate_left
  · simp only [Act.put, List.setIfInBounds_toArray, List.set_cons_zero, List.set_cons_succ, i64_w, i32_w]
    rfl
  refine pure_ (i := 10) (N := some 15) (v := ?_) (a' := ?_) (bm 22 2047) rfl rfl (any_of HT_.out (by as_aux_lemma => kernel_rfl)) (fun _ _ _ h => h) (Or.inl ⟨by rfl, ?_⟩) ?_ ?_
  rotate_left
  · intro w'
    go_simp
    with_reducible rfl
  rotate_left
  · simp only [Act.put, List.setIfInBounds_toArray, List.set_cons_zero, List.set_cons_succ, i64_w, i32_w]
    rfl
  refine pure_ (i := 11) (N := some 16) (v := ?_) (a' := ?_) (bm 22 4095) rfl rfl (any_of HT_.out (by as_aux_lemma => kernel_rfl)) (fun _ _ _ h => h) (Or.inl ⟨by rfl, ?_⟩) ?_ ?_
  rotate_left
  · intro w'
    go_simp
    with_reducible rfl
  rotate_left
  · simp only [Act.put, List.setIfInBounds_toArray, List.set_cons_zero, List.set_cons_succ, i64_w, i32_w]
    rfl
  refine pure_ (i := 12) (N := some 17) (v := ?_) (a' := ?_) (bm 22 8191) rfl rfl (any_of HT_.out (by as_aux_lemma => kernel_rfl)) (fun _ _ _ h => h) (Or.inl ⟨by rfl, ?_⟩) ?_ ?_
  rotate_left
  · intro w'
    go_simp
    with_reducible rfl
  rotate_left
  · simp only [Act.put, List.setIfInBounds_toArray, List.set_cons_zero, List.set_cons_succ, i64_w, i32_w]
    rfl
  refine pure_ (i := 15) (N := some 20) (v := ?_) (a' := ?_) (bm 22 40959) rfl rfl (any_of HT_.out (by as_aux_lemma => kernel_rfl)) (fun _ _ _ h => h) (Or.inl ⟨by rfl, ?_⟩) ?_ ?_
  rotate_left
  · intro w'
    go_simp
    with_reducible rfl
  rotate_left
  · simp only [Act.put, List.setIfInBounds_toArray, List.set_cons_zero, List.set_cons_succ, i64_w, i32_w]
    rfl
  refine pure_ (i := 16) (N := some 21) (v := ?_) (a' := ?_) (bm 22 106495) rfl rfl (any_of HT_.out (by as_aux_lemma => kernel_rfl)) (fun _ _ _ h => h) (Or.inl ⟨by rfl, ?_⟩) ?_ ?_
  rotate_left
  · intro w'
    go_simp
    with_reducible rfl
  rotate_left
  · simp only [Act.put, List.setIfInBounds_toArray, List.set_cons_zero, List.set_cons_succ, i64_w, i32_w]
    rfl
  refine pure_ (i := 17) (N := some 22) (v := ?_) (a' := ?_) (bm 22 237567) rfl rfl (any_of HT_.out (by as_aux_lemma => kernel_rfl)) (fun _ _ _ h => h) (Or.inl ⟨by rfl, ?_⟩) ?_ ?_
  rotate_left
  · intro w'
    go_simp
    with_reducible rfl
  rotate_left
  · simp only [Act.put, List.setIfInBounds_toArray, List.set_cons_zero, List.set_cons_succ, i64_w, i32_w]
    rfl
  refine take_ (i := 13) (N := some 18) (v := ?_) (a' := ?_) (bm 22 245759) rfl rfl (take_ofW HT_.out HW_.out (by as_aux_lemma => kernel_rfl)) (fun _ _ _ h => h) (Or.inl ⟨by rfl, ?_⟩) hHeld ?_ ?_
  rotate_left
  · rintro w' ⟨s0, s1, s2, s3, s4⟩
    go_simp
    with_reducible rfl
  rotate_left
  · simp only [Act.put, List.setIfInBounds_toArray, List.set_cons_zero, List.set_cons_succ, i64_w, i32_w]
    rfl
  refine pure_ (i := 14) (N := some 19) (v := ?_) (a' := ?_) (bm 22 262143) rfl rfl (any_of HT_.out (by as_aux_lemma => kernel_rfl)) (fun _ _ _ h => h) (Or.inl ⟨by rfl, ?_⟩) ?_ ?_
  rotate_left
  · intro w'
    go_simp
    with_reducible rfl
  rotate_left
  · simp only [Act.put, List.setIfInBounds_toArray, List.set_cons_zero, List.set_cons_succ, i64_w, i32_w]
    rfl
  refine take_ (i := 18) (N := some 23) (v := ?_) (a' := ?_) (bm 22 524287) rfl rfl (take_ofW HT_.out HW_.out (by as_aux_lemma => kernel_rfl)) (fun _ _ _ h => h) (Or.inl ⟨by rfl, ?_⟩) hHeld ?_ ?_
  rotate_left
  · rintro w' ⟨s0, s1, s2, s3, s4⟩
    go_simp
    with_reducible rfl
  rotate_left
  · simp only [Act.put, List.setIfInBounds_toArray, List.set_cons_zero, List.set_cons_succ, i64_w, i32_w]
    rfl
  refine pure_ (i := 19) (N := some 24) (v := ?_) (a' := ?_) (bm 22 1048575) rfl rfl (any_of HT_.out (by as_aux_lemma => kernel_rfl)) (fun _ _ _ h => h) (Or.inl ⟨by rfl, ?_⟩) ?_ ?_
  rotate_left
  · intro w'
    go_simp
    with_reducible rfl
  rotate_left
  · simp only [Act.put, List.setIfInBounds_toArray, List.set_cons_zero, List.set_cons_succ, i64_w, i32_w]
    rfl
  refine pure_ (i := 20) (N := some 25) (v := ?_) (a' := ?_) (bm 22 2097151) rfl rfl (any_of HT_.out (by as_aux_lemma => kernel_rfl)) (fun _ _ _ h => h) (Or.inl ⟨by rfl, ?_⟩) ?_ ?_
  rotate_left
  · intro w'
    go_simp
    with_reducible rfl
  rotate_left
  · simp only [Act.put, List.setIfInBounds_toArray, List.set_cons_zero, List.set_cons_succ, i64_w, i32_w]
    rfl
  refine pure_ (i := 21) (N := some 26) (v := ?_) (a' := ?_) (bm 22 4194303) rfl rfl (any_of HT_.out (by as_aux_lemma => kernel_rfl)) (fun _ _ _ h => h) (Or.inl ⟨by rfl, ?_⟩) ?_ ?_
  rotate_left
  · intro w'
    go_simp
    with_reducible rfl
  rotate_left
  · simp only [Act.put, List.setIfInBounds_toArray, List.set_cons_zero, List.set_cons_succ, i64_w, i32_w]
    rfl
  refine done_ (done_of HT_.out (by as_aux_lemma => kernel_rfl)) ?_
  have hb := hHeld.2.2.2.1.out
  have hU := hHeld.2.2.2.2.out
  obtain ⟨⟨q0, q1, q2, q3⟩, p0, p1, p2, p3⟩ := cells4 hb
  clear hHeld
  clear hb hU
  go_wp2
  have hb2 : (w.setCell ⟨g, 1, none⟩ (.int .i64 ((n : Int) + (m : Int)))).heap[g]? = some (.cells #[.slice A xs.length c, .int .i64 ((n : Int) + (m : Int)), .bool false, .int .i64 e] 57 (0, 0)) := blk_put H2.out 1 _ rfl
  have hU2 := Upd.set w g 1 (.int .i64 ((n : Int) + (m : Int)))
  obtain ⟨⟨r0, r1, r2, r3⟩, _⟩ := cells4 hb2
  refine start_ (n := 16) (S := fun w' => w'.cell? ⟨g, 0, none⟩ = some (.slice A xs.length c) ∧ w'.cell? ⟨g, 1, none⟩ = some (.int .i64 ((n : Int) + (m : Int))) ∧ w'.cell? ⟨g, 2, none⟩ = some (.bool false) ∧ Aside0 (w'.heap[g]? = some (.cells #[.slice A xs.length c, .int .i64 ((n : Int) + (m : Int)), .bool false, .int .i64 e] 57 (0, 0))) ∧ Aside0 (Upd g w w')) (ds := []) (bm 16 0) (by as_aux_lemma => kernel_rfl) rfl (by as_aux_lemma => kernel_rfl) ⟨r0, r1, r2, (Aside0.mk hb2), (Aside0.mk ⟨hU2.os, hU2.tape, hU2.output, hU2.kept⟩)⟩ (fun hHeld => ?_)
  refine with_tabW rbytes.tab7 rbytes.bits7 (fun HT_ HW_ => ?_)
  refine pure_ (i := 0) (N := some 49) (v := ?_) (a' := ?_) (bm 16 1) rfl rfl (any_of HT_.out (by as_aux_lemma => kernel_rfl)) (fun _ _ _ h => h) (Or.inl ⟨by rfl, ?_⟩) ?_ ?_
  rotate_left
  · intro w'
    go_simp
    with_reducible rfl
  rotate_left
  · simp only [Act.put, List.setIfInBounds_toArray, List.set_cons_zero, List.set_cons_succ, i64_w, i32_w]
    rfl
  refine pure_ (i := 1) (N := some 50) (v := ?_) (a' := ?_) (bm 16 3) rfl rfl (any_of HT_.out (by as_aux_lemma => kernel_rfl)) (fun _ _ _ h => h) (Or.inl ⟨by rfl, ?_⟩) ?_ ?_
  rotate_left
  · intro w'
    go_simp
    with_reducible rfl
  rotate_left
  · simp only [Act.put, List.setIfInBounds_toArray, List.set_cons_zero, List.set_cons_succ, i64_w, i32_w]
    rfl
  refine pure_ (i := 2) (N := some 51) (v := ?_) (a' := ?_) (bm 16 7) rfl rfl (any_of HT_.out (by as_aux_lemma => kernel_rfl)) (fun _ _ _ h => h) (Or.inl ⟨by rfl, ?_⟩) ?_ ?_
  rotate_left
  · intro w'
    go_simp
    with_reducible rfl
  rotate_left
  · simp only [Act.put, List.setIfInBounds_toArray, List.set_cons_zero, List.set_cons_succ, i64_w, i32_w]
    rfl
  refine pure_ (i := 4) (N := some 53) (v := ?_) (a' := ?_) (bm 16 23) rfl rfl (any_of HT_.out (by as_aux_lemma => kernel_rfl)) (fun _ _ _ h => h) (Or.inl ⟨by rfl, ?_⟩) ?_ ?_
  rotate_left
  · intro w'
    go_simp
    with_reducible rfl
  rotate_left
  · simp only [Act.put, List.setIfInBounds_toArray, List.set_cons_zero, List.set_cons_succ, i64_w, i32_w]
    rfl
  refine pure_ (i := 5) (N := some 54) (v := ?_) (a' := ?_) (bm 16 55) rfl rfl (any_of HT_.out (by as_aux_lemma => kernel_rfl)) (fun _ _ _ h => h) (Or.inl ⟨by rfl, ?_⟩) ?_ ?_
  rotate_left
  · intro w'
    go_simp
    with_reducible rfl
  rotate_left
  · simp only [Act.put, List.setIfInBounds_toArray, List.set_cons_zero, List.set_cons_succ, i64_w, i32_w]
    rfl
  refine pure_ (i := 6) (N := some 55) (v := ?_) (a' := ?_) (bm 16 119) rfl rfl (any_of HT_.out (by as_aux_lemma => kernel_rfl)) (fun _ _ _ h => h) (Or.inl ⟨by rfl, ?_⟩) ?_ ?_
  rotate_left
  · intro w'
    go_simp
    with_reducible rfl
  rotate_left
  · simp only [Act.put, List.setIfInBounds_toArray, List.set_cons_zero, List.set_cons_succ, i64_w, i32_w]
    rfl
  refine pure_ (i := 8) (N := some 57) (v := ?_) (a' := ?_) (bm 16 375) rfl rfl (any_of HT_.out (by as_aux_lemma => kernel_rfl)) (fun _ _ _ h => h) (Or.inl ⟨by rfl, ?_⟩) ?_ ?_
  rotate_left
  · intro w'
    go_simp
    with_reducible rfl
  rotate_left
  · simp only [Act.put, List.setIfInBounds_toArray, List.set_cons_zero, List.set_cons_succ, i64_w, i32_w]
    rfl
  refine pure_ (i := 10) (N := some 59) (v := ?_) (a' := ?_) (bm 16 1399) rfl rfl (any_of HT_.out (by as_aux_lemma => kernel_rfl)) (fun _ _ _ h => h) (Or.inl ⟨by rfl, ?_⟩) ?_ ?_
  rotate_left
  · intro w'
    go_simp
    with_reducible rfl
  rotate_left
  · simp only [Act.put, List.setIfInBounds_toArray, List.set_cons_zero, List.set_cons_succ, i64_w, i32_w]
    rfl
  refine pure_ (i := 11) (N := some 60) (v := ?_) (a' := ?_) (bm 16 3447) rfl rfl (any_of HT_.out (by as_aux_lemma => kernel_rfl)) (fun _ _ _ h => h) (Or.inl ⟨by rfl, ?_⟩) ?_ ?_
  rotate_left
  · intro w'
    go_simp
    with_reducible rfl
  rotate_left
  · simp only [Act.put, List.setIfInBounds_toArray, List.set_cons_zero, List.set_cons_succ, i64_w, i32_w]
    rfl
  refine pure_ (i := 12) (N := some 61) (v := ?_) (a' := ?_) (bm 16 7543) rfl rfl (any_of HT_.out (by as_aux_lemma => kernel_rfl)) (fun _ _ _ h => h) (Or.inl ⟨by rfl, ?_⟩) ?_ ?_
  rotate_left
  · intro w'
    go_simp
    with_reducible rfl
  rotate_left
  · simp only [Act.put, List.setIfInBounds_toArray, List.set_cons_zero, List.set_cons_succ, i64_w, i32_w]
    rfl
  refine take_ (i := 3) (N := some 52) (v := ?_) (a' := ?_) (bm 16 7551) rfl rfl (take_ofW HT_.out HW_.out (by as_aux_lemma => kernel_rfl)) (fun _ _ _ h => h) (Or.inl ⟨by rfl, ?_⟩) hHeld ?_ ?_
  rotate_left
  · rintro w' ⟨s0, s1, s2, s3, s4⟩
    go_simp
    with_reducible rfl
  rotate_left
  · simp only [Act.put, List.setIfInBounds_toArray, List.set_cons_zero, List.set_cons_succ, i64_w, i32_w]
    rfl
  refine take_ (i := 7) (N := some 56) (v := ?_) (a' := ?_) (bm 16 7679) rfl rfl (take_ofW HT_.out HW_.out (by as_aux_lemma => kernel_rfl)) (fun _ _ _ h => h) (Or.inl ⟨by rfl, ?_⟩) hHeld ?_ ?_
  rotate_left
  · rintro w' ⟨s0, s1, s2, s3, s4⟩
    go_simp
    with_reducible rfl
  rotate_left
  · simp only [Act.put, List.setIfInBounds_toArray, List.set_cons_zero, List.set_cons_succ, i64_w, i32_w]
    rfl
  refine pure_ (i := 9) (N := some 58) (v := ?_) (a' := ?_) (bm 16 8191) rfl rfl (any_of HT_.out (by as_aux_lemma => kernel_rfl)) (fun _ _ _ h => h) (Or.inl ⟨by rfl, ?_⟩) ?_ ?_
  rotate_left
  · intro w'
    go_simp
    with_reducible rfl
  rotate_left
  · simp only [Act.put, List.setIfInBounds_toArray, List.set_cons_zero, List.set_cons_succ, i64_w, i32_w]
    rfl
  refine take_ (i := 13) (N := some 62) (v := ?_) (a' := ?_) (bm 16 16383) rfl rfl (take_ofW HT_.out HW_.out (by as_aux_lemma => kernel_rfl)) (fun _ _ _ h => h) (Or.inl ⟨by rfl, ?_⟩) hHeld ?_ ?_
  rotate_left
  · rintro w' ⟨s0, s1, s2, s3, s4⟩
    go_simp
    with_reducible rfl
  rotate_left
  · simp only [Act.put, List.setIfInBounds_toArray, List.set_cons_zero, List.set_cons_succ, i64_w, i32_w]
    rfl
  refine pure_ (i := 14) (N := some 63) (v := ?_) (a' := ?_) (bm 16 32767) rfl rfl (any_of HT_.out (by as_aux_lemma => kernel_rfl)) (fun _ _ _ h => h) (Or.inl ⟨by rfl, ?_⟩) ?_ ?_
  rotate_left
  · intro w'
    go_simp
    with_reducible rfl
  rotate_left
  · simp only [Act.put, List.setIfInBounds_toArray, List.set_cons_zero, List.set_cons_succ, i64_w, i32_w]
    rfl
  refine pure_ (i := 15) (N := some 4) (v := ?_) (a' := ?_) (bm 16 65535) rfl rfl (any_of HT_.out (by as_aux_lemma => kernel_rfl)) (fun _ _ _ h => h) (Or.inl ⟨by rfl, ?_⟩) ?_ ?_
  rotate_left
  · intro w'
    go_simp
    with_reducible rfl
  rotate_left
  · simp only [Act.put, List.setIfInBounds_toArray, List.set_cons_zero, List.set_cons_succ, i64_w, i32_w]
    rfl
  refine done_ (done_of HT_.out (by as_aux_lemma => kernel_rfl)) ?_
  go_wp2
  go_ret
  have hK := hHeld.2.2.2.2.out
  refine ⟨A2, c - n, rfl, hcn, fun W' hk => HRR.out W' ((hK.kept.mono (fun k hk => .inr (by omega))).then_ hk (fun _ h2 => .inl h2)), ⟨h1, by omega, hx, A, c, ?_, h3, H4.out.on (hK.kept.mono (fun k hk => .inr (by omega)))⟩, hK⟩
  rw [Int.natCast_add]
  exact hHeld.2.2.2.1.out
end Go.Proofs.Ytggiobdjepgkfaa.RCur
end
section
namespace Go.Proofs.Ytggiobdjepgkfaa.RCur
open Go.RowKit Go.Proofs.Ytggiobdjepgkfaa.P Go.Proofs.Ytggiobdjepgkfaa.E Go.Proofs.Ytggiobdjepgkfaa.Cur Go.Proofs.YtggiobdjepgkfaaW.PrintWords Go.Proofs.YtggiobdjepgkfaaW.PrintLast Go.Proofs.YtggiobdjepgkfaaW.PrintMore
theorem bytes_short (hi g : Nat) (xs : List Int) (n : Nat) (s : Bool) (e m : Int) (w : World) (h : RAt hi w g xs n s e) (hm : s = true ∨ m < 0 ∨ (xs.length : Int) - n < m) :
    Calls Try.prog 31 #[.pointer (some ⟨g, 0, none⟩), .int .i64 m] w fun en w' => en = .returned (.slice none 0 0) ∧ RAt hi w' g xs xs.length true (fstE e 2) ∧ Upd g w w' := by
  cases s with
  | true => exact bytes_s hi g xs n e m w h
  | false =>
    by_cases c1 : m < 0
    · exact bytes_neg hi g xs n e m w h c1
    · exact bytes_over hi g xs n e m w h c1 (by rcases hm with h | h | h; cases h; exact absurd h c1; exact h)
theorem byte_ok (hi g : Nat) (xs : List Int) (n : Nat) (e : Int) (w : World) (h : RAt hi w g xs n false e) (hn : n < xs.length) :
    Calls Try.prog 29 #[.pointer (some ⟨g, 0, none⟩)] w fun en w' => en = .returned (.int .u8 (xs.getD n 0)) ∧ RAt hi w' g xs (n + 1) false e ∧ Upd g w w' := by
  have hL : (xs.drop n).take 1 = [xs.getD n 0] := by rw [drop_cons hn 0]; rfl
  have hB := bytes_ok hi g xs n e 1 w h (by omega)
  rw [hL] at hB
  have HB := Aside0.mk hB
  clear h hB hL
  generalize xs.getD n 0 = x at HB ⊢
  go_enter Try.func29, Try.ntmps29
  go_wp2_with (go_at_call 31; refine HB.out.mono ?_; rintro en w1 ⟨A', c', rfl, b1, b2, b3, b4⟩; obtain ⟨ad, rfl, q0⟩ := at_row b2 0 (by simp); rw [Addr.add_zero'] at q0; have q1 : w1.cell? ad = some (.int .u8 x) := q0; have N3 := Aside0.mk b3; have N4 := Aside0.mk b4; clear b1 b2 b3 b4 HB q0)
  go_ret
  exact ⟨rfl, N3.out, N4.out⟩
theorem byte_short (hi g : Nat) (xs : List Int) (n : Nat) (s : Bool) (e : Int) (w : World) (h : RAt hi w g xs n s e) (hs : s = true ∨ xs.length ≤ n) :
    Calls Try.prog 29 #[.pointer (some ⟨g, 0, none⟩)] w fun en w' => en = .returned (.int .u8 0) ∧ RAt hi w' g xs xs.length true (fstE e 2) ∧ Upd g w w' := by
  have HB := Aside0.mk (bytes_short hi g xs n s e 1 w h (by rcases hs with h | h; exact .inl h; exact .inr (.inr (by omega))))
  clear h
  go_enter Try.func29, Try.ntmps29
  go_wp2_with (go_at_call 31; refine HB.out.mono ?_; rintro en w1 ⟨rfl, b3, b4⟩; have N3 := Aside0.mk b3; have N4 := Aside0.mk b4; clear b3 b4 HB)
  go_ret
  exact ⟨rfl, N3.out, N4.out⟩
end Go.Proofs.Ytggiobdjepgkfaa.RCur
end
section
namespace Go.Proofs.Ytggiobdjepgkfaa.Cu
open Go.RowKit Go.Proofs.Ytggiobdjepgkfaa.E Go.Proofs.Ytggiobdjepgkfaa.Cur Go.Proofs.Ytggiobdjepgkfaa.RCur Go.Proofs.YtggiobdjepgkfaaW.PrintWords Go.Proofs.YtggiobdjepgkfaaW.PrintLast Go.Proofs.YtggiobdjepgkfaaW.PrintMore
structure Cu where
  xs : List Int
  s : Bool
  e : Int
def Cu.good (c : Cu) : Prop := isBytes c.xs ∧ c.xs.length ≤ 1000000 ∧ (c.s = true → c.xs = [])
def Cu.fail (c : Cu) : Cu := ⟨[], true, fstE c.e 2⟩
def Cu.okB (c : Cu) (n : Int) : Bool := !c.s && decide (0 ≤ n) && decide (n ≤ (c.xs.length : Int))
def Cu.bytesV (c : Cu) (n : Int) : List Int := if c.okB n = true then c.xs.take n.toNat else []
def Cu.bytesS (c : Cu) (n : Int) : Cu := if c.okB n = true then ⟨c.xs.drop n.toNat, c.s, c.e⟩ else c.fail
def Cu.byteV (c : Cu) : Int := (c.bytesV 1).headD 0
def Cu.byteS (c : Cu) : Cu := c.bytesS 1
def Cu.need (c : Cu) (ok : Bool) (f : Int) : Cu := ⟨c.xs, c.s, if c.e = 0 ∧ ok = false then f else c.e⟩
def Cu.fin (c : Cu) : Cu := c.need (decide (c.xs = [])) 3
theorem Cu.good_fail (c : Cu) : c.fail.good := by
  refine ⟨?_, ?_, ?_⟩
  · intro x h; cases h
  · simp [Cu.fail]
  · intro _; rfl
theorem Cu.good_need {c : Cu} (h : c.good) (ok : Bool) (f : Int) : (c.need ok f).good := h
theorem Cu.okB_iff (c : Cu) (n : Int) : c.okB n = true ↔ c.s = false ∧ 0 ≤ n ∧ n ≤ (c.xs.length : Int) := by
  simp [Cu.okB, and_assoc]
theorem Cu.good_bytesS {c : Cu} (h : c.good) (n : Int) : (c.bytesS n).good := by
  unfold Cu.bytesS
  split
  · rename_i hk
    refine ⟨isBytes_drop h.1 _, by have := h.2.1; simp only [List.length_drop]; omega, fun hs => ?_⟩
    rw [((Cu.okB_iff c n).1 hk).1] at hs
    cases hs
  · exact Cu.good_fail c
theorem Cu.good_byteS {c : Cu} (h : c.good) : c.byteS.good := Cu.good_bytesS h 1
theorem Cu.bytes_bytesV {c : Cu} (h : c.good) (n : Int) : isBytes (c.bytesV n) := by
  unfold Cu.bytesV
  split
  · exact isBytes_take h.1 _
  · exact fun x h => by cases h
theorem Cu.byteV_bd {c : Cu} (h : c.good) : 0 ≤ c.byteV ∧ c.byteV < 256 := by
  have := Cu.bytes_bytesV h 1
  unfold Cu.byteV
  cases hv : c.bytesV 1 with
  | nil => simp
  | cons x l => rw [hv] at this; exact this x List.mem_cons_self
theorem Cu.not_okB {c : Cu} {n : Int} (h : ¬ c.okB n = true) : c.s = true ∨ n < 0 ∨ (c.xs.length : Int) < n := by
  rw [Cu.okB_iff] at h
  cases hs : c.s with
  | true => exact .inl rfl
  | false => exact .inr (by have : ¬ (0 ≤ n ∧ n ≤ (c.xs.length : Int)) := fun hh => h ⟨hs, hh.1, hh.2⟩; omega)
def PAt (lo hi : Nat) (w : World) (g : Nat) (c : Cu) : Prop := At lo hi w g c.xs c.s c.e ∧ c.good
theorem PAt.on {lo hi : Nat} {w w' : World} {g : Nat} {c : Cu} {S : Nat → Prop} (h : PAt lo hi w g c) (hk : Kept w w' S) (h1 : ∀ k, S k → k < lo ∨ hi ≤ k) (h2 : ¬ S g) : PAt lo hi w' g c := ⟨h.1.on hk h1 h2, h.2⟩
theorem PAt.below {lo hi : Nat} {w w' : World} {g : Nat} {c : Cu} (h : PAt lo hi w g c) (hb : Below w.heap.size w w') : PAt lo hi w' g c := ⟨h.1.below hb, h.2⟩
theorem p_new (A : Option Addr) (c : Nat) (l : List Int) (w : World) (hr : Kd.C (Kd.int .u8) w A l.length l) (hc : l.length ≤ c) (hs : l.length ≤ 1000000) (hb : isBytes l) :
    Calls Try.prog 20 #[.slice A l.length c] w fun e w' => ∃ g, e = .returned (.pointer (some ⟨g, 0, none⟩)) ∧ w.heap.size ≤ g ∧ PAt w.heap.size g w' g ⟨l, false, 0⟩ ∧ Below w.heap.size w w' ∧ w'.heap.size = g + 1 :=
  (new_any A c l w hr hc hs).mono fun e w' ⟨g, h1, h2, h3, h4, h5⟩ => ⟨g, h1, h2, ⟨h3, hb, hs, fun h => by cases h⟩, h4, h5⟩
theorem p_bytes {lo hi g : Nat} {c : Cu} {w : World} (h : PAt lo hi w g c) (n : Int) :
    Calls Try.prog 45 #[.pointer (some ⟨g, 0, none⟩), .int .i64 n] w fun en w' => ∃ A' c', en = .returned (.slice A' (c.bytesV n).length c') ∧ (c.bytesV n).length ≤ c' ∧ Row w.heap.size w'.heap.size w' A' (c.bytesV n) ∧ PAt lo hi w' g (c.bytesS n) ∧ Upd g w w' := by
  have hg := Cu.good_bytesS h.2 n
  unfold Cu.bytesV PAt
  unfold Cu.bytesS at hg ⊢
  by_cases hk : c.okB n = true
  · rw [if_pos hk] at hg ⊢
    rw [if_pos hk]
    obtain ⟨h1, h2, h3⟩ := (Cu.okB_iff c n).1 hk
    obtain ⟨m, rfl⟩ := Int.eq_ofNat_of_zero_le h2
    have ha := h.1
    rw [h1] at ha
    refine (bytes_ok lo hi g c.xs c.e m w ha (by omega) h.2.2.1).mono ?_
    rintro en w' ⟨A', c', rfl, b1, b2, b3, b4⟩
    refine ⟨A', c', rfl, b1, b2, ⟨?_, hg⟩, b4⟩
    show At lo hi w' g _ c.s c.e
    rw [h1]
    exact b3
  · rw [if_neg hk] at hg ⊢
    rw [if_neg hk]
    refine (Cur.bytes_short lo hi g c.xs c.s c.e n w h.1 (Cu.not_okB hk)).mono ?_
    rintro en w' ⟨rfl, b3, b4⟩
    exact ⟨none, 0, rfl, Nat.le_refl _, Row.nil _ _ _, ⟨b3, hg⟩, b4⟩
theorem one_of {c : Cu} (h : c.okB 1 = true) : ∃ x l, c.xs = x :: l := by
  obtain ⟨_, _, h3⟩ := (Cu.okB_iff c 1).1 h
  cases hx : c.xs with
  | nil => rw [hx] at h3; simp at h3
  | cons x l => exact ⟨x, l, rfl⟩
theorem p_byte {lo hi g : Nat} {c : Cu} {w : World} (h : PAt lo hi w g c) :
    Calls Try.prog 43 #[.pointer (some ⟨g, 0, none⟩)] w fun en w' => en = .returned (.int .u8 c.byteV) ∧ PAt lo hi w' g c.byteS ∧ Upd g w w' := by
  have hg := Cu.good_byteS h.2
  unfold Cu.byteV Cu.bytesV PAt
  unfold Cu.byteS Cu.bytesS at hg ⊢
  by_cases hk : c.okB 1 = true
  · rw [if_pos hk] at hg ⊢
    rw [if_pos hk]
    obtain ⟨x, l, hx⟩ := one_of hk
    have h1 := ((Cu.okB_iff c 1).1 hk).1
    have ha := h.1
    have hl := h.2.2.1
    rw [h1, hx] at ha
    rw [hx] at hl
    refine (byte_ok lo hi g x l c.e w ha hl).mono ?_
    rintro en w' ⟨rfl, b3, b4⟩
    refine ⟨by rw [hx]; rfl, ⟨?_, hg⟩, b4⟩
    show At lo hi w' g (c.xs.drop 1) c.s c.e
    rw [h1, hx]
    exact b3
  · rw [if_neg hk] at hg ⊢
    rw [if_neg hk]
    refine (byte_short lo hi g c.xs c.s c.e w h.1 ?_).mono ?_
    · rcases Cu.not_okB hk with h | h | h
      · exact .inl h
      · omega
      · exact .inr (List.eq_nil_of_length_eq_zero (by omega))
    rintro en w' ⟨rfl, b3, b4⟩
    exact ⟨rfl, ⟨b3, hg⟩, b4⟩
theorem p_need {lo hi g : Nat} {c : Cu} {w : World} (h : PAt lo hi w g c) (ok : Bool) (f : Int) :
    Calls Try.prog 44 #[.pointer (some ⟨g, 0, none⟩), .bool ok, .int .i64 f] w fun en w' => en = .returned (.tuple #[]) ∧ PAt lo hi w' g (c.need ok f) ∧ Upd g w w' :=
  (Cur.need_any lo hi g c.xs c.s c.e ok f w h.1).mono fun en w' ⟨h1, h2, h3⟩ => ⟨h1, ⟨h2, h.2⟩, h3⟩
theorem p_err {lo hi g : Nat} {c : Cu} {w : World} (h : PAt lo hi w g c) :
    Calls Try.prog 27 #[.pointer (some ⟨g, 0, none⟩)] w fun en w' => en = .returned (.int .i64 c.e) ∧ w' = w := Cur.err_any lo hi g c.xs c.s c.e w h.1
theorem fin_eq (c : Cu) : c.fin = ⟨c.xs, c.s, if c.xs = [] then c.e else fstE c.e 3⟩ := by
  unfold Cu.fin Cu.need fstE
  by_cases hx : c.xs = [] <;> simp [hx]
theorem p_end {lo hi g : Nat} {c : Cu} {w : World} (h : PAt lo hi w g c) :
    Calls Try.prog 26 #[.pointer (some ⟨g, 0, none⟩)] w fun en w' => en = .returned (.tuple #[]) ∧ PAt lo hi w' g c.fin ∧ Upd g w w' := by
  have hg : c.fin.good := Cu.good_need h.2 _ _
  rw [fin_eq] at hg ⊢
  exact (Cur.end_any lo hi g c.xs c.s c.e w h.1).mono fun en w' ⟨h1, h2, h3⟩ => ⟨h1, ⟨h2, hg⟩, h3⟩
def QAt (hi : Nat) (w : World) (g : Nat) (c : Cu) : Prop := ∃ all n, RAt hi w g all n c.s c.e ∧ c.xs = all.drop n ∧ isBytes all ∧ (c.s = true → n = all.length)
def Cu.okW (c : Cu) (n : Int) : Bool := !c.s && decide (0 ≤ n) && decide (2 * n ≤ (c.xs.length : Int))
def Cu.wordsV (c : Cu) (n : Int) : List Int := if c.okW n = true then Take.words (c.xs.take (2 * n.toNat)) else []
def Cu.wordsS (c : Cu) (n : Int) : Cu := if c.okW n = true then ⟨c.xs.drop (2 * n.toNat), c.s, c.e⟩ else c.fail
theorem Cu.okW_iff (c : Cu) (n : Int) : c.okW n = true ↔ c.s = false ∧ 0 ≤ n ∧ 2 * n ≤ (c.xs.length : Int) := by
  simp [Cu.okW, and_assoc]
theorem Cu.good_wordsS {c : Cu} (h : c.good) (n : Int) : (c.wordsS n).good := by
  unfold Cu.wordsS
  split
  · rename_i hk
    refine ⟨isBytes_drop h.1 _, by have := h.2.1; simp only [List.length_drop]; omega, fun hs => ?_⟩
    rw [((Cu.okW_iff c n).1 hk).1] at hs
    cases hs
  · exact Cu.good_fail c
theorem Cu.not_okW {c : Cu} {n : Int} (h : ¬ c.okW n = true) : c.s = true ∨ n < 0 ∨ (c.xs.length : Int) < 2 * n := by
  rw [Cu.okW_iff] at h
  cases hs : c.s with
  | true => exact .inl rfl
  | false => exact .inr (by have : ¬ (0 ≤ n ∧ 2 * n ≤ (c.xs.length : Int)) := fun hh => h ⟨hs, hh.1, hh.2⟩; omega)
theorem Take.wordsBd {l : List Int} (h : isBytes l) : ∀ x ∈ Take.words l, 0 ≤ x ∧ x < 65536 := by
  unfold Take.words Take.pre
  split
  · intro x hx
    obtain ⟨j, _, rfl⟩ := List.mem_map.1 hx
    have h1 := isBytes_rd h (2 * j)
    have h2 := isBytes_rd h (2 * j + 1)
    unfold Take.wordAt
    omega
  · intro x hx
    cases hx
theorem Cu.wordsV_bd {c : Cu} (h : c.good) (n : Int) : ∀ x ∈ c.wordsV n, 0 ≤ x ∧ x < 65536 := by
  unfold Cu.wordsV
  split
  · exact Take.wordsBd (isBytes_take h.1 _)
  · intro x hx
    cases hx
def Cu.wordV (c : Cu) : Int := (c.wordsV 1).headD 0
def Cu.wordS (c : Cu) : Cu := c.wordsS 1
theorem Cu.good_wordS {c : Cu} (h : c.good) : c.wordS.good := Cu.good_wordsS h 1
theorem Cu.wordV_bd {c : Cu} (h : c.good) : 0 ≤ c.wordV ∧ c.wordV < 65536 := by
  have := Cu.wordsV_bd h 1
  unfold Cu.wordV
  cases hv : c.wordsV 1 with
  | nil => simp
  | cons x l => rw [hv] at this; exact this x List.mem_cons_self
theorem two_of {c : Cu} (h : c.okW 1 = true) : ∃ x y l, c.xs = x :: y :: l := by
  obtain ⟨_, _, h3⟩ := (Cu.okW_iff c 1).1 h
  match hx : c.xs with
  | [] => rw [hx] at h3; simp at h3
  | [x] => rw [hx] at h3; simp at h3
  | x :: y :: l => exact ⟨x, y, l, rfl⟩
theorem p_word {lo hi g : Nat} {c : Cu} {w : World} (h : PAt lo hi w g c) :
    Calls Try.prog 46 #[.pointer (some ⟨g, 0, none⟩)] w fun en w' => en = .returned (.int .u16 c.wordV) ∧ PAt lo hi w' g c.wordS ∧ Upd g w w' := by
  have hg := Cu.good_wordS h.2
  unfold Cu.wordV Cu.wordsV PAt
  unfold Cu.wordS Cu.wordsS at hg ⊢
  by_cases hk : c.okW 1 = true
  · rw [if_pos hk] at hg ⊢
    rw [if_pos hk]
    obtain ⟨x, y, l, hx⟩ := two_of hk
    have h1 := ((Cu.okW_iff c 1).1 hk).1
    have ha := h.1
    have hl := h.2.2.1
    have hbb := h.2.1
    rw [h1, hx] at ha
    rw [hx] at hl hbb
    refine (Cur.word_ok lo hi g x y l c.e w ha hl hbb).mono ?_
    rintro en w' ⟨rfl, b3, b4⟩
    refine ⟨by rw [hx, show (2 * (1 : Int).toNat) = 2 * 1 from rfl, words_two]; rfl, ⟨?_, hg⟩, b4⟩
    show At lo hi w' g (c.xs.drop 2) c.s c.e
    rw [h1, hx]
    exact b3
  · rw [if_neg hk] at hg ⊢
    rw [if_neg hk]
    refine (Cur.word_short lo hi g c.xs c.s c.e w h.1 h.2.2.1 ?_).mono ?_
    · rcases Cu.not_okW hk with h | h | h
      · exact .inl h
      · omega
      · exact .inr (by omega)
    rintro en w' ⟨rfl, b3, b4⟩
    exact ⟨rfl, ⟨b3, hg⟩, b4⟩
end Go.Proofs.Ytggiobdjepgkfaa.Cu
end
section
namespace Go.Proofs.Ytggiobdjepgkfaa.Same
open Go.RowKit Go.Proofs.Ytggiobdjepgkfaa.P Go.Proofs.Ytggiobdjepgkfaa.E Go.Proofs.YtggiobdjepgkfaaW.PrintWords Go.Proofs.YtggiobdjepgkfaaW.PrintLast Go.Proofs.YtggiobdjepgkfaaW.PrintMore
theorem good_code {m : Msg} (h : goodM m) {v : Int} (hv : 0 ≤ v ∧ v < 256) : goodM { m with code := v } := by
  obtain ⟨h1, h2⟩ := h
  refine ⟨?_, h2⟩
  simp only [okM, u8B, u16B, Bool.and_eq_true, decide_eq_true_eq] at h1 ⊢
  simp only [h1, hv, and_self, true_and]
theorem set_code {W : World} {cx : Array Value} {m : Msg} (h : IsMsg W cx m) {v : Int} (hv : 0 ≤ v ∧ v < 256) : IsMsg W (cx.setIfInBounds 0 (.int .u8 v)) { m with code := v } := by
  obtain ⟨A12, c12, A13, c13, A14, c14, A15, c15, A21, c21, rfl, ok, h12, h13, h14, h15, h21⟩ := h
  exact ⟨A12, c12, A13, c13, A14, c14, A15, c15, A21, c21, by simp, good_code ok hv, h12, h13, h14, h15, h21⟩
theorem good_addr {m : Msg} (h : goodM m) {v : Int} (hv : 0 ≤ v ∧ v < 65536) : goodM { m with addr := v } := by
  obtain ⟨h1, h2⟩ := h
  refine ⟨?_, h2⟩
  simp only [okM, u8B, u16B, Bool.and_eq_true, decide_eq_true_eq] at h1 ⊢
  simp only [h1, hv, and_self, true_and]
theorem set_addr {W : World} {cx : Array Value} {m : Msg} (h : IsMsg W cx m) {v : Int} (hv : 0 ≤ v ∧ v < 65536) : IsMsg W (cx.setIfInBounds 2 (.int .u16 v)) { m with addr := v } := by
  obtain ⟨A12, c12, A13, c13, A14, c14, A15, c15, A21, c21, rfl, ok, h12, h13, h14, h15, h21⟩ := h
  exact ⟨A12, c12, A13, c13, A14, c14, A15, c15, A21, c21, by simp, good_addr ok hv, h12, h13, h14, h15, h21⟩
theorem good_count {m : Msg} (h : goodM m) {v : Int} (hv : 0 ≤ v ∧ v < 65536) : goodM { m with count := v } := by
  obtain ⟨h1, h2⟩ := h
  refine ⟨?_, h2⟩
  simp only [okM, u8B, u16B, Bool.and_eq_true, decide_eq_true_eq] at h1 ⊢
  simp only [h1, hv, and_self, true_and]
theorem set_count {W : World} {cx : Array Value} {m : Msg} (h : IsMsg W cx m) {v : Int} (hv : 0 ≤ v ∧ v < 65536) : IsMsg W (cx.setIfInBounds 3 (.int .u16 v)) { m with count := v } := by
  obtain ⟨A12, c12, A13, c13, A14, c14, A15, c15, A21, c21, rfl, ok, h12, h13, h14, h15, h21⟩ := h
  exact ⟨A12, c12, A13, c13, A14, c14, A15, c15, A21, c21, by simp, good_count ok hv, h12, h13, h14, h15, h21⟩
theorem good_value {m : Msg} (h : goodM m) {v : Int} (hv : 0 ≤ v ∧ v < 65536) : goodM { m with value := v } := by
  obtain ⟨h1, h2⟩ := h
  refine ⟨?_, h2⟩
  simp only [okM, u8B, u16B, Bool.and_eq_true, decide_eq_true_eq] at h1 ⊢
  simp only [h1, hv, and_self, true_and]
theorem set_value {W : World} {cx : Array Value} {m : Msg} (h : IsMsg W cx m) {v : Int} (hv : 0 ≤ v ∧ v < 65536) : IsMsg W (cx.setIfInBounds 4 (.int .u16 v)) { m with value := v } := by
  obtain ⟨A12, c12, A13, c13, A14, c14, A15, c15, A21, c21, rfl, ok, h12, h13, h14, h15, h21⟩ := h
  exact ⟨A12, c12, A13, c13, A14, c14, A15, c15, A21, c21, by simp, good_value ok hv, h12, h13, h14, h15, h21⟩
theorem set_bits {W : World} {cx : Array Value} {m : Msg} (h : IsMsg W cx m) {A : Option Addr} {n : Nat} {l : List Bool} (hn : l.length ≤ n) (hr : Kd.C Kd.bool W A l.length l) : IsMsg W (cx.setIfInBounds 13 (.slice A l.length n)) { m with bits := l } := by
  obtain ⟨A12, c12, A13, c13, A14, c14, A15, c15, A21, c21, rfl, ok, h12, h13, h14, h15, h21⟩ := h
  exact ⟨A12, c12, A, n, A14, c14, A15, c15, A21, c21, by simp, ok, h12, ⟨hr, hn⟩, h14, h15, h21⟩
theorem good_data {m : Msg} (h : goodM m) {l : List Int} (hg : isBytes l) : goodM { m with data := l } := by
  obtain ⟨h1, h2⟩ := h
  refine ⟨?_, h2⟩
  simp only [okM, u8B, u16B, Bool.and_eq_true, decide_eq_true_eq, List.all_eq_true] at h1 ⊢
  exact ⟨⟨h1.1.1, fun x hx => hg x hx⟩, h1.2⟩
theorem set_data {W : World} {cx : Array Value} {m : Msg} (h : IsMsg W cx m) {A : Option Addr} {n : Nat} {l : List Int} (hn : l.length ≤ n) (hg : isBytes l) (hr : Kd.C (Kd.int .u8) W A l.length l) : IsMsg W (cx.setIfInBounds 14 (.slice A l.length n)) { m with data := l } := by
  obtain ⟨A12, c12, A13, c13, A14, c14, A15, c15, A21, c21, rfl, ok, h12, h13, h14, h15, h21⟩ := h
  exact ⟨A12, c12, A13, c13, A, n, A15, c15, A21, c21, by simp, good_data ok hg, h12, h13, ⟨hr, hn⟩, h15, h21⟩
def NilL (cx : Array Value) : Prop := ∀ (i : Nat) A n, (i = 15 ∨ i = 21) → cx[i]? = some (.slice A 0 n) → A = none ∧ n = 0
theorem NilL.set {cx : Array Value} (h : NilL cx) {i : Nat} (hi : i ≠ 15 ∧ i ≠ 21) {v : Value} : NilL (cx.setIfInBounds i v) := by
  intro j A n hj e
  refine h j A n hj ?_
  rwa [Array.getElem?_setIfInBounds_ne (by omega)] at e
end Go.Proofs.Ytggiobdjepgkfaa.Same
end
section
namespace Go.Proofs.Ytggiobdjepgkfaa.PS
open Go.RowKit Go.Proofs.Ytggiobdjepgkfaa.P Go.Proofs.Ytggiobdjepgkfaa.E Go.Proofs.Ytggiobdjepgkfaa.Cur Go.Proofs.Ytggiobdjepgkfaa.RCur Go.Proofs.Ytggiobdjepgkfaa.Cu Go.Proofs.Ytggiobdjepgkfaa.Same Go.Proofs.YtggiobdjepgkfaaW.PrintWords Go.Proofs.YtggiobdjepgkfaaW.PrintLast Go.Proofs.YtggiobdjepgkfaaW.PrintMore
structure St (w0 : World) (gr g gm : Nat) (w : World) (c : Cu) (m : Msg) : Prop where
  b : Below w0.heap.size w0 w
  cur : ∃ lo hi, PAt lo hi w g c ∧ (gm < lo ∨ hi ≤ gm) ∧ (gr < lo ∨ hi ≤ gr)
  cx : ∃ cx, w.heap[gm]? = some (.cells cx 30 (0, 0)) ∧ ∀ W', Kept w W' (fun k => k = g ∨ k = gm ∨ k = gr) → IsMsg W' cx m
  res : w.heap[gr]? = some (.cells zeroC 30 (0, 0))
  h1 : w0.heap.size ≤ g ∧ w0.heap.size ≤ gm ∧ w0.heap.size ≤ gr
  h2 : gm ≠ g ∧ gr ≠ g ∧ gr ≠ gm
  nl : ∃ cx, w.heap[gm]? = some (.cells cx 30 (0, 0)) ∧ NilL cx
section
variable {w0 w w' : World} {gr g gm : Nat} {c c' : Cu} {m m' : Msg}
theorem St.upd (h : St w0 gr g gm w c m) (k : Upd g w w') (hc : ∃ lo hi, PAt lo hi w' g c' ∧ (gm < lo ∨ hi ≤ gm) ∧ (gr < lo ∨ hi ≤ gr)) : St w0 gr g gm w' c' m := by
  obtain ⟨cx, a1, a2⟩ := h.cx
  refine ⟨h.b.trans (k.below h.h1.1 h.b.size), hc, ⟨cx, blk_kept a1 k.kept h.h2.1, fun W' hk => a2 W' ((k.kept.mono fun j hj => .inl hj).then_ hk (fun j hj => .inl hj))⟩, blk_kept h.res k.kept h.h2.2.1, h.h1, h.h2, by obtain ⟨cy, n1, n2⟩ := h.nl; exact ⟨cy, blk_kept n1 k.kept h.h2.1, n2⟩⟩
theorem St.good (h : St w0 gr g gm w c m) : c.good := by
  obtain ⟨lo, hi, a, _⟩ := h.cur
  exact a.2
theorem St.msg (h : St w0 gr g gm w c m) : goodM m := by
  obtain ⟨cx, a1, a2⟩ := h.cx
  exact (a2 w (Kept.refl _ _)).good
theorem St.below (h : St w0 gr g gm w c m) (hb : Below w.heap.size w w') : St w0 gr g gm w' c m := by
  obtain ⟨cx, a1, a2⟩ := h.cx
  refine ⟨h.b.trans (hb.mono h.b.size), ?_, ⟨cx, blk_below a1 hb, fun W' hk => a2 W' ((Kept.of_below hb _).then_ hk (fun j hj => .inl hj))⟩, blk_below h.res hb, h.h1, h.h2, by obtain ⟨cy, n1, n2⟩ := h.nl; exact ⟨cy, blk_below n1 hb, n2⟩⟩
  obtain ⟨lo, hi, a, s1, s2⟩ := h.cur
  exact ⟨lo, hi, a.below hb, s1, s2⟩
theorem St.put (h : St w0 gr g gm w c m) (i : Nat) (v : Value) (hi : i ≠ 15 ∧ i ≠ 21) (hm : ∀ W' cx, Kept w W' (fun k => k = g ∨ k = gm ∨ k = gr) → IsMsg W' cx m → IsMsg W' (cx.setIfInBounds i v) m') : St w0 gr g gm (w.setCell ⟨gm, i, none⟩ v) c m' := by
  obtain ⟨cx, a1, a2⟩ := h.cx
  have hk : Kept w (w.setCell ⟨gm, i, none⟩ v) (fun k => k = gm) := (Kept.refl w (fun k => k = gm)).setCell (p := ⟨gm, i, none⟩) (.inl rfl) v
  refine ⟨below_set h.b h.h1.2.1, ?_, ⟨_, blk_put a1 i v rfl, fun W' k => ?_⟩, blk_kept h.res hk h.h2.2.2, h.h1, h.h2, by obtain ⟨cy, n1, n2⟩ := h.nl; exact ⟨_, blk_put n1 i v rfl, n2.set hi⟩⟩
  · obtain ⟨lo, hi, a, s1, s2⟩ := h.cur
    exact ⟨lo, hi, a.on hk (fun k e => by rw [e]; exact s1) (fun e => h.h2.1 e.symm), s1, s2⟩
  · have k2 : Kept w W' (fun k => k = g ∨ k = gm ∨ k = gr) := (hk.mono fun j hj => .inr (.inl hj)).then_ k (fun j hj => .inl hj)
    exact hm W' cx k2 (a2 W' k2)
theorem St.put_addr (h : St w0 gr g gm w c m) {v : Int} (hv : 0 ≤ v ∧ v < 65536) : St w0 gr g gm (w.setCell ⟨gm, 2, none⟩ (.int .u16 v)) c { m with addr := v } :=
  h.put 2 _ (by decide) fun W' cx _ hm => set_addr hm hv
theorem St.put_count (h : St w0 gr g gm w c m) {v : Int} (hv : 0 ≤ v ∧ v < 65536) : St w0 gr g gm (w.setCell ⟨gm, 3, none⟩ (.int .u16 v)) c { m with count := v } :=
  h.put 3 _ (by decide) fun W' cx _ hm => set_count hm hv
theorem St.put_value (h : St w0 gr g gm w c m) {v : Int} (hv : 0 ≤ v ∧ v < 65536) : St w0 gr g gm (w.setCell ⟨gm, 4, none⟩ (.int .u16 v)) c { m with value := v } :=
  h.put 4 _ (by decide) fun W' cx _ hm => set_value hm hv
theorem St.put_bits (h : St w0 gr g gm w c m) {A : Option Addr} {n : Nat} {l : List Bool} (hn : l.length ≤ n) (hr : ∀ W', Kept w W' (fun k => k = g ∨ k = gm ∨ k = gr) → Kd.C Kd.bool W' A l.length l) : St w0 gr g gm (w.setCell ⟨gm, 13, none⟩ (.slice A l.length n)) c { m with bits := l } :=
  h.put 13 _ (by decide) fun W' cx k hm => set_bits hm hn (hr W' k)
theorem St.put_data (h : St w0 gr g gm w c m) {A : Option Addr} {n : Nat} {l : List Int} (hn : l.length ≤ n) (hg : isBytes l) (hr : ∀ W', Kept w W' (fun k => k = g ∨ k = gm ∨ k = gr) → Kd.C (Kd.int .u8) W' A l.length l) : St w0 gr g gm (w.setCell ⟨gm, 14, none⟩ (.slice A l.length n)) c { m with data := l } :=
  h.put 14 _ (by decide) fun W' cx k hm => set_data hm hn hg (hr W' k)
theorem St.at_addr (h : St w0 gr g gm w c m) : w.cell? ⟨gm, 2, none⟩ = some (.int .u16 m.addr) ∧ w.frozen? ⟨gm, 2, none⟩ = false := by
  obtain ⟨cx, a1, a2⟩ := h.cx
  exact ⟨bx_addr a1 (a2 w (Kept.refl _ _)), blk_frozen a1 2⟩
theorem St.at_count (h : St w0 gr g gm w c m) : w.cell? ⟨gm, 3, none⟩ = some (.int .u16 m.count) ∧ w.frozen? ⟨gm, 3, none⟩ = false := by
  obtain ⟨cx, a1, a2⟩ := h.cx
  exact ⟨bx_count a1 (a2 w (Kept.refl _ _)), blk_frozen a1 3⟩
theorem St.at_value (h : St w0 gr g gm w c m) : w.cell? ⟨gm, 4, none⟩ = some (.int .u16 m.value) ∧ w.frozen? ⟨gm, 4, none⟩ = false := by
  obtain ⟨cx, a1, a2⟩ := h.cx
  exact ⟨bx_value a1 (a2 w (Kept.refl _ _)), blk_frozen a1 4⟩
theorem St.at_bits (h : St w0 gr g gm w c m) : ∃ A n, w.cell? ⟨gm, 13, none⟩ = some (.slice A m.bits.length n) ∧ w.frozen? ⟨gm, 13, none⟩ = false := by
  obtain ⟨cx, a1, a2⟩ := h.cx
  obtain ⟨A12, c12, A13, c13, A14, c14, A15, c15, A21, c21, l, _⟩ := (a2 w (Kept.refl _ _)).lists
  exact ⟨A13, c13, (blk_cell a1 13).trans l.2.1, blk_frozen a1 13⟩
theorem St.at_data (h : St w0 gr g gm w c m) : ∃ A n, w.cell? ⟨gm, 14, none⟩ = some (.slice A m.data.length n) ∧ w.frozen? ⟨gm, 14, none⟩ = false := by
  obtain ⟨cx, a1, a2⟩ := h.cx
  obtain ⟨A12, c12, A13, c13, A14, c14, A15, c15, A21, c21, l, _⟩ := (a2 w (Kept.refl _ _)).lists
  exact ⟨A14, c14, (blk_cell a1 14).trans l.2.2.1, blk_frozen a1 14⟩
theorem St.held (h : St w0 gr g gm w c m) : Held w0 [(gr, zeroC)] w := ⟨h.b, fun p hp => by obtain rfl := List.mem_singleton.1 hp; exact ⟨h.h1.2.2, h.res⟩, List.pairwise_singleton _ _⟩
theorem St.held2 (h : St w0 gr g gm w c m) : ∃ cx, Held w0 [(gr, zeroC), (gm, cx)] w ∧ cx.size = 22 ∧ ∀ w', Up1 gr w w' → IsMsg w' cx m := by
  obtain ⟨cx, a1, a2⟩ := h.cx
  refine ⟨cx, ⟨h.b, fun p hp => ?_, ?_⟩, (a2 w (Kept.refl _ _)).size, fun w' hu => a2 w' (hu.kept.mono fun j hj => .inr (.inr hj))⟩
  · rcases List.mem_cons.1 hp with rfl | hp
    · exact ⟨h.h1.2.2, h.res⟩
    · obtain rfl := List.mem_singleton.1 hp
      exact ⟨h.h1.2.1, a1⟩
  · refine List.pairwise_cons.2 ⟨fun q hq => ?_, List.pairwise_singleton _ _⟩
    obtain rfl := List.mem_singleton.1 hq
    exact h.h2.2.2
end
theorem zero_nil : NilL zeroC := by
  intro i A n hi e
  rcases hi with rfl | rfl <;> exact ⟨(Value.slice.inj (Option.some.inj e)).1.symm, (Value.slice.inj (Option.some.inj e)).2.2.symm⟩
structure Nw (w0 : World) (gr g : Nat) (w : World) (c : Cu) : Prop where
  b : Below w0.heap.size w0 w
  cur : ∃ lo, PAt lo g w g c ∧ gr < lo
  res : w.heap[gr]? = some (.cells zeroC 30 (0, 0))
  h1 : w0.heap.size ≤ g ∧ w0.heap.size ≤ gr
end Go.Proofs.Ytggiobdjepgkfaa.PS
end
section
namespace Go.Proofs.Ytggiobdjepgkfaa.PS
open Go.RowKit Go.Proofs.Ytggiobdjepgkfaa.P Go.Proofs.Ytggiobdjepgkfaa.E Go.Proofs.Ytggiobdjepgkfaa.Cur Go.Proofs.Ytggiobdjepgkfaa.RCur Go.Proofs.Ytggiobdjepgkfaa.Cu Go.Proofs.Ytggiobdjepgkfaa.Same Go.Proofs.YtggiobdjepgkfaaW.PrintWords Go.Proofs.YtggiobdjepgkfaaW.PrintLast Go.Proofs.YtggiobdjepgkfaaW.PrintMore
structure Sk (wb w0 : World) (gr g gm : Nat) (w : World) (c : Cu) (m : Msg) : Prop where
  st : St w0 gr g gm w c m
  kp : Kept wb w (fun k => k = g ∨ k = gm)
section
variable {wb w0 w w' : World} {gr g gm : Nat} {c c' : Cu} {m m' : Msg}
theorem Sk.upd (h : Sk wb w0 gr g gm w c m) (k : Upd g w w') (hc : ∃ lo hi, PAt lo hi w' g c' ∧ (gm < lo ∨ hi ≤ gm) ∧ (gr < lo ∨ hi ≤ gr)) : Sk wb w0 gr g gm w' c' m := ⟨h.st.upd k hc, h.kp.then_ k.kept (fun _ e => .inl (.inl e))⟩
theorem Sk.below (h : Sk wb w0 gr g gm w c m) (hb : Below w.heap.size w w') : Sk wb w0 gr g gm w' c m := ⟨h.st.below hb, h.kp.below hb⟩
theorem Sk.good (h : Sk wb w0 gr g gm w c m) : c.good := h.st.good
theorem Sk.msg (h : Sk wb w0 gr g gm w c m) : goodM m := h.st.msg
theorem Sk.start (h : St w0 gr g gm w c m) : Sk w w0 gr g gm w c m := ⟨h, Kept.refl _ _⟩
theorem Sk.over {wa : World} (h : Sk wb w0 gr g gm w c m) (k : Kept wa wb (fun k => k = g ∨ k = gm)) : Sk wa w0 gr g gm w c m := ⟨h.st, k.then_ h.kp (fun _ e => .inl e)⟩
theorem Sk.lt (h : Sk wb w0 gr g gm w c m) : g < w.heap.size ∧ gm < w.heap.size := by
  obtain ⟨lo, hi, hc, _⟩ := h.st.cur
  obtain ⟨cx, a1, _⟩ := h.st.cx
  exact ⟨hc.1.lt, blk_lt a1⟩
theorem Sk.cell (h : Sk wb w0 gr g gm w c m) {a : Addr} {v : Value} (hc : wb.cell? a = some v) (h1 : a.block ≠ g) (h2 : a.block ≠ gm) : w.cell? a = some v := cell_kept hc h.kp (fun e => e.elim h1 h2)
theorem Sk.blk (h : Sk wb w0 gr g gm w c m) {b : Nat} {o : Obj} (hc : wb.heap[b]? = some o) (h1 : b ≠ g) (h2 : b ≠ gm) : w.heap[b]? = some o := blk_kept hc h.kp (fun e => e.elim h1 h2)
theorem Sk.byte (h : Sk wb w0 gr g gm w c m) : Calls Try.prog 43 #[.pointer (some ⟨g, 0, none⟩)] w fun en w' => en = .returned (.int .u8 c.byteV) ∧ Sk wb w0 gr g gm w' c.byteS m := by
  obtain ⟨lo, hi, hc, s1, s2⟩ := h.st.cur
  refine (p_byte hc).mono ?_
  rintro en w' ⟨rfl, b1, b2⟩
  exact ⟨rfl, h.upd b2 ⟨lo, hi, b1, s1, s2⟩⟩
theorem Sk.bytes (h : Sk wb w0 gr g gm w c m) (n : Int) : Calls Try.prog 45 #[.pointer (some ⟨g, 0, none⟩), .int .i64 n] w fun en w' => ∃ A' c', en = .returned (.slice A' (c.bytesV n).length c') ∧ (c.bytesV n).length ≤ c' ∧ (∀ W', Kept w' W' (fun k => k = g ∨ k = gm ∨ k = gr) → Kd.C (Kd.int .u8) W' A' (c.bytesV n).length (c.bytesV n)) ∧ Sk wb w0 gr g gm w' (c.bytesS n) m := by
  obtain ⟨cx, a1, a2⟩ := h.st.cx
  have lm := blk_lt a1
  have lr := blk_lt h.st.res
  obtain ⟨lo, hi, hc, s1, s2⟩ := h.st.cur
  refine (p_bytes hc n).mono ?_
  rintro en w' ⟨A', c', rfl, b1, b2, b3, b4⟩
  refine ⟨A', c', rfl, b1, fun W' hk => (b2.on (hk.mono fun j hj => ?_)).now, h.upd b4 ⟨lo, hi, b3, s1, s2⟩⟩
  have lg := hc.1.lt
  rcases hj with rfl | rfl | rfl <;> exact .inl (by omega)
theorem Sk.word (h : Sk wb w0 gr g gm w c m) : Calls Try.prog 46 #[.pointer (some ⟨g, 0, none⟩)] w fun en w' => en = .returned (.int .u16 c.wordV) ∧ Sk wb w0 gr g gm w' c.wordS m := by
  obtain ⟨lo, hi, hc, s1, s2⟩ := h.st.cur
  refine (p_word hc).mono ?_
  rintro en w' ⟨rfl, b1, b2⟩
  exact ⟨rfl, h.upd b2 ⟨lo, hi, b1, s1, s2⟩⟩
theorem Sk.need (h : Sk wb w0 gr g gm w c m) (ok : Bool) (f : Int) : Calls Try.prog 44 #[.pointer (some ⟨g, 0, none⟩), .bool ok, .int .i64 f] w fun en w' => en = .returned (.tuple #[]) ∧ Sk wb w0 gr g gm w' (c.need ok f) m := by
  obtain ⟨lo, hi, hc, s1, s2⟩ := h.st.cur
  refine (p_need hc ok f).mono ?_
  rintro en w' ⟨rfl, b1, b2⟩
  exact ⟨rfl, h.upd b2 ⟨lo, hi, b1, s1, s2⟩⟩
theorem Sk.fin (h : Sk wb w0 gr g gm w c m) : Calls Try.prog 26 #[.pointer (some ⟨g, 0, none⟩)] w fun en w' => en = .returned (.tuple #[]) ∧ Sk wb w0 gr g gm w' c.fin m := by
  obtain ⟨lo, hi, hc, s1, s2⟩ := h.st.cur
  refine (p_end hc).mono ?_
  rintro en w' ⟨rfl, b1, b2⟩
  exact ⟨rfl, h.upd b2 ⟨lo, hi, b1, s1, s2⟩⟩
theorem Sk.err (h : Sk wb w0 gr g gm w c m) : Calls Try.prog 27 #[.pointer (some ⟨g, 0, none⟩)] w fun en w' => en = .returned (.int .i64 c.e) ∧ Sk wb w0 gr g gm w' c m := by
  obtain ⟨lo, hi, hc, s1, s2⟩ := h.st.cur
  refine (p_err hc).mono ?_
  rintro en w' ⟨rfl, rfl⟩
  exact ⟨rfl, h⟩
theorem Sk.putk (h : Sk wb w0 gr g gm w c m) (i : Nat) (v : Value) : Kept wb (w.setCell ⟨gm, i, none⟩ v) (fun k => k = g ∨ k = gm) := h.kp.setCell (p := ⟨gm, i, none⟩) (.inl (.inr rfl)) v
theorem Sk.put_addr (h : Sk wb w0 gr g gm w c m) {v : Int} (hv : 0 ≤ v ∧ v < 65536) : Sk wb w0 gr g gm (w.setCell ⟨gm, 2, none⟩ (.int .u16 v)) c { m with addr := v } := ⟨h.st.put_addr hv, h.putk _ _⟩
theorem Sk.put_count (h : Sk wb w0 gr g gm w c m) {v : Int} (hv : 0 ≤ v ∧ v < 65536) : Sk wb w0 gr g gm (w.setCell ⟨gm, 3, none⟩ (.int .u16 v)) c { m with count := v } := ⟨h.st.put_count hv, h.putk _ _⟩
theorem Sk.put_value (h : Sk wb w0 gr g gm w c m) {v : Int} (hv : 0 ≤ v ∧ v < 65536) : Sk wb w0 gr g gm (w.setCell ⟨gm, 4, none⟩ (.int .u16 v)) c { m with value := v } := ⟨h.st.put_value hv, h.putk _ _⟩
theorem Sk.put_bits (h : Sk wb w0 gr g gm w c m) {A : Option Addr} {n : Nat} {l : List Bool} (hn : l.length ≤ n) (hr : ∀ W', Kept w W' (fun k => k = g ∨ k = gm ∨ k = gr) → Kd.C Kd.bool W' A l.length l) : Sk wb w0 gr g gm (w.setCell ⟨gm, 13, none⟩ (.slice A l.length n)) c { m with bits := l } := ⟨h.st.put_bits hn hr, h.putk _ _⟩
theorem Sk.put_data (h : Sk wb w0 gr g gm w c m) {A : Option Addr} {n : Nat} {l : List Int} (hn : l.length ≤ n) (hg : isBytes l) (hr : ∀ W', Kept w W' (fun k => k = g ∨ k = gm ∨ k = gr) → Kd.C (Kd.int .u8) W' A l.length l) : Sk wb w0 gr g gm (w.setCell ⟨gm, 14, none⟩ (.slice A l.length n)) c { m with data := l } := ⟨h.st.put_data hn hg hr, h.putk _ _⟩
theorem Sk.at_addr (h : Sk wb w0 gr g gm w c m) : w.cell? ⟨gm, 2, none⟩ = some (.int .u16 m.addr) ∧ w.frozen? ⟨gm, 2, none⟩ = false := h.st.at_addr
theorem Sk.at_count (h : Sk wb w0 gr g gm w c m) : w.cell? ⟨gm, 3, none⟩ = some (.int .u16 m.count) ∧ w.frozen? ⟨gm, 3, none⟩ = false := h.st.at_count
theorem Sk.at_value (h : Sk wb w0 gr g gm w c m) : w.cell? ⟨gm, 4, none⟩ = some (.int .u16 m.value) ∧ w.frozen? ⟨gm, 4, none⟩ = false := h.st.at_value
theorem Sk.at_bits (h : Sk wb w0 gr g gm w c m) : ∃ A n, w.cell? ⟨gm, 13, none⟩ = some (.slice A m.bits.length n) ∧ w.frozen? ⟨gm, 13, none⟩ = false := h.st.at_bits
theorem Sk.at_data (h : Sk wb w0 gr g gm w c m) : ∃ A n, w.cell? ⟨gm, 14, none⟩ = some (.slice A m.data.length n) ∧ w.frozen? ⟨gm, 14, none⟩ = false := h.st.at_data
end
end Go.Proofs.Ytggiobdjepgkfaa.PS
end
section
namespace Go.Proofs.Ytggiobdjepgkfaa.Cu
open Go.RowKit Go.Proofs.Ytggiobdjepgkfaa.E Go.Proofs.Ytggiobdjepgkfaa.Cur Go.Proofs.YtggiobdjepgkfaaW.PrintWords Go.Proofs.YtggiobdjepgkfaaW.PrintLast Go.Proofs.YtggiobdjepgkfaaW.PrintMore
def cu (l : List Int) : Cu := ⟨l, false, 0⟩
theorem need_true (c : Cu) (f : Int) : c.need true f = c := by unfold Cu.need; simp
theorem need_dead {c : Cu} (h : c.e ≠ 0) (ok : Bool) (f : Int) : c.need ok f = c := by
  unfold Cu.need
  rw [if_neg (fun hh => h hh.1)]
theorem bytesS_dead {c : Cu} (h : c.e ≠ 0) (n : Int) : (c.bytesS n).e = c.e := by
  unfold Cu.bytesS
  split
  · rfl
  · simp only [Cu.fail, fstE]
    rw [if_neg h]
theorem need_ok {c : Cu} {ok : Bool} {f : Int} (hf : f ≠ 0) (h : (c.need ok f).e = 0) : c.e = 0 ∧ ok = true ∧ c.need ok f = c := by
  cases ok with
  | true => rw [need_true] at h ⊢; exact ⟨h, rfl, rfl⟩
  | false =>
    by_cases he : c.e = 0
    · exfalso
      unfold Cu.need at h
      rw [if_pos ⟨he, rfl⟩] at h
      exact hf h
    · rw [need_dead he] at h
      exact absurd h he
theorem need_ok' {xs : List Int} {ok : Bool} {f : Int} (h : ((cu xs).need ok f).e = 0) : (cu xs).need ok f = cu xs := by
  cases ok with
  | true => exact need_true _ _
  | false =>
    unfold Cu.need cu at h ⊢
    simp only [and_self, if_true] at h ⊢
    rw [h]
theorem bytes_ok {c : Cu} {n : Int} (h : (c.bytesS n).e = 0) : c.e = 0 ∧ c.s = false ∧ 0 ≤ n ∧ n ≤ (c.xs.length : Int) ∧ c.bytesS n = cu (c.xs.drop n.toNat) ∧ c.bytesV n = c.xs.take n.toNat := by
  have he : c.e = 0 := by
    by_cases he : c.e = 0
    · exact he
    · rw [bytesS_dead he] at h; exact h
  by_cases hk : c.okB n = true
  · obtain ⟨h1, h2, h3⟩ := (Cu.okB_iff c n).1 hk
    refine ⟨he, h1, h2, h3, ?_, ?_⟩
    · unfold Cu.bytesS cu; rw [if_pos hk, h1, he]
    · unfold Cu.bytesV; rw [if_pos hk]
  · exfalso
    unfold Cu.bytesS at h
    rw [if_neg hk] at h
    simp only [Cu.fail, fstE] at h
    rw [if_pos he] at h
    exact absurd h (by decide)
theorem byte_ok {c : Cu} (h : c.byteS.e = 0) : c.e = 0 ∧ c.s = false ∧ ∃ t, c.xs = c.byteV :: t ∧ c.byteS = cu t := by
  obtain ⟨h1, h2, h3, h4, h5, h6⟩ := bytes_ok (n := 1) h
  cases hx : c.xs with
  | nil => rw [hx] at h4; simp at h4
  | cons x t =>
    refine ⟨h1, h2, t, ?_, ?_⟩
    · unfold Cu.byteV; rw [h6, hx]; rfl
    · show c.bytesS 1 = _
      rw [h5, hx]; rfl
theorem fin_ok {c : Cu} (h : c.fin.e = 0) : c.e = 0 ∧ c.xs = [] := by
  obtain ⟨h1, h2, h3⟩ := need_ok (by decide) h
  exact ⟨h1, by simpa using h2⟩
theorem okB_cu (l : List Int) (n : Nat) (h : n ≤ l.length) : (cu l).okB (n : Int) = true := by
  rw [Cu.okB_iff]
  exact ⟨rfl, by omega, by show (n : Int) ≤ (l.length : Int); omega⟩
theorem bytesV_app (u t : List Int) {n : Int} (hn : n = (u.length : Int)) : (cu (u ++ t)).bytesV n = u := by
  subst hn
  unfold Cu.bytesV
  rw [if_pos (okB_cu _ _ (by simp))]
  show (u ++ t).take (u.length : Int).toNat = u
  simp
theorem bytesS_app (u t : List Int) {n : Int} (hn : n = (u.length : Int)) : (cu (u ++ t)).bytesS n = cu t := by
  subst hn
  unfold Cu.bytesS
  rw [if_pos (okB_cu _ _ (by simp))]
  show (⟨(u ++ t).drop (u.length : Int).toNat, _, _⟩ : Cu) = _
  simp [cu]
theorem bytesS_cut {l : List Int} {n : Int} (h : (l.length : Int) < n ∨ n < 0) : ((cu l).bytesS n).e = 2 := by
  unfold Cu.bytesS
  have hk : ¬ (cu l).okB n = true := fun hk => by
    obtain ⟨_, h2, h3⟩ := (Cu.okB_iff _ _).1 hk
    have h3 : n ≤ (l.length : Int) := h3
    omega
  rw [if_neg hk]
  rfl
theorem byteV_cons (x : Int) (t : List Int) : (cu (x :: t)).byteV = x := by
  show ((cu ([x] ++ t)).bytesV 1).headD 0 = x
  have h := bytesV_app [x] t (n := 1) rfl
  rw [h]
  rfl
theorem byteS_cons (x : Int) (t : List Int) : (cu (x :: t)).byteS = cu t := bytesS_app [x] t rfl
section
variable {α β : Type}
def Rd.ret (a : α) : (Cu → Cu × α) := fun c => (c, a)
def Rd.bind (r : (Cu → Cu × α)) (f : α → (Cu → Cu × β)) : (Cu → Cu × β) := fun c => f (r c).2 (r c).1
def Rd.byte : (Cu → Cu × Int) := fun c => (c.byteS, c.byteV)
def Rd.need (ok : Bool) (f : Int) : (Cu → Cu × Unit) := fun c => (c.need ok f, ())
def Rd.bytes (n : Int) : (Cu → Cu × (List Int)) := fun c => (c.bytesS n, c.bytesV n)
structure Cl (r : (Cu → Cu × α)) : Prop where
  dead : ∀ c : Cu, c.e ≠ 0 → (r c).1.e = c.e
  ok : ∀ xs : List Int, (r (cu xs)).1.e = 0 → ∃ u t, xs = u ++ t ∧ (∀ t', r (cu (u ++ t')) = (cu t', (r (cu xs)).2)) ∧ ∀ k, k < u.length → (r (cu (u.take k))).1.e = 2
theorem Cl.ret (a : α) : Cl (Rd.ret a) := ⟨fun _ _ => rfl, fun xs _ => ⟨[], xs, rfl, fun _ => rfl, fun k hk => absurd hk (Nat.not_lt_zero k)⟩⟩
theorem Cl.need (ok : Bool) (f : Int) : Cl (Rd.need ok f) := by
  refine ⟨fun c h => by show (c.need ok f).e = c.e; rw [need_dead h], fun xs h => ⟨[], xs, rfl, fun t => ?_, fun k hk => absurd hk (Nat.not_lt_zero k)⟩⟩
  have e := need_ok' (xs := xs) h
  show ((cu t).need ok f, ()) = _
  cases ok with
  | true => rw [need_true]
  | false =>
    have hf : f = 0 := by
      have h : ((cu xs).need false f).e = 0 := h
      unfold Cu.need cu at h
      simpa using h
    subst hf
    first | rfl | done
theorem Cl.bind {r : (Cu → Cu × α)} {f : α → (Cu → Cu × β)} (hr : Cl r) (hf : ∀ a, Cl (f a)) : Cl (Rd.bind r f) := by
  refine ⟨fun c h => ?_, fun xs h => ?_⟩
  · have h1 := hr.dead c h
    show (f (r c).2 (r c).1).1.e = c.e
    rw [(hf _).dead _ (by rw [h1]; exact h), h1]
  · have h : (f (r (cu xs)).2 (r (cu xs)).1).1.e = 0 := h
    have h1 : (r (cu xs)).1.e = 0 := by
      by_cases h1 : (r (cu xs)).1.e = 0
      · exact h1
      · rw [(hf _).dead _ h1] at h; exact h
    obtain ⟨u, t, e1, e2, e3⟩ := hr.ok xs h1
    have e4 := e2 t
    rw [← e1] at e4
    have e5 : (r (cu xs)).1 = cu t := by rw [e4]
    rw [e5] at h
    obtain ⟨u', t', e6, e7, e8⟩ := (hf (r (cu xs)).2).ok t h
    refine ⟨u ++ u', t', by rw [e1, e6, List.append_assoc], fun t2 => ?_, fun k hk => ?_⟩
    · show f (r (cu (u ++ u' ++ t2))).2 (r (cu (u ++ u' ++ t2))).1 = (cu t2, (f (r (cu xs)).2 (r (cu xs)).1).2)
      rw [List.append_assoc, e2, e5]
      exact e7 t2
    · show (f (r (cu ((u ++ u').take k))).2 (r (cu ((u ++ u').take k))).1).1.e = 2
      by_cases hk1 : k < u.length
      · have e9 := e3 k hk1
        rw [List.take_append_of_le_length (by omega), (hf _).dead _ (by rw [e9]; decide), e9]
      · have e9 : (u ++ u').take k = u ++ u'.take (k - u.length) := by
          rw [List.take_append, List.take_of_length_le (by omega)]
        rw [e9, e2]
        exact e8 _ (by rw [List.length_append] at hk; omega)
theorem Cl.bytes (n : Int) : Cl (Rd.bytes n) := by
  refine ⟨fun c h => bytesS_dead h n, fun xs h => ?_⟩
  obtain ⟨h1, h2, h3, h4, h5, h6⟩ := bytes_ok (c := cu xs) h
  have h4 : n ≤ (xs.length : Int) := h4
  have hl : n = ((xs.take n.toNat).length : Int) := by rw [List.length_take]; omega
  refine ⟨xs.take n.toNat, xs.drop n.toNat, (List.take_append_drop _ _).symm, fun t => ?_, fun k hk => ?_⟩
  · show ((cu (xs.take n.toNat ++ t)).bytesS n, (cu (xs.take n.toNat ++ t)).bytesV n) = (cu t, (cu xs).bytesV n)
    rw [bytesS_app _ _ hl, bytesV_app _ _ hl, h6]
    rfl
  · refine bytesS_cut (.inl ?_)
    rw [List.length_take]
    omega
theorem Cl.byte : Cl Rd.byte := by
  refine ⟨fun c h => bytesS_dead h 1, fun xs h => ?_⟩
  obtain ⟨h1, h2, t, h3, h4⟩ := byte_ok (c := cu xs) h
  have h3 : xs = (cu xs).byteV :: t := h3
  refine ⟨[(cu xs).byteV], t, h3, fun t' => ?_, fun k hk => ?_⟩
  · show ((cu ((cu xs).byteV :: t')).byteS, (cu ((cu xs).byteV :: t')).byteV) = (cu t', (cu xs).byteV)
    rw [byteS_cons, byteV_cons]
  · have : k = 0 := by simpa using hk
    subst this
    exact bytesS_cut (n := 1) (.inl (by simp))
end
def Dd {α : Type} (r : (Cu → Cu × α)) : Prop := ∀ c : Cu, c.e ≠ 0 → (r c).1.e = c.e
section
variable {α β : Type} {f : α → (Cu → Cu × β)}
theorem byte_inv {f : Int → (Cu → Cu × β)} {l : List Int} (hf : ∀ a, Dd (f a)) (h : (Rd.bind Rd.byte f (cu l)).1.e = 0) : ∃ x t, l = x :: t ∧ Rd.bind Rd.byte f (cu l) = f x (cu t) := by
  have h : (f (cu l).byteV (cu l).byteS).1.e = 0 := h
  have h1 : (cu l).byteS.e = 0 := by
    by_cases h1 : (cu l).byteS.e = 0
    · exact h1
    · rw [hf _ _ h1] at h; exact h
  obtain ⟨_, _, t, h2, h3⟩ := byte_ok h1
  refine ⟨_, t, h2, ?_⟩
  show f (cu l).byteV (cu l).byteS = _
  rw [h3]
theorem need_inv {f : Unit → (Cu → Cu × β)} {l : List Int} {ok : Bool} {e : Int} (he : e ≠ 0) (hf : ∀ a, Dd (f a)) (h : (Rd.bind (Rd.need ok e) f (cu l)).1.e = 0) : ok = true ∧ Rd.bind (Rd.need ok e) f (cu l) = f () (cu l) := by
  have h : (f () ((cu l).need ok e)).1.e = 0 := h
  have h1 : ((cu l).need ok e).e = 0 := by
    by_cases h1 : ((cu l).need ok e).e = 0
    · exact h1
    · rw [hf _ _ h1] at h; exact h
  obtain ⟨_, h2, h3⟩ := need_ok he h1
  refine ⟨h2, ?_⟩
  show f () ((cu l).need ok e) = _
  rw [h3]
theorem bytes_inv {f : List Int → (Cu → Cu × β)} {l : List Int} {n : Int} (hf : ∀ a, Dd (f a)) (h : (Rd.bind (Rd.bytes n) f (cu l)).1.e = 0) : 0 ≤ n ∧ n ≤ (l.length : Int) ∧ Rd.bind (Rd.bytes n) f (cu l) = f (l.take n.toNat) (cu (l.drop n.toNat)) := by
  have h : (f ((cu l).bytesV n) ((cu l).bytesS n)).1.e = 0 := h
  have h1 : ((cu l).bytesS n).e = 0 := by
    by_cases h1 : ((cu l).bytesS n).e = 0
    · exact h1
    · rw [hf _ _ h1] at h; exact h
  obtain ⟨_, _, h2, h3, h4, h5⟩ := bytes_ok h1
  refine ⟨h2, h3, ?_⟩
  show f ((cu l).bytesV n) ((cu l).bytesS n) = _
  rw [h4, h5]
  rfl
theorem byte_run (f : Int → (Cu → Cu × β)) (x : Int) (t : List Int) : Rd.bind Rd.byte f (cu (x :: t)) = f x (cu t) := by
  show f (cu (x :: t)).byteV (cu (x :: t)).byteS = _
  rw [byteV_cons, byteS_cons]
theorem need_run (f : Unit → (Cu → Cu × β)) {ok : Bool} (h : ok = true) (e : Int) (c : Cu) : Rd.bind (Rd.need ok e) f c = f () c := by
  show f () (c.need ok e) = _
  rw [h, need_true]
theorem bytes_run (f : List Int → (Cu → Cu × β)) (u t : List Int) {n : Int} (hn : n = (u.length : Int)) : Rd.bind (Rd.bytes n) f (cu (u ++ t)) = f u (cu t) := by
  show f ((cu (u ++ t)).bytesV n) ((cu (u ++ t)).bytesS n) = _
  rw [bytesV_app _ _ hn, bytesS_app _ _ hn]
theorem Dd.ret (a : α) : Dd (Rd.ret a) := (Cl.ret a).dead
end
theorem wordsS_dead {c : Cu} (h : c.e ≠ 0) (n : Int) : (c.wordsS n).e = c.e := by
  unfold Cu.wordsS
  split
  · rfl
  · simp only [Cu.fail, fstE]
    rw [if_neg h]
theorem words_ok {c : Cu} {n : Int} (h : (c.wordsS n).e = 0) : c.e = 0 ∧ c.s = false ∧ 0 ≤ n ∧ 2 * n ≤ (c.xs.length : Int) ∧ c.wordsS n = cu (c.xs.drop (2 * n.toNat)) ∧ c.wordsV n = Take.words (c.xs.take (2 * n.toNat)) := by
  have he : c.e = 0 := by
    by_cases he : c.e = 0
    · exact he
    · rw [wordsS_dead he] at h; exact h
  by_cases hk : c.okW n = true
  · obtain ⟨h1, h2, h3⟩ := (Cu.okW_iff c n).1 hk
    refine ⟨he, h1, h2, h3, ?_, ?_⟩
    · unfold Cu.wordsS cu; rw [if_pos hk, h1, he]
    · unfold Cu.wordsV; rw [if_pos hk]
  · exfalso
    unfold Cu.wordsS at h
    rw [if_neg hk] at h
    simp only [Cu.fail, fstE] at h
    rw [if_pos he] at h
    exact absurd h (by decide)
theorem okW_cu (l : List Int) (n : Nat) (h : 2 * n ≤ l.length) : (cu l).okW (n : Int) = true := by
  rw [Cu.okW_iff]
  exact ⟨rfl, by omega, by show 2 * (n : Int) ≤ (l.length : Int); omega⟩
theorem wordsV_app (u t : List Int) {n : Int} (hn : 2 * n = (u.length : Int)) : (cu (u ++ t)).wordsV n = Take.words u := by
  obtain ⟨m, rfl⟩ := Int.eq_ofNat_of_zero_le (show 0 ≤ n by omega)
  unfold Cu.wordsV
  rw [if_pos (okW_cu _ _ (by rw [List.length_append]; omega))]
  show Take.words ((u ++ t).take (2 * (m : Int).toNat)) = _
  rw [show 2 * (m : Int).toNat = u.length by omega]
  simp
theorem wordsS_app (u t : List Int) {n : Int} (hn : 2 * n = (u.length : Int)) : (cu (u ++ t)).wordsS n = cu t := by
  obtain ⟨m, rfl⟩ := Int.eq_ofNat_of_zero_le (show 0 ≤ n by omega)
  unfold Cu.wordsS
  rw [if_pos (okW_cu _ _ (by rw [List.length_append]; omega))]
  show (⟨(u ++ t).drop (2 * (m : Int).toNat), _, _⟩ : Cu) = _
  rw [show 2 * (m : Int).toNat = u.length by omega]
  simp [cu]
theorem wordsS_cut {l : List Int} {n : Int} (h : (l.length : Int) < 2 * n ∨ n < 0) : ((cu l).wordsS n).e = 2 := by
  unfold Cu.wordsS
  have hk : ¬ (cu l).okW n = true := fun hk => by
    obtain ⟨_, h2, h3⟩ := (Cu.okW_iff _ _).1 hk
    have h3 : 2 * n ≤ (l.length : Int) := h3
    omega
  rw [if_neg hk]
  rfl
def Rd.word : (Cu → Cu × Int) := fun c => (c.wordS, c.wordV)
theorem two_words (a b : Int) : (Take.words [a, b]).headD 0 = a * 256 + b := by
  simp [Take.words, Take.pre, Take.wordAt, List.range_succ]
theorem wordV_cons (a b : Int) (t : List Int) : (cu (a :: b :: t)).wordV = a * 256 + b := by
  show ((cu ([a, b] ++ t)).wordsV 1).headD 0 = _
  rw [wordsV_app [a, b] t (n := 1) (by simp)]
  exact two_words a b
theorem wordS_cons (a b : Int) (t : List Int) : (cu (a :: b :: t)).wordS = cu t := wordsS_app [a, b] t (n := 1) (by simp)
theorem word_ok {c : Cu} (h : c.wordS.e = 0) : c.e = 0 ∧ c.s = false ∧ ∃ a b t, c.xs = a :: b :: t ∧ c.wordS = cu t ∧ c.wordV = a * 256 + b := by
  obtain ⟨h1, h2, h3, h4, h5, h6⟩ := words_ok (n := 1) h
  cases hx : c.xs with
  | nil => rw [hx] at h4; simp at h4
  | cons a t =>
  cases ht : t with
  | nil => rw [hx, ht] at h4; simp at h4
  | cons b r =>
    refine ⟨h1, h2, a, b, r, rfl, ?_, ?_⟩
    · show c.wordsS 1 = _
      rw [h5, hx, ht]; rfl
    · show (c.wordsV 1).headD 0 = _
      rw [h6, hx, ht]; exact two_words a b
theorem Cl.word : Cl Rd.word := by
  refine ⟨fun c h => wordsS_dead h 1, fun xs h => ?_⟩
  obtain ⟨h1, h2, a, b, t, h3, h4, h5⟩ := word_ok (c := cu xs) h
  have h3 : xs = a :: b :: t := h3
  refine ⟨[a, b], t, h3, fun t' => ?_, fun k hk => ?_⟩
  · show ((cu (a :: b :: t')).wordS, (cu (a :: b :: t')).wordV) = (cu t', (cu xs).wordV)
    rw [wordS_cons, wordV_cons, h5]
  · refine wordsS_cut (n := 1) (.inl ?_)
    rw [List.length_take]
    simp only [List.length_cons, List.length_nil] at hk ⊢
    omega
theorem word_inv {β : Type} {f : Int → (Cu → Cu × β)} {l : List Int} (hf : ∀ a, Dd (f a)) (h : (Rd.bind Rd.word f (cu l)).1.e = 0) : ∃ a b t, l = a :: b :: t ∧ Rd.bind Rd.word f (cu l) = f (a * 256 + b) (cu t) := by
  have h : (f (cu l).wordV (cu l).wordS).1.e = 0 := h
  have h1 : (cu l).wordS.e = 0 := by
    by_cases h1 : (cu l).wordS.e = 0
    · exact h1
    · rw [hf _ _ h1] at h; exact h
  obtain ⟨_, _, a, b, t, h2, h3, h4⟩ := word_ok h1
  refine ⟨a, b, t, h2, ?_⟩
  show f (cu l).wordV (cu l).wordS = _
  rw [h3, h4]
theorem word_run {β : Type} (f : Int → (Cu → Cu × β)) {v : Int} (hv : 0 ≤ v ∧ v < 65536) (t : List Int) : Rd.bind Rd.word f (cu ((v / 256) % 256 :: v % 256 :: t)) = f v (cu t) := by
  show f (cu ((v / 256) % 256 :: v % 256 :: t)).wordV (cu ((v / 256) % 256 :: v % 256 :: t)).wordS = _
  rw [wordV_cons, wordS_cons, show v / 256 % 256 * 256 + v % 256 = v by omega]
end Go.Proofs.Ytggiobdjepgkfaa.Cu
end
section
namespace Go.Proofs.Ytggiobdjepgkfaa.P
open Go.RowKit Go.Proofs.YtggiobdjepgkfaaW.PrintWords Go.Proofs.YtggiobdjepgkfaaW.PrintLast Go.Proofs.YtggiobdjepgkfaaW.PrintMore
attribute [local go_sem] max2_int min2_int max_two min_two max_three min_three max_four min_four   -- for this text's walks alone
def bits_Many.f (a0 : Int) : Option (Int) := if a0 < 1 then (some 0) else (some (wrap64 ((wrap64 (Int.tdiv (wrap64 (a0 - 1)) 8)) + 1)))
theorem bits_Many.calls (a0 : Int) (r : Int) (w : World) (h : bits_Many.f a0 = some r) :
    Calls Try.prog 47 #[.int .i64 a0] w fun e w' => e = .returned (.int .i64 r) ∧ Drawn0 w w' := by
  have H : (if a0 < 1 then (some 0) else (some (wrap64 ((wrap64 (Int.tdiv (wrap64 (a0 - 1)) 8)) + 1)))) = some r := h
  clear h
  by_cases c2 : a0 < 1
  · rw [if_pos c2] at H
    have c2b0 : decide (a0 < 1) = true := decide_eq_true c2
    clear c2
    obtain rfl := Option.some.inj H
    go_enter Try.func47, Try.ntmps47
    go_wp2
    go_ret
    exact ⟨by first | rfl | (simp; done) | (simp [*]; done), by repeat (first | exact Drawn0.refl _ | apply Drawn0.step)⟩
  · rw [if_neg c2] at H
    have c2b0 : decide (a0 < 1) = false := decide_eq_false c2
    clear c2
    obtain rfl := Option.some.inj H
    go_enter Try.func47, Try.ntmps47
    go_wp2
    go_ret
    exact ⟨by first | rfl | (simp; done) | (simp [*]; done), by repeat (first | exact Drawn0.refl _ | apply Drawn0.step)⟩
end Go.Proofs.Ytggiobdjepgkfaa.P
end
section
namespace Go.Proofs.Ytggiobdjepgkfaa.P
open Go.RowKit Go.Proofs.YtggiobdjepgkfaaW.PrintWords Go.Proofs.YtggiobdjepgkfaaW.PrintLast Go.Proofs.YtggiobdjepgkfaaW.PrintMore
attribute [local go_sem] max2_int min2_int max_two min_two max_three min_three max_four min_four   -- for this text's walks alone
def bits_Pack.l0 : Nat → List Int → List Bool → Int → Int → Option (List Int)
  | 0, _, _, _, _ => none
  | k + 1, x3, x10, x11, x12 => if x12 < x11 then (if 0 ≤ x12 then (if x12 < (x10.length : Int) then (if rdOf false x10 x12 = true then (if 0 ≤ (wrap64 (Int.tdiv x12 8)) then (if (wrap64 (Int.tdiv x12 8)) < (x3.length : Int) then (if 0 ≤ (Int.tmod x12 8) then (bits_Pack.l0 k (x3.set ((wrap64 (Int.tdiv x12 8)) : Int).toNat (Go.bits .or .u8 (rd x3 (wrap64 (Int.tdiv x12 8))) (shl .u8 1 (Int.tmod x12 8)))) x10 x11 (wrap64 (x12 + 1))) else (none)) else (none)) else (none)) else (bits_Pack.l0 k x3 x10 x11 (wrap64 (x12 + 1)))) else (none)) else (none)) else (some x3)
def bits_Pack.f (k : Nat) (l0 : List Bool) : Option (List Int) := (bits_Many.f (l0.length : Int)).bind fun t123 => (if 0 ≤ t123 then (if (t123 : Int).toNat ≤ 281474976710656 then (bits_Pack.l0 k (List.replicate (t123 : Int).toNat 0) l0 (l0.length : Int) 0) else (none)) else (none))
theorem bits_Pack.mono_l : ∀ k, (∀ y0 y1 y2 y3, LeO (bits_Pack.l0 k y0 y1 y2 y3) (bits_Pack.l0 (k + 1) y0 y1 y2 y3))
  | 0 => fun _ _ _ _ r h => by simp [bits_Pack.l0] at h
  | k + 1 => by
    have ih0 := bits_Pack.mono_l k
    · intro y0 y1 y2 y3
      unfold bits_Pack.l0
      repeat' first
      | (with_reducible exact ih0 _ _ _ _)
      | (with_reducible exact LeO.refl _)
      | (with_reducible exact LeO.none _)
      | (with_reducible refine LeO.ite ?_ ?_)
      | (with_reducible refine LeO.bind ?_ (fun _ => ?_))
      | exact ih0 _ _ _ _
      | exact LeO.none _
      | refine LeO.ite ?_ ?_
      | refine LeO.bind ?_ (fun _ => ?_)
theorem bits_Pack.mono : ∀ a0 k, LeO (bits_Pack.f k a0) (bits_Pack.f (k + 1) a0) := by
  intro a0 k
  have ih0 := bits_Pack.mono_l k
  unfold bits_Pack.f
  repeat' first
      | (with_reducible exact ih0 _ _ _ _)
      | (with_reducible exact LeO.refl _)
      | (with_reducible exact LeO.none _)
      | (with_reducible refine LeO.ite ?_ ?_)
      | (with_reducible refine LeO.bind ?_ (fun _ => ?_))
      | exact ih0 _ _ _ _
      | exact LeO.none _
      | refine LeO.ite ?_ ?_
      | refine LeO.bind ?_ (fun _ => ?_)
def bits_Pack.T6 : Bool × List (List Nat × List Nat) := (true, [([], []), ([], []), ([1], [1]), ([0, 2], [0, 2]), ([3], [3]), ([], []), ([5], [5]), ([6], [6]), ([4, 7], [4, 7]), ([0, 2, 0, 1, 2, 3, 4, 5, 6, 7, 8], [0, 2]), ([9, 8, 0, 1, 2, 3, 4, 5, 6, 7, 8], [8, 9])])
def bits_Pack.B6 : List Nat := [0, 0, 2, 7, 15, 0, 32, 96, 255, 511, 1023]
theorem bits_Pack.tab6 : rtab .any (opsOf Try.f54 6) = bits_Pack.T6 := by kernel_rfl
theorem bits_Pack.bits6 : waitsOk bits_Pack.T6.2 bits_Pack.B6 = true := by kernel_rfl
theorem bits_Pack.calls (k : Nat) (A0 : Option Addr) (c0 : Nat) (l0 : List Bool) (r : List Int) (w : World) (hr0 : Kd.C Kd.bool w A0 l0.length l0) (hc0 : l0.length ≤ c0) (h : bits_Pack.f k l0 = some r) :
    Calls Try.prog 54 #[.slice A0 l0.length c0] w fun e w' => ∃ v0_ : Value, e = .returned (v0_) ∧ Kd.R (Kd.int .u8) 5 w' w.heap.size (fun _ => True) v0_ r ∧ Below w.heap.size w w' := by
  have HR0 := Aside0.mk hr0
  have HC0 := Aside0.mk hc0
  clear hr0 hc0
  have HB := Aside0.mk (Below.refl w.heap.size w)
  have H : ((bits_Many.f (l0.length : Int)).bind fun t123 => (if 0 ≤ t123 then (if (t123 : Int).toNat ≤ 281474976710656 then (bits_Pack.l0 k (List.replicate (t123 : Int).toNat 0) l0 (l0.length : Int) 0) else (none)) else (none))) = some r := h
  clear h
  replace H := Option.bind_eq_some_iff.mp H
  obtain ⟨t123, A20, H⟩ := H
  replace H : (if 0 ≤ t123 then (if (t123 : Int).toNat ≤ 281474976710656 then (bits_Pack.l0 k (List.replicate (t123 : Int).toNat 0) l0 (l0.length : Int) 0) else (none)) else (none)) = some r := H
  have A2 := Aside0.mk A20
  clear A20
  by_cases c3 : 0 ≤ t123
  · rw [if_pos c3] at H
    have c3b0 := eq_true c3
    have c3b1 : decide (0 ≤ t123) = true := decide_eq_true c3
    clear c3
    by_cases c4 : (t123 : Int).toNat ≤ 281474976710656
    · rw [if_pos c4] at H
      have c4b0 := eq_true c4
      have c4b1 : decide ((t123 : Int).toNat ≤ 281474976710656) = true := decide_eq_true c4
      clear c4
      obtain ⟨y124, hy124⟩ : ∃ y_ : List Int, y_ = (List.replicate (t123 : Int).toNat 0) := ⟨_, rfl⟩
      replace H : (bits_Pack.l0 k y124 l0 (l0.length : Int) 0) = some r := by first | (rw [hy124]; with_reducible exact H) | (have H2_ := (Option.bind_some _ _).symm.trans H; rw [hy124]; with_reducible exact H2_) | (have H2_ := (Option.bind_some _ _).symm.trans H; with_reducible exact H2_) | with_reducible exact H | (rw [hy124]; exact H) | exact H
      have Ny124 := Aside0.mk hy124
      clear hy124
      have H' := Aside0.mk H
      clear H
      go_enter Try.func54, Try.ntmps54
      go_wp2_with (first | ((with_reducible refine gate_callee (f := 47) rfl ?_); refine goesL_ (some 8) rfl rfl Try.func47 (by kernel_rfl) rfl #[.int .i64 (l0.length : Int)] rfl (by (try simp only [List.map_toArray, List.map_cons, List.map_nil]); first | done | rfl | (simp only [List.length_drop, List.length_take]; rfl)) ?_; (with_reducible refine (bits_Many.calls (l0.length : Int) t123 _ A2.out).mono ?_); rintro e w' ⟨rfl, ⟨nd, rfl⟩⟩; refine ⟨_, rfl, ?_⟩) | ((with_reducible refine gate_dst (N := 9) rfl ?_); refine Kd.R_make (Kd.int .u8) _ 5 rfl (N := 9) rfl 22 _ _ rfl t123 rfl rfl Try.underlying22 (.int .u8 0) 1 info5 rfl (by decide) (by omega) 0 (ok := fun _ => True) (okp := fun _ => True) rfl (fun _ hk => hk) trivial (of_decide_eq_true (by first | (with_reducible assumption) | assumption)) (Nat.le_trans (Nat.mul_le_mul_right _ (of_decide_eq_true (by first | (with_reducible assumption) | assumption) : t123.toNat ≤ 281474976710656)) (by omega)) (Below.refl _ _) (Nat.le_refl _) ?_; intro v125 w5 ho6 hb hg_ hnew_; clear hg_ hnew_; (first | rw [← Ny124.out] at ho6 | (simp only [Int.reduceToNat] at ho6; rw [← Ny124.out] at ho6)); have n0_ := Aside0.mk (Kd.R_lower ho6 (below_size (by repeat (first | (with_reducible first | exact HB.out | apply below_alloc | apply pw_below_drewN | apply below_drew1) | exact HB.out)))); have n1_ := Aside0.mk (below_step (by repeat (first | (with_reducible first | exact HB.out | apply below_alloc | apply pw_below_drewN | apply below_drew1) | exact HB.out)) hb); clear HB; have HO126 := n0_; have HB := n1_; clear n0_ n1_; clear hb ho6))
      go_loopg [12] k (fun kq v12 w' => ∃ (x3_1 : List Int) (x12_1 : Int), v12 = .int .i64 x12_1 ∧ Aside0 (bits_Pack.l0 kq x3_1 l0 (l0.length : Int) x12_1 = some r) ∧ Aside0 (kq ≤ k) ∧ Aside0 (Kd.R (Kd.int .u8) 5 w' w.heap.size (fun _ => True) v125 x3_1) ∧ Aside0 (Below w.heap.size w w'))
      case atStart => exact ⟨(y124), (0), (by first | rfl | (simp; done) | (simp [*]; done)), H', ⟨Nat.le_refl _⟩, ⟨by (with_reducible repeat (first | apply Kd.R_alloc | apply Kd.R_drewN | apply Kd.R_drew)); exact HO126.out⟩, ⟨by repeat (first | (with_reducible first | exact HB.out | apply below_alloc | apply pw_below_drewN | apply below_drew1) | exact HB.out)⟩⟩
      case round =>
        clear H'
        try clear p2
        try clear c3
        try clear c3b0
        try clear c3b1
        try clear c4
        try clear c4b0
        try clear c4b1
        try clear c5
        obtain ⟨x3_1, x12_1, rfl, HA, HK1, HO_3, HB⟩ := hrel
        cases gk with
        | zero => exact absurd HA.out (by simp [bits_Pack.l0])
        | succ k1 =>
          have H := HA.out
          clear HA
          simp only [bits_Pack.l0] at H
          by_cases c7 : x12_1 < (l0.length : Int)
          · rw [if_pos c7] at H
            have c7b0 : decide (x12_1 < (l0.length : Int)) = true := decide_eq_true c7
            clear c7
            by_cases c8 : 0 ≤ x12_1
            · rw [if_pos c8] at H
              have c8b0 : decide (0 ≤ x12_1) = true := decide_eq_true c8
              clear c8
              by_cases c9 : x12_1 < (l0.length : Int)
              · rw [if_pos c9] at H
                have c9b0 : decide (x12_1 < (l0.length : Int)) = true := decide_eq_true c9
                clear c9
                obtain ⟨bq10, hbq10⟩ : ∃ b_ : Bool, b_ = (rdOf false l0 x12_1) := ⟨_, rfl⟩
                replace H : (if bq10 = true then (if 0 ≤ (wrap64 (Int.tdiv x12_1 8)) then (if (wrap64 (Int.tdiv x12_1 8)) < (x3_1.length : Int) then (if 0 ≤ (Int.tmod x12_1 8) then (bits_Pack.l0 k1 (x3_1.set ((wrap64 (Int.tdiv x12_1 8)) : Int).toNat (Go.bits .or .u8 (rd x3_1 (wrap64 (Int.tdiv x12_1 8))) (shl .u8 1 (Int.tmod x12_1 8)))) l0 (l0.length : Int) (wrap64 (x12_1 + 1))) else (none)) else (none)) else (none)) else (bits_Pack.l0 k1 x3_1 l0 (l0.length : Int) (wrap64 (x12_1 + 1)))) = some r := by rw [← hbq10] at H; exact H
                have Nbq10 := Aside0.mk hbq10
                clear hbq10
                by_cases c11 : bq10 = true
                · subst c11
                  have H1 : (if 0 ≤ (wrap64 (Int.tdiv x12_1 8)) then (if (wrap64 (Int.tdiv x12_1 8)) < (x3_1.length : Int) then (if 0 ≤ (Int.tmod x12_1 8) then (bits_Pack.l0 k1 (x3_1.set ((wrap64 (Int.tdiv x12_1 8)) : Int).toNat (Go.bits .or .u8 (rd x3_1 (wrap64 (Int.tdiv x12_1 8))) (shl .u8 1 (Int.tmod x12_1 8)))) l0 (l0.length : Int) (wrap64 (x12_1 + 1))) else (none)) else (none)) else (none)) = some r := by rw [if_pos rfl] at H; exact H
                  clear H
                  have H := H1
                  clear H1
                  obtain ⟨ji12, hji12⟩ : ∃ j_ : Int, (wrap64 (Int.tdiv x12_1 8)) = j_ := ⟨_, rfl⟩
                  replace H : (if 0 ≤ (ji12) then (if (ji12) < (x3_1.length : Int) then (if 0 ≤ (Int.tmod x12_1 8) then (bits_Pack.l0 k1 (x3_1.set ((ji12) : Int).toNat (Go.bits .or .u8 (rd x3_1 (ji12)) (shl .u8 1 (Int.tmod x12_1 8)))) l0 (l0.length : Int) (wrap64 (x12_1 + 1))) else (none)) else (none)) else (none)) = some r := by first | (rw [hji12] at H; exact H) | (simp only [hji12] at H ⊢; exact H)
                  have hji12w : (IntKind.i64.wrap (Int.tdiv x12_1 8)) = ji12 := (i64_w _).trans hji12
                  by_cases c13 : 0 ≤ (ji12)
                  · rw [if_pos c13] at H
                    have c13b0 : decide (0 ≤ (ji12)) = true := decide_eq_true c13
                    clear c13
                    by_cases c14 : (ji12) < (x3_1.length : Int)
                    · rw [if_pos c14] at H
                      have c14b0 : decide ((ji12) < (x3_1.length : Int)) = true := decide_eq_true c14
                      clear c14
                      obtain ⟨ji15, hji15⟩ : ∃ j_ : Int, (Int.tmod x12_1 8) = j_ := ⟨_, rfl⟩
                      replace H : (if 0 ≤ (ji15) then (bits_Pack.l0 k1 (x3_1.set ((ji12) : Int).toNat (Go.bits .or .u8 (rd x3_1 (ji12)) (shl .u8 1 (ji15)))) l0 (l0.length : Int) (wrap64 (x12_1 + 1))) else (none)) = some r := by first | (rw [hji15] at H; exact H) | (simp only [hji15] at H ⊢; exact H)
                      by_cases c16 : 0 ≤ (ji15)
                      · rw [if_pos c16] at H
                        have c16b0 := eq_true c16
                        have c16b1 : decide (0 ≤ (ji15)) = true := decide_eq_true c16
                        clear c16
                        obtain ⟨ji17, hji17⟩ : ∃ j_ : Int, (shl .u8 1 (ji15)) = j_ := ⟨_, rfl⟩
                        replace H : (bits_Pack.l0 k1 (x3_1.set ((ji12) : Int).toNat (Go.bits .or .u8 (rd x3_1 (ji12)) (ji17))) l0 (l0.length : Int) (wrap64 (x12_1 + 1))) = some r := by first | (rw [hji17] at H; exact H) | (simp only [hji17] at H ⊢; exact H)
                        have hji17_ : (IntKind.u8.wrap (1 * 2 ^ min (ji15).toNat 8)) = ji17 := hji17
                        have hji17z : (ji15) ≤ 8 → (IntKind.u8.wrap (1 * 2 ^ (ji15).toNat)) = ji17 := shl_small hji17
                        have hji17u : (IntKind.u8.wrap (2 ^ min (ji15).toNat 8)) = ji17 := by have h_ := hji17_; rw [Int.one_mul] at h_; exact h_
                        have hji17v : (ji15) ≤ 8 → (IntKind.u8.wrap (2 ^ (ji15).toNat)) = ji17 := fun hle_ => by have h_ := hji17z hle_; rw [Int.one_mul] at h_; exact h_
                        obtain ⟨y129, hy129⟩ : ∃ y_ : List Int, y_ = (x3_1.set ((ji12) : Int).toNat (Go.bits .or .u8 (rd x3_1 (ji12)) (ji17))) := ⟨_, rfl⟩
                        replace H : (bits_Pack.l0 k1 y129 l0 (l0.length : Int) (wrap64 (x12_1 + 1))) = some r := by first | (rw [hy129]; with_reducible exact H) | (have H2_ := (Option.bind_some _ _).symm.trans H; rw [hy129]; with_reducible exact H2_) | (have H2_ := (Option.bind_some _ _).symm.trans H; with_reducible exact H2_) | with_reducible exact H | (rw [hy129]; exact H) | exact H
                        have Ny129 := Aside0.mk hy129
                        clear hy129
                        have H' := Aside0.mk H
                        clear H
                        have p127 : 0 ≤ (x12_1 : Int) := of_decide_eq_true (by first | (with_reducible assumption) | assumption)
                        have q127 : x12_1 < (l0.length : Int) := of_decide_eq_true (by first | (with_reducible assumption) | assumption)
                        obtain ⟨ad127, e127, hx127_0⟩ := Kd.at_bool HR0.out x12_1 p127 q127
                        (try rw [← Nbq10.out] at hx127_0)
                        cases e127
                        replace hx127_0 := (HB.out.cell (World.block_lt_of_cell? w _ hx127_0)).trans hx127_0
                        replace p127 := eq_true p127
                        replace q127 := eq_true q127
                        try go_wp2
                        have n0_ := Aside0.mk (Kd.R_drew HO_3.out)
                        have n1_ := Aside0.mk (below_drew1 HB.out)
                        clear HO_3
                        clear HB
                        have HO_3 := n0_
                        have HB := n1_
                        clear n0_ n1_
                        obtain ⟨Ao20, co20, eo20⟩ := Kd.R_slice HO_3.out
                        (first | subst eo20 | (injection eo20 with f1_ f2_ f3_; have f4_ := f1_.symm; have f5_ := f3_.symm; clear f1_ f2_ f3_; subst f4_; subst f5_))
                        have p128 : 0 ≤ ((ji12) : Int) := of_decide_eq_true (by first | (with_reducible assumption) | assumption)
                        have q128 : (ji12) < (x3_1.length : Int) := of_decide_eq_true (by first | (with_reducible assumption) | assumption)
                        obtain ⟨ad128, e128, hx128_0⟩ := Kd.at_int (Kd.R_reads' HO_3.out).2.2 (ji12) p128 q128
                        cases e128
                        replace p128 := eq_true p128
                        replace q128 := eq_true q128
                        have p18 : 0 ≤ ((ji12) : Int) := of_decide_eq_true (by first | (with_reducible assumption) | assumption)
                        have q18 : ((ji12) : Int) < ((x3_1.length : Int) : Int) := of_decide_eq_true (by first | (with_reducible assumption) | assumption)
                        obtain ⟨go18, co18, eo18, gb18, gl18, cl18, HG18⟩ := Kd.R_form HO_3.out (by omega)
                        (first | cases eo18 | (injection eo18 with ea_ en_ ec_; (first | subst ea_ | (injection ea_ with ea_; subst ea_)); subst ec_; clear en_))
                        have GB18 := Aside0.mk gb18
                        have GG18 := Aside0.mk HG18
                        clear gb18 gl18 HG18
                        (first | simp only [add_plain] at hx128_0 | skip)
                        obtain ⟨hx18_0, hf18_0⟩ := Kd.R_celln 0 HO_3.out ((ji12) : Int) p18 q18
                        replace p18 := eq_true p18
                        replace q18 := eq_true q18
                        have HP21 := Kd.R_putn HO_3.out ((ji12) : Int) (Go.bits .or .u8 (rd x3_1 (ji12)) (ji17))
                        rw [← Ny129.out] at HP21
                        have HQ21 := Aside0.mk HP21
                        clear HP21
                        refine start_ (n := 11) (S := fun w' => w'.cell? ⟨go18, ((ji12)).toNat, none⟩ = some (.int .u8 (rd x3_1 (ji12)))) (ds := [10]) #[false, false, false, false, false, false, false, false, false, false, false] (by kernel_rfl) rfl rfl (hx128_0) (fun hHeld => ?_); refine with_tabW bits_Pack.tab6 bits_Pack.bits6 (fun HT_ HW_ => ?_)
                        generalize wr.drew = w19 at HO_3 HB GG18 HQ21 hf18_0 hx128_0 hx18_0 hHeld ⊢
                        refine pure_ (i := 0) (N := some 18) (v := ?_) (a' := ?_) #[true, false, false, false, false, false, false, false, false, false, false] rfl rfl (any_of HT_.out (by kernel_rfl)) (fun _ _ _ h => h) (Or.inl ⟨by rfl, ?_⟩) ?_ ?_
                        rotate_left
                        · intro w'
                          go_simp
                          with_reducible rfl
                        rotate_left
                        · simp only [Act.put, List.setIfInBounds_toArray, List.set_cons_zero, List.set_cons_succ, i64_w, i32_w]
                          rfl
                        refine pure_ (i := 1) (N := some 19) (v := ?_) (a' := ?_) #[true, true, false, false, false, false, false, false, false, false, false] rfl rfl (any_of HT_.out (by kernel_rfl)) (fun _ _ _ h => h) (Or.inl ⟨by rfl, ?_⟩) ?_ ?_
                        rotate_left
                        · intro w'
                          go_simp
                          with_reducible rfl
                        rotate_left
                        · simp only [Act.put, List.setIfInBounds_toArray, List.set_cons_zero, List.set_cons_succ, i64_w, i32_w]
                          rfl
                        refine pure_ (i := 2) (N := some 20) (v := ?_) (a' := ?_) #[true, true, true, false, false, false, false, false, false, false, false] rfl rfl (any_of HT_.out (by kernel_rfl)) (fun _ _ _ h => h) (Or.inl ⟨by rfl, ?_⟩) ?_ ?_
                        rotate_left
                        · intro w'
                          go_simp
                          with_reducible rfl
                        rotate_left
                        · simp only [Act.put, List.setIfInBounds_toArray, List.set_cons_zero, List.set_cons_succ, i64_w, i32_w]
                          rfl
                        refine pure_ (i := 3) (N := some 21) (v := ?_) (a' := ?_) #[true, true, true, true, false, false, false, false, false, false, false] rfl rfl (any_of HT_.out (by kernel_rfl)) (fun _ _ _ h => h) (Or.inl ⟨by rfl, ?_⟩) ?_ ?_
                        rotate_left
                        · intro w'
                          go_simp
                          with_reducible rfl
                        rotate_left
                        · simp only [Act.put, List.setIfInBounds_toArray, List.set_cons_zero, List.set_cons_succ, i64_w, i32_w]
                          rfl
                        refine pure_ (i := 5) (N := some 23) (v := ?_) (a' := ?_) #[true, true, true, true, false, true, false, false, false, false, false] rfl rfl (any_of HT_.out (by kernel_rfl)) (fun _ _ _ h => h) (Or.inl ⟨by rfl, ?_⟩) ?_ ?_
                        rotate_left
                        · intro w'
                          go_simp
                          with_reducible rfl
                        rotate_left
                        · simp only [Act.put, List.setIfInBounds_toArray, List.set_cons_zero, List.set_cons_succ, i64_w, i32_w]
                          rfl
                        refine pure_ (i := 6) (N := some 24) (v := ?_) (a' := ?_) #[true, true, true, true, false, true, true, false, false, false, false] rfl rfl (any_of HT_.out (by kernel_rfl)) (fun _ _ _ h => h) (Or.inl ⟨by rfl, ?_⟩) ?_ ?_
                        rotate_left
                        · intro w'
                          go_simp
                          with_reducible rfl
                        rotate_left
                        · simp only [Act.put, List.setIfInBounds_toArray, List.set_cons_zero, List.set_cons_succ, i64_w, i32_w]
                          rfl
                        refine pure_ (i := 7) (N := some 25) (v := ?_) (a' := ?_) #[true, true, true, true, false, true, true, true, false, false, false] rfl rfl (any_of HT_.out (by kernel_rfl)) (fun _ _ _ h => h) (Or.inl ⟨by rfl, ?_⟩) ?_ ?_
                        rotate_left
                        · intro w'
                          go_simp
                          with_reducible rfl
                        rotate_left
                        · simp only [Act.put, List.setIfInBounds_toArray, List.set_cons_zero, List.set_cons_succ, i64_w, i32_w]
                          rfl
                        refine take_ (i := 4) (N := some 22) (v := ?_) (a' := ?_) #[true, true, true, true, true, true, true, true, false, false, false] rfl rfl (take_ofW HT_.out HW_.out (by kernel_rfl)) (fun _ _ _ h => h) (Or.inl ⟨by rfl, ?_⟩) hHeld ?_ ?_
                        rotate_left
                        · intro w' s0
                          go_simp
                          with_reducible rfl
                        rotate_left
                        · simp only [Act.put, List.setIfInBounds_toArray, List.set_cons_zero, List.set_cons_succ, i64_w, i32_w]
                          rfl
                        refine pure_ (i := 8) (N := some 26) (v := ?_) (a' := ?_) #[true, true, true, true, true, true, true, true, true, false, false] rfl rfl (any_of HT_.out (by kernel_rfl)) (fun _ _ _ h => h) (Or.inl ⟨by rfl, ?_⟩) ?_ ?_
                        rotate_left
                        · intro w'
                          go_simp
                          with_reducible rfl
                        rotate_left
                        · simp only [Act.put, List.setIfInBounds_toArray, List.set_cons_zero, List.set_cons_succ, i64_w, i32_w]
                          rfl
                        refine pure_ (i := 9) (N := some 27) (v := ?_) (a' := ?_) #[true, true, true, true, true, true, true, true, true, true, false] rfl rfl (any_of HT_.out (by kernel_rfl)) (fun _ _ _ h => h) (Or.inl ⟨by rfl, ?_⟩) ?_ ?_
                        rotate_left
                        · intro w'
                          go_simp
                          with_reducible rfl
                        rotate_left
                        · simp only [Act.put, List.setIfInBounds_toArray, List.set_cons_zero, List.set_cons_succ, i64_w, i32_w]
                          rfl
                        refine last_ (i := 10) (N := none) #[true, true, true, true, true, true, true, true, true, true, true] rfl rfl (one_of HT_.out (by kernel_rfl)) (by decide) (fun K hK => ?_)
                        refine skip_ (w1 := ?_) (by rfl) rfl ?_ ?_
                        rotate_left
                        · go_simp
                          rfl
                        refine hK.out _ _ ?_
                        clear hK K
                        refine done_ (done_of HT_.out (by kernel_rfl)) ?_
                        try go_wp2
                        go_roundg k1
                        case measure => have := HK1.out; omega
                        case rel => exact ⟨(y129), (wrap64 (x12_1 + 1)), (by first | rfl | (simp; done) | (simp [*]; done)), H', ⟨by have := HK1.out; omega⟩, ⟨by (with_reducible repeat (first | apply Kd.R_alloc | apply Kd.R_drewN | apply Kd.R_drew)); exact HQ21.out⟩, ⟨by repeat (first | (with_reducible first | exact HB.out | apply below_alloc | apply pw_below_drewN | apply below_drew1 | refine below_set ?_ GB18.out) | exact HB.out)⟩⟩
                      · rw [if_neg c16] at H
                        exact absurd H (by simp)
                    · rw [if_neg c14] at H
                      exact absurd H (by simp)
                  · rw [if_neg c13] at H
                    exact absurd H (by simp)
                · replace c11 := Bool.eq_false_iff.mpr c11
                  subst c11
                  have H1 : (bits_Pack.l0 k1 x3_1 l0 (l0.length : Int) (wrap64 (x12_1 + 1))) = some r := by rw [if_neg (show ¬ (false = true) by decide)] at H; exact H
                  clear H
                  have H := H1
                  clear H1
                  have H' := Aside0.mk H
                  clear H
                  have p127 : 0 ≤ (x12_1 : Int) := of_decide_eq_true (by first | (with_reducible assumption) | assumption)
                  have q127 : x12_1 < (l0.length : Int) := of_decide_eq_true (by first | (with_reducible assumption) | assumption)
                  obtain ⟨ad127, e127, hx127_0⟩ := Kd.at_bool HR0.out x12_1 p127 q127
                  (try rw [← Nbq10.out] at hx127_0)
                  cases e127
                  replace hx127_0 := (HB.out.cell (World.block_lt_of_cell? w _ hx127_0)).trans hx127_0
                  replace p127 := eq_true p127
                  replace q127 := eq_true q127
                  go_wp2
                  go_roundg k1
                  case measure => have := HK1.out; omega
                  case rel => exact ⟨(x3_1), (wrap64 (x12_1 + 1)), (by first | rfl | (simp; done) | (simp [*]; done)), H', ⟨by have := HK1.out; omega⟩, ⟨by (with_reducible repeat (first | apply Kd.R_alloc | apply Kd.R_drewN | apply Kd.R_drew)); exact HO_3.out⟩, ⟨by repeat (first | (with_reducible first | exact HB.out | apply below_alloc | apply pw_below_drewN | apply below_drew1) | exact HB.out)⟩⟩
              · rw [if_neg c9] at H
                exact absurd H (by simp)
            · rw [if_neg c8] at H
              exact absurd H (by simp)
          · rw [if_neg c7] at H
            have c7b0 : decide (x12_1 < (l0.length : Int)) = false := decide_eq_false c7
            clear c7
            obtain rfl := Option.some.inj H
            go_wp2
            go_ret
            exact ⟨_, by first | rfl | (simp [errW_none, errW_some] <;> rfl) | (simp [*, errW_none, errW_some] <;> rfl), by (with_reducible repeat (first | apply Kd.R_alloc | apply Kd.R_drewN | apply Kd.R_drew)); exact HO_3.out, by repeat (first | (with_reducible first | exact HB.out | apply below_alloc | apply pw_below_drewN | apply below_drew1) | exact HB.out)⟩
    · rw [if_neg c4] at H
      exact absurd H (by simp)
  · rw [if_neg c3] at H
    exact absurd H (by simp)
end Go.Proofs.Ytggiobdjepgkfaa.P
end
section
namespace Go.Proofs.Ytggiobdjepgkfaa.P
open Go.RowKit Go.Proofs.YtggiobdjepgkfaaW.PrintWords Go.Proofs.YtggiobdjepgkfaaW.PrintLast Go.Proofs.YtggiobdjepgkfaaW.PrintMore
attribute [local go_sem] max2_int min2_int max_two min_two max_three min_three max_four min_four   -- for this text's walks alone
mutual
def bits_Unpack.j0 : Nat → List Int → Int → Bool → Option (List Bool × Bool)
  | 0, _, _, _ => none
  | k + 1, x0, x1, x17 => if x17 = true then (some (([] : List Bool), false)) else (if 0 ≤ x1 then (if (x1 : Int).toNat ≤ 281474976710656 then (bits_Unpack.l0 k x0 x1 (List.replicate (x1 : Int).toNat false) (wrap64 (8 * (x0.length : Int))) 0) else (none)) else (none))
def bits_Unpack.l0 : Nat → List Int → Int → List Bool → Int → Int → Option (List Bool × Bool)
  | 0, _, _, _, _, _ => none
  | k + 1, x0, x1, x6, x22, x23 => if x23 < x22 then (if 0 ≤ (wrap64 (Int.tdiv x23 8)) then (if (wrap64 (Int.tdiv x23 8)) < (x0.length : Int) then (if 0 ≤ (Int.tmod x23 8) then (if x23 < x1 then (if 0 ≤ x23 then (if x23 < (x6.length : Int) then (bits_Unpack.l0 k x0 x1 (x6.set (x23 : Int).toNat ((Go.bits .and .u8 (shr .u8 (rd x0 (wrap64 (Int.tdiv x23 8))) (Int.tmod x23 8)) 1) == 1)) x22 (wrap64 (x23 + 1))) else (none)) else (none)) else (if (Go.bits .and .u8 (shr .u8 (rd x0 (wrap64 (Int.tdiv x23 8))) (Int.tmod x23 8)) 1) = 1 then (some (([] : List Bool), false)) else (bits_Unpack.l0 k x0 x1 x6 x22 (wrap64 (x23 + 1))))) else (none)) else (none)) else (none)) else (some (x6, true))
end
def bits_Unpack.f (k : Nat) (l0 : List Int) (a1 : Int) : Option (List Bool × Bool) := if a1 < 0 then (bits_Unpack.j0 k l0 a1 true) else ((bits_Many.f a1).bind fun t106 => (bits_Unpack.j0 k l0 a1 ((l0.length : Int) != t106)))
theorem bits_Unpack.calls (k : Nat) (A0 : Option Addr) (c0 : Nat) (l0 : List Int) (a1 : Int) (r1 : List Bool) (r2 : Bool) (w : World) (hr0 : Kd.C (Kd.int .u8) w A0 l0.length l0) (hc0 : l0.length ≤ c0) (h : bits_Unpack.f k l0 a1 = some (r1, r2)) :
    Calls Try.prog 48 #[.slice A0 l0.length c0, .int .i64 a1] w fun e w' => ∃ v0_ : Value, e = .returned (.tuple #[v0_, .bool r2]) ∧ Kd.R Kd.bool 4 w' w.heap.size (fun _ => True) v0_ r1 ∧ Below w.heap.size w w' := by
  have HR0 := Aside0.mk hr0
  have HC0 := Aside0.mk hc0
  clear hr0 hc0
  have HB := Aside0.mk (Below.refl w.heap.size w)
  have H : (if a1 < 0 then (bits_Unpack.j0 k l0 a1 true) else ((bits_Many.f a1).bind fun t106 => (bits_Unpack.j0 k l0 a1 ((l0.length : Int) != t106)))) = some (r1, r2) := h
  clear h
  have HC3 := Aside0.mk H
  clear H
  go_enter Try.func48, Try.ntmps48
  go_upto_region 1 with (fail)
  go_cut [17] (fun v17 wc => ∃ (kq : Nat) (x17_2 : Bool), v17 = .bool x17_2 ∧ Aside0 (bits_Unpack.j0 kq l0 a1 x17_2 = some (r1, r2)) ∧ Aside0 (kq ≤ k) ∧ Aside0 (Below w.heap.size w wc))
  case first =>
    have H := HC3.out
    clear HC3
    by_cases c4 : a1 < 0
    · rw [if_pos c4] at H
      have c4b0 : decide (a1 < 0) = true := decide_eq_true c4
      clear c4
      (first | rw [c4b0] | (simp only [i64_w, i32_w]; rw [c4b0]) | skip)
      have H' := Aside0.mk H
      clear H
      go_wp2
      go_meet
      case rel => exact ⟨_, (true), (by first | rfl | (simp; done) | (simp [*]; done)), H', ⟨by first | omega | exact Nat.le_refl _⟩, ⟨by repeat (first | (with_reducible first | exact HB.out | apply below_alloc | apply pw_below_drewN | apply below_drew1) | exact HB.out)⟩⟩
    · rw [if_neg c4] at H
      have c4b0 : decide (a1 < 0) = false := decide_eq_false c4
      clear c4
      (first | rw [c4b0] | (simp only [i64_w, i32_w]; rw [c4b0]) | skip)
      replace H := Option.bind_eq_some_iff.mp H
      obtain ⟨t106, A50, H⟩ := H
      replace H : (bits_Unpack.j0 k l0 a1 ((l0.length : Int) != t106)) = some (r1, r2) := H
      have A5 := Aside0.mk A50
      clear A50
      have H' := Aside0.mk H
      clear H
      go_wp2_with (first | (go_at_call 47; (with_reducible refine (bits_Many.calls a1 t106 _ A5.out).mono ?_); rintro e w' ⟨rfl, ⟨nd, rfl⟩⟩))
      go_meet
      case rel => exact ⟨_, (((l0.length : Int) != t106)), (by first | rfl | (simp; done) | (simp [*]; done)), H', ⟨by first | omega | exact Nat.le_refl _⟩, ⟨by repeat (first | (with_reducible first | exact HB.out | apply below_alloc | apply pw_below_drewN | apply below_drew1) | exact HB.out)⟩⟩
  case rest =>
    clear HC3
    try clear p2
    try clear c4
    try clear c4b0
    obtain ⟨kq, x17_2, rfl, HA, HJ2, HB⟩ := hcut
    cases kq with
    | zero => exact absurd HA.out (by simp [bits_Unpack.j0])
    | succ kj2 =>
      have H := HA.out
      clear HA
      simp only [bits_Unpack.j0] at H
      by_cases c6 : x17_2 = true
      · subst c6
        have H1 : (some (([] : List Bool), false)) = some (r1, r2) := by rw [if_pos rfl] at H; exact H
        clear H
        have H := H1
        clear H1
        simp only [Option.some.injEq, Prod.mk.injEq] at H
        obtain ⟨rfl, rfl⟩ := H
        go_wp2
        go_ret2
        exact ⟨_, by first | rfl | (simp [errW_none, errW_some] <;> rfl) | (simp [*, errW_none, errW_some] <;> rfl), by first | exact Kd.R_nil _ _ _ _ _ | exact Kd.N_nil _ _ _ _ _ | exact Kd.V_nil _ _ _ _ _ | exact Kd.Q_nil _ _ _ _ _ | exact Kd.S_nil _ _ _ _ _, by repeat (first | (with_reducible first | exact HB.out | apply below_alloc | apply pw_below_drewN | apply below_drew1) | exact HB.out)⟩
      · replace c6 := Bool.eq_false_iff.mpr c6
        subst c6
        have H1 : (if 0 ≤ a1 then (if (a1 : Int).toNat ≤ 281474976710656 then (bits_Unpack.l0 kj2 l0 a1 (List.replicate (a1 : Int).toNat false) (wrap64 (8 * (l0.length : Int))) 0) else (none)) else (none)) = some (r1, r2) := by rw [if_neg (show ¬ (false = true) by decide)] at H; exact H
        clear H
        have H := H1
        clear H1
        by_cases c7 : 0 ≤ a1
        · rw [if_pos c7] at H
          have c7b0 := eq_true c7
          have c7b1 : decide (0 ≤ a1) = true := decide_eq_true c7
          clear c7
          by_cases c8 : (a1 : Int).toNat ≤ 281474976710656
          · rw [if_pos c8] at H
            have c8b0 := eq_true c8
            have c8b1 : decide ((a1 : Int).toNat ≤ 281474976710656) = true := decide_eq_true c8
            clear c8
            obtain ⟨y107, hy107⟩ : ∃ y_ : List Bool, y_ = (List.replicate (a1 : Int).toNat false) := ⟨_, rfl⟩
            replace H : (bits_Unpack.l0 kj2 l0 a1 y107 (wrap64 (8 * (l0.length : Int))) 0) = some (r1, r2) := by first | (rw [hy107]; with_reducible exact H) | (have H2_ := (Option.bind_some _ _).symm.trans H; rw [hy107]; with_reducible exact H2_) | (have H2_ := (Option.bind_some _ _).symm.trans H; with_reducible exact H2_) | with_reducible exact H | (rw [hy107]; exact H) | exact H
            have Ny107 := Aside0.mk hy107
            clear hy107
            have H' := Aside0.mk H
            clear H
            go_wp2_with (first | ((with_reducible refine gate_dst (N := 19) rfl ?_); (try (refine gate_guard (by rfl) ?_; dsimp only)); refine Kd.R_make Kd.bool _ 4 rfl (N := 19) rfl 26 _ _ rfl a1 rfl rfl Try.underlying26 (.bool false) 1 info4 rfl (by decide) (by omega) false (ok := fun _ => True) (okp := fun _ => True) rfl (fun _ hk => hk) trivial (of_decide_eq_true (by first | (with_reducible assumption) | assumption)) (Nat.le_trans (Nat.mul_le_mul_right _ (of_decide_eq_true (by first | (with_reducible assumption) | assumption) : a1.toNat ≤ 281474976710656)) (by omega)) (Below.refl _ _) (Nat.le_refl _) ?_; intro v108 w9 ho10 hb hg_ hnew_; clear hg_ hnew_; (first | rw [← Ny107.out] at ho10 | (simp only [Int.reduceToNat] at ho10; rw [← Ny107.out] at ho10)); have n0_ := Aside0.mk (Kd.R_lower ho10 (below_size (by repeat (first | (with_reducible first | exact HB.out | apply below_alloc | apply pw_below_drewN | apply below_drew1) | exact HB.out)))); have n1_ := Aside0.mk (below_step (by repeat (first | (with_reducible first | exact HB.out | apply below_alloc | apply pw_below_drewN | apply below_drew1) | exact HB.out)) hb); clear HB; have HO109 := n0_; have HB := n1_; clear n0_ n1_; clear hb ho10))
            go_loopg [23] kj2 (fun kq v23 w' => ∃ (x6_2 : List Bool) (x23_2 : Int), v23 = .int .i64 x23_2 ∧ Aside0 (bits_Unpack.l0 kq l0 a1 x6_2 (wrap64 (8 * (l0.length : Int))) x23_2 = some (r1, r2)) ∧ Aside0 (kq ≤ kj2) ∧ Aside0 (Kd.R Kd.bool 4 w' w.heap.size (fun _ => True) v108 x6_2) ∧ Aside0 (Below w.heap.size w w'))
            case atStart => exact ⟨(y107), (0), (by first | rfl | (simp; done) | (simp [*]; done)), H', ⟨Nat.le_refl _⟩, ⟨by (with_reducible repeat (first | apply Kd.R_alloc | apply Kd.R_drewN | apply Kd.R_drew)); exact HO109.out⟩, ⟨by repeat (first | (with_reducible first | exact HB.out | apply below_alloc | apply pw_below_drewN | apply below_drew1) | exact HB.out)⟩⟩
            case round =>
              clear H'
              try clear p2
              try clear c4
              try clear c4b0
              try clear c6
              try clear p6
              try clear c7
              try clear c7b0
              try clear c7b1
              try clear c8
              try clear c8b0
              try clear c8b1
              try clear p2
              obtain ⟨x6_2, x23_2, rfl, HA, HK2, HO_6, HB⟩ := hrel
              cases gk with
              | zero => exact absurd HA.out (by simp [bits_Unpack.l0])
              | succ k2 =>
                have H := HA.out
                clear HA
                simp only [bits_Unpack.l0] at H
                by_cases c11 : x23_2 < (wrap64 (8 * (l0.length : Int)))
                · rw [if_pos c11] at H
                  have c11b0 : decide (x23_2 < (wrap64 (8 * (l0.length : Int)))) = true := decide_eq_true c11
                  clear c11
                  obtain ⟨ji12, hji12⟩ : ∃ j_ : Int, (wrap64 (Int.tdiv x23_2 8)) = j_ := ⟨_, rfl⟩
                  replace H : (if 0 ≤ (ji12) then (if (ji12) < (l0.length : Int) then (if 0 ≤ (Int.tmod x23_2 8) then (if x23_2 < a1 then (if 0 ≤ x23_2 then (if x23_2 < (x6_2.length : Int) then (bits_Unpack.l0 k2 l0 a1 (x6_2.set (x23_2 : Int).toNat ((Go.bits .and .u8 (shr .u8 (rd l0 (ji12)) (Int.tmod x23_2 8)) 1) == 1)) (wrap64 (8 * (l0.length : Int))) (wrap64 (x23_2 + 1))) else (none)) else (none)) else (if (Go.bits .and .u8 (shr .u8 (rd l0 (ji12)) (Int.tmod x23_2 8)) 1) = 1 then (some (([] : List Bool), false)) else (bits_Unpack.l0 k2 l0 a1 x6_2 (wrap64 (8 * (l0.length : Int))) (wrap64 (x23_2 + 1))))) else (none)) else (none)) else (none)) = some (r1, r2) := by first | (rw [hji12] at H; exact H) | (simp only [hji12] at H ⊢; exact H)
                  have hji12w : (IntKind.i64.wrap (Int.tdiv x23_2 8)) = ji12 := (i64_w _).trans hji12
                  by_cases c13 : 0 ≤ (ji12)
                  · rw [if_pos c13] at H
                    have c13b0 : decide (0 ≤ (ji12)) = true := decide_eq_true c13
                    clear c13
                    by_cases c14 : (ji12) < (l0.length : Int)
                    · rw [if_pos c14] at H
                      have c14b0 : decide ((ji12) < (l0.length : Int)) = true := decide_eq_true c14
                      clear c14
                      obtain ⟨ji15, hji15⟩ : ∃ j_ : Int, (Int.tmod x23_2 8) = j_ := ⟨_, rfl⟩
                      replace H : (if 0 ≤ (ji15) then (if x23_2 < a1 then (if 0 ≤ x23_2 then (if x23_2 < (x6_2.length : Int) then (bits_Unpack.l0 k2 l0 a1 (x6_2.set (x23_2 : Int).toNat ((Go.bits .and .u8 (shr .u8 (rd l0 (ji12)) (ji15)) 1) == 1)) (wrap64 (8 * (l0.length : Int))) (wrap64 (x23_2 + 1))) else (none)) else (none)) else (if (Go.bits .and .u8 (shr .u8 (rd l0 (ji12)) (ji15)) 1) = 1 then (some (([] : List Bool), false)) else (bits_Unpack.l0 k2 l0 a1 x6_2 (wrap64 (8 * (l0.length : Int))) (wrap64 (x23_2 + 1))))) else (none)) = some (r1, r2) := by first | (rw [hji15] at H; exact H) | (simp only [hji15] at H ⊢; exact H)
                      by_cases c16 : 0 ≤ (ji15)
                      · rw [if_pos c16] at H
                        have c16b0 := eq_true c16
                        have c16b1 : decide (0 ≤ (ji15)) = true := decide_eq_true c16
                        clear c16
                        obtain ⟨ji17, hji17⟩ : ∃ j_ : Int, (shr .u8 (rd l0 (ji12)) (ji15)) = j_ := ⟨_, rfl⟩
                        replace H : (if x23_2 < a1 then (if 0 ≤ x23_2 then (if x23_2 < (x6_2.length : Int) then (bits_Unpack.l0 k2 l0 a1 (x6_2.set (x23_2 : Int).toNat ((Go.bits .and .u8 (ji17) 1) == 1)) (wrap64 (8 * (l0.length : Int))) (wrap64 (x23_2 + 1))) else (none)) else (none)) else (if (Go.bits .and .u8 (ji17) 1) = 1 then (some (([] : List Bool), false)) else (bits_Unpack.l0 k2 l0 a1 x6_2 (wrap64 (8 * (l0.length : Int))) (wrap64 (x23_2 + 1))))) = some (r1, r2) := by first | (rw [hji17] at H; exact H) | (simp only [hji17] at H ⊢; exact H)
                        have hji17_ : ((rd l0 (ji12)) / 2 ^ min (ji15).toNat 8) = ji17 := hji17
                        have hji17z : (ji15) ≤ 8 → ((rd l0 (ji12)) / 2 ^ (ji15).toNat) = ji17 := shr_small hji17
                        by_cases c18 : x23_2 < a1
                        · rw [if_pos c18] at H
                          have c18b0 : decide (x23_2 < a1) = true := decide_eq_true c18
                          clear c18
                          by_cases c19 : 0 ≤ x23_2
                          · rw [if_pos c19] at H
                            have c19b0 : decide (0 ≤ x23_2) = true := decide_eq_true c19
                            clear c19
                            by_cases c20 : x23_2 < (x6_2.length : Int)
                            · rw [if_pos c20] at H
                              have c20b0 : decide (x23_2 < (x6_2.length : Int)) = true := decide_eq_true c20
                              clear c20
                              obtain ⟨y111, hy111⟩ : ∃ y_ : List Bool, y_ = (x6_2.set (x23_2 : Int).toNat ((Go.bits .and .u8 (ji17) 1) == 1)) := ⟨_, rfl⟩
                              replace H : (bits_Unpack.l0 k2 l0 a1 y111 (wrap64 (8 * (l0.length : Int))) (wrap64 (x23_2 + 1))) = some (r1, r2) := by first | (rw [hy111]; with_reducible exact H) | (have H2_ := (Option.bind_some _ _).symm.trans H; rw [hy111]; with_reducible exact H2_) | (have H2_ := (Option.bind_some _ _).symm.trans H; with_reducible exact H2_) | with_reducible exact H | (rw [hy111]; exact H) | exact H
                              have Ny111 := Aside0.mk hy111
                              clear hy111
                              have H' := Aside0.mk H
                              clear H
                              have p110 : 0 ≤ ((ji12) : Int) := of_decide_eq_true (by first | (with_reducible assumption) | assumption)
                              have q110 : (ji12) < (l0.length : Int) := of_decide_eq_true (by first | (with_reducible assumption) | assumption)
                              obtain ⟨ad110, e110, hx110_0⟩ := Kd.at_int HR0.out (ji12) p110 q110
                              cases e110
                              replace hx110_0 := (HB.out.cell (World.block_lt_of_cell? w _ hx110_0)).trans hx110_0
                              replace p110 := eq_true p110
                              replace q110 := eq_true q110
                              have p21 : 0 ≤ (x23_2 : Int) := of_decide_eq_true (by first | (with_reducible assumption) | assumption)
                              have q21 : (x23_2 : Int) < ((x6_2.length : Int) : Int) := of_decide_eq_true (by first | (with_reducible assumption) | assumption)
                              obtain ⟨go21, co21, eo21, gb21, gl21, cl21, HG21⟩ := Kd.R_form HO_6.out (by omega)
                              (first | cases eo21 | (injection eo21 with ea_ en_ ec_; (first | subst ea_ | (injection ea_ with ea_; subst ea_)); subst ec_; clear en_))
                              have GB21 := Aside0.mk gb21
                              have GG21 := Aside0.mk HG21
                              clear gb21 gl21 HG21
                              obtain ⟨hx21_0, hf21_0⟩ := Kd.R_celln false HO_6.out (x23_2 : Int) p21 q21
                              replace p21 := eq_true p21
                              replace q21 := eq_true q21
                              have HP22 := Kd.R_putg HO_6.out (x23_2 : Int) ((Go.bits .and .u8 (ji17) 1) == 1)
                              go_wp2_with (first | ((with_reducible refine gate_store (t := 4) (p := 42) rfl ?_); refine store_event (t := 4) (p := 42) (v := ?vo_w23) (w1 := (wr.setCell ⟨go21, (x23_2 : Int).toNat, none⟩ (.bool ((Go.bits .and .u8 (ji17) 1) == 1)))) ?hg ?ho ?hn ?hr ?_; (case ho => rfl); (case hg => rfl); (case hn => rfl); (case hr => first | (go_simp; done) | (go_simp; rfl)); intro w23 hw; have hg : wr.grownBy w23 (some go21) := (by rw [hw]; exact HP22.2); have hp_ : Kd.R Kd.bool 4 w23 w.heap.size (fun _ => True) (.slice (some ⟨go21, 0, none⟩) x6_2.length co21) y111 := (by rw [hw, Ny111.out]; exact HP22.1); clear HP22; have n0_ := Aside0.mk (hp_); have n1_ := Aside0.mk ((by rw [hw]; exact below_set (HB.out) GB21.out : Below w.heap.size w w23)); clear HO_6; clear HB; have HO_6 := n0_; have HB := n1_; clear n0_ n1_; clear hg hw hp_))
                              go_roundg k2
                              case measure => have := HJ2.out; have := HK2.out; omega
                              case rel => exact ⟨(y111), (wrap64 (x23_2 + 1)), (by first | rfl | (simp; done) | (simp [*]; done)), H', ⟨by have := HJ2.out; have := HK2.out; omega⟩, ⟨by (with_reducible repeat (first | apply Kd.R_alloc | apply Kd.R_drewN | apply Kd.R_drew)); exact HO_6.out⟩, ⟨by repeat (first | (with_reducible first | exact HB.out | apply below_alloc | apply pw_below_drewN | apply below_drew1) | exact HB.out)⟩⟩
                            · rw [if_neg c20] at H
                              exact absurd H (by simp)
                          · rw [if_neg c19] at H
                            exact absurd H (by simp)
                        · rw [if_neg c18] at H
                          have c18b0 : decide (x23_2 < a1) = false := decide_eq_false c18
                          clear c18
                          by_cases c24 : (Go.bits .and .u8 (ji17) 1) = 1
                          · rw [if_pos c24] at H
                            have c24b0 : ((Go.bits .and .u8 (ji17) 1) == 1) = true := beq_iff_eq.mpr c24
                            have c24b1 : ((Go.bits .and .u8 (ji17) 1) != 1) = false := bne_eq_false_iff_eq.mpr c24
                            clear c24
                            simp only [Option.some.injEq, Prod.mk.injEq] at H
                            obtain ⟨rfl, rfl⟩ := H
                            have p110 : 0 ≤ ((ji12) : Int) := of_decide_eq_true (by first | (with_reducible assumption) | assumption)
                            have q110 : (ji12) < (l0.length : Int) := of_decide_eq_true (by first | (with_reducible assumption) | assumption)
                            obtain ⟨ad110, e110, hx110_0⟩ := Kd.at_int HR0.out (ji12) p110 q110
                            cases e110
                            replace hx110_0 := (HB.out.cell (World.block_lt_of_cell? w _ hx110_0)).trans hx110_0
                            replace p110 := eq_true p110
                            replace q110 := eq_true q110
                            go_wp2
                            go_ret2
                            exact ⟨_, by first | rfl | (simp [errW_none, errW_some] <;> rfl) | (simp only [← hji12, ← hji15, ← hji17]; first | rfl | (simp [errW_none, errW_some] <;> rfl)) | (simp [*, errW_none, errW_some] <;> rfl), by first | exact Kd.R_nil _ _ _ _ _ | exact Kd.N_nil _ _ _ _ _ | exact Kd.V_nil _ _ _ _ _ | exact Kd.Q_nil _ _ _ _ _ | exact Kd.S_nil _ _ _ _ _, by repeat (first | (with_reducible first | exact HB.out | apply below_alloc | apply pw_below_drewN | apply below_drew1) | exact HB.out)⟩
                          · rw [if_neg c24] at H
                            have c24b0 : ((Go.bits .and .u8 (ji17) 1) == 1) = false := beq_eq_false_iff_ne.mpr c24
                            have c24b1 : ((Go.bits .and .u8 (ji17) 1) != 1) = true := bne_iff_ne.mpr c24
                            have H' := Aside0.mk H
                            clear H
                            have p110 : 0 ≤ ((ji12) : Int) := of_decide_eq_true (by first | (with_reducible assumption) | assumption)
                            have q110 : (ji12) < (l0.length : Int) := of_decide_eq_true (by first | (with_reducible assumption) | assumption)
                            obtain ⟨ad110, e110, hx110_0⟩ := Kd.at_int HR0.out (ji12) p110 q110
                            cases e110
                            replace hx110_0 := (HB.out.cell (World.block_lt_of_cell? w _ hx110_0)).trans hx110_0
                            replace p110 := eq_true p110
                            replace q110 := eq_true q110
                            go_wp2
                            go_roundg k2
                            case measure => have := HJ2.out; have := HK2.out; omega
                            case rel => exact ⟨(x6_2), (wrap64 (x23_2 + 1)), (by first | rfl | (simp; done) | (simp [*]; done)), H', ⟨by have := HJ2.out; have := HK2.out; omega⟩, ⟨by (with_reducible repeat (first | apply Kd.R_alloc | apply Kd.R_drewN | apply Kd.R_drew)); exact HO_6.out⟩, ⟨by repeat (first | (with_reducible first | exact HB.out | apply below_alloc | apply pw_below_drewN | apply below_drew1) | exact HB.out)⟩⟩
                      · rw [if_neg c16] at H
                        exact absurd H (by simp)
                    · rw [if_neg c14] at H
                      exact absurd H (by simp)
                  · rw [if_neg c13] at H
                    exact absurd H (by simp)
                · rw [if_neg c11] at H
                  have c11b0 : decide (x23_2 < (wrap64 (8 * (l0.length : Int)))) = false := decide_eq_false c11
                  clear c11
                  simp only [Option.some.injEq, Prod.mk.injEq] at H
                  obtain ⟨rfl, rfl⟩ := H
                  go_wp2
                  go_ret2
                  exact ⟨_, by first | rfl | (simp [errW_none, errW_some] <;> rfl) | (simp [*, errW_none, errW_some] <;> rfl), by (with_reducible repeat (first | apply Kd.R_alloc | apply Kd.R_drewN | apply Kd.R_drew)); exact HO_6.out, by repeat (first | (with_reducible first | exact HB.out | apply below_alloc | apply pw_below_drewN | apply below_drew1) | exact HB.out)⟩
          · rw [if_neg c8] at H
            exact absurd H (by simp)
        · rw [if_neg c7] at H
          exact absurd H (by simp)
end Go.Proofs.Ytggiobdjepgkfaa.P
end
section
namespace Go.Proofs.Ytggiobdjepgkfaa.Bits
open Go.RowKit Go.Proofs.Ytggiobdjepgkfaa.P Go.Proofs.Ytggiobdjepgkfaa.E Go.Proofs.YtggiobdjepgkfaaW.PrintWords Go.Proofs.YtggiobdjepgkfaaW.PrintLast Go.Proofs.YtggiobdjepgkfaaW.PrintMore
def byteN (l : List Bool) (j : Nat) : Nat :=
  (l.getD (8 * j) false).toNat + 2 * (l.getD (8 * j + 1) false).toNat + 4 * (l.getD (8 * j + 2) false).toNat + 8 * (l.getD (8 * j + 3) false).toNat +
  16 * (l.getD (8 * j + 4) false).toNat + 32 * (l.getD (8 * j + 5) false).toNat + 64 * (l.getD (8 * j + 6) false).toNat + 128 * (l.getD (8 * j + 7) false).toNat
def bytesN (n : Nat) : Nat := (n + 7) / 8
def packS (l : List Bool) : List Int := (List.range (bytesN l.length)).map fun j => (byteN l j : Int)
def bitAt (b : List Int) (i : Nat) : Bool := ((b.getD (i / 8) 0).toNat / 2 ^ (i % 8)) % 2 == 1
def unpackS (b : List Int) (n : Nat) : List Bool := (List.range n).map (bitAt b)
def tail0 (b : List Int) (n : Nat) : Bool := (List.range (8 * b.length)).all fun i => decide (i < n) || !bitAt b i
def unpackR (b : List Int) (n : Int) : List Bool × Bool :=
  if n < 0 ∨ b.length ≠ bytesN n.toNat ∨ tail0 b n.toNat = false then ([], false) else (unpackS b n.toNat, true)
theorem toNat_le (b : Bool) : b.toNat ≤ 1 := by cases b <;> simp
theorem many_nat (n : Nat) (h : (n : Int) < 9223372036854775808) : bits_Many.f (n : Int) = some (bytesN n : Int) := by
  unfold bits_Many.f bytesN
  by_cases h1 : (n : Int) < 1
  · rw [if_pos h1]
    have : n = 0 := by omega
    subst this; rfl
  · rw [if_neg h1, wrap64_id (x := (n : Int) - 1) (by omega) (by omega), tdiv_id (by omega), wrap64_id (x := ((n : Int) - 1) / 8) (by omega) (by omega), wrap64_id (by omega) (by omega)]
    congr 1
    omega
theorem many_int (n : Int) (h0 : -9223372036854775808 ≤ n) (h1 : n < 9223372036854775808) : bits_Many.f n = some (bytesN n.toNat : Int) := by
  by_cases h : 0 ≤ n
  · obtain ⟨m, rfl⟩ := Int.eq_ofNat_of_zero_le h
    exact many_nat m h1
  · unfold bits_Many.f
    rw [if_pos (by omega)]
    have : n.toNat = 0 := by omega
    rw [this]; rfl
theorem byteN_lt (l : List Bool) (j : Nat) : byteN l j < 256 := by
  unfold byteN
  have h0 := toNat_le (l.getD (8 * j) false)
  have h1 := toNat_le (l.getD (8 * j + 1) false)
  have h2 := toNat_le (l.getD (8 * j + 2) false)
  have h3 := toNat_le (l.getD (8 * j + 3) false)
  have h4 := toNat_le (l.getD (8 * j + 4) false)
  have h5 := toNat_le (l.getD (8 * j + 5) false)
  have h6 := toNat_le (l.getD (8 * j + 6) false)
  have h7 := toNat_le (l.getD (8 * j + 7) false)
  generalize (l.getD (8 * j) false).toNat = x0 at *
  generalize (l.getD (8 * j + 1) false).toNat = x1 at *
  generalize (l.getD (8 * j + 2) false).toNat = x2 at *
  generalize (l.getD (8 * j + 3) false).toNat = x3 at *
  generalize (l.getD (8 * j + 4) false).toNat = x4 at *
  generalize (l.getD (8 * j + 5) false).toNat = x5 at *
  generalize (l.getD (8 * j + 6) false).toNat = x6 at *
  generalize (l.getD (8 * j + 7) false).toNat = x7 at *
  omega
theorem bits8 (x0 x1 x2 x3 x4 x5 x6 x7 : Nat) (h0 : x0 ≤ 1) (h1 : x1 ≤ 1) (h2 : x2 ≤ 1) (h3 : x3 ≤ 1) (h4 : x4 ≤ 1) (h5 : x5 ≤ 1) (h6 : x6 ≤ 1) (h7 : x7 ≤ 1) :
    (x0 + 2 * x1 + 4 * x2 + 8 * x3 + 16 * x4 + 32 * x5 + 64 * x6 + 128 * x7) / 1 % 2 = x0 ∧ (x0 + 2 * x1 + 4 * x2 + 8 * x3 + 16 * x4 + 32 * x5 + 64 * x6 + 128 * x7) / 2 % 2 = x1 ∧ (x0 + 2 * x1 + 4 * x2 + 8 * x3 + 16 * x4 + 32 * x5 + 64 * x6 + 128 * x7) / 4 % 2 = x2 ∧ (x0 + 2 * x1 + 4 * x2 + 8 * x3 + 16 * x4 + 32 * x5 + 64 * x6 + 128 * x7) / 8 % 2 = x3 ∧ (x0 + 2 * x1 + 4 * x2 + 8 * x3 + 16 * x4 + 32 * x5 + 64 * x6 + 128 * x7) / 16 % 2 = x4 ∧ (x0 + 2 * x1 + 4 * x2 + 8 * x3 + 16 * x4 + 32 * x5 + 64 * x6 + 128 * x7) / 32 % 2 = x5 ∧ (x0 + 2 * x1 + 4 * x2 + 8 * x3 + 16 * x4 + 32 * x5 + 64 * x6 + 128 * x7) / 64 % 2 = x6 ∧ (x0 + 2 * x1 + 4 * x2 + 8 * x3 + 16 * x4 + 32 * x5 + 64 * x6 + 128 * x7) / 128 % 2 = x7 := by
  refine ⟨?_, ?_, ?_, ?_, ?_, ?_, ?_, ?_⟩ <;> omega
theorem byteN_bit (l : List Bool) (j t : Nat) (ht : t < 8) : (byteN l j / 2 ^ t) % 2 = (l.getD (8 * j + t) false).toNat := by
  obtain ⟨e0, e1, e2, e3, e4, e5, e6, e7⟩ := bits8 _ _ _ _ _ _ _ _ (toNat_le (l.getD (8 * j) false)) (toNat_le (l.getD (8 * j + 1) false)) (toNat_le (l.getD (8 * j + 2) false)) (toNat_le (l.getD (8 * j + 3) false)) (toNat_le (l.getD (8 * j + 4) false)) (toNat_le (l.getD (8 * j + 5) false)) (toNat_le (l.getD (8 * j + 6) false)) (toNat_le (l.getD (8 * j + 7) false))
  have : t = 0 ∨ t = 1 ∨ t = 2 ∨ t = 3 ∨ t = 4 ∨ t = 5 ∨ t = 6 ∨ t = 7 := by omega
  rcases this with rfl | rfl | rfl | rfl | rfl | rfl | rfl | rfl
  · exact e0
  · exact e1
  · exact e2
  · exact e3
  · exact e4
  · exact e5
  · exact e6
  · exact e7
theorem getD_take_succ (l : List Bool) (i p : Nat) : (l.take (i + 1)).getD p false = if p = i then l.getD i false else (l.take i).getD p false := by
  simp only [List.getD_eq_getElem?_getD, List.getElem?_take]
  by_cases h : p = i
  · subst h; simp
  · rw [if_neg h]
    by_cases h2 : p < i
    · rw [if_pos (by omega), if_pos h2]
    · rw [if_neg (by omega), if_neg h2]
theorem getD_take_at (l : List Bool) (i : Nat) : (l.take i).getD i false = false := by
  simp [List.getD_eq_getElem?_getD, List.getElem?_take]
theorem byteN_take (l : List Bool) (i j : Nat) : byteN (l.take (i + 1)) j = byteN (l.take i) j + if j = i / 8 then 2 ^ (i % 8) * (l.getD i false).toNat else 0 := by
  have hz := getD_take_at l i
  unfold byteN
  simp only [getD_take_succ]
  by_cases hj : j = i / 8
  · rw [if_pos hj]
    have : i % 8 = 0 ∨ i % 8 = 1 ∨ i % 8 = 2 ∨ i % 8 = 3 ∨ i % 8 = 4 ∨ i % 8 = 5 ∨ i % 8 = 6 ∨ i % 8 = 7 := by omega
    rcases this with h | h | h | h | h | h | h | h
    · have e : 8 * j = i := by omega
      rw [if_pos e, if_neg (show ¬ (8 * j + 1 = i) by omega), if_neg (show ¬ (8 * j + 2 = i) by omega), if_neg (show ¬ (8 * j + 3 = i) by omega), if_neg (show ¬ (8 * j + 4 = i) by omega), if_neg (show ¬ (8 * j + 5 = i) by omega), if_neg (show ¬ (8 * j + 6 = i) by omega), if_neg (show ¬ (8 * j + 7 = i) by omega), h, e, hz]
      generalize ((l.take i).getD (8 * j + 1) false).toNat = x1
      generalize ((l.take i).getD (8 * j + 2) false).toNat = x2
      generalize ((l.take i).getD (8 * j + 3) false).toNat = x3
      generalize ((l.take i).getD (8 * j + 4) false).toNat = x4
      generalize ((l.take i).getD (8 * j + 5) false).toNat = x5
      generalize ((l.take i).getD (8 * j + 6) false).toNat = x6
      generalize ((l.take i).getD (8 * j + 7) false).toNat = x7
      generalize (l.getD i false).toNat = y
      simp only [Bool.toNat_false, Nat.reducePow]
      clear hz h e hj
      omega
    · have e : 8 * j + 1 = i := by omega
      rw [if_neg (show ¬ (8 * j = i) by omega), if_pos e, if_neg (show ¬ (8 * j + 2 = i) by omega), if_neg (show ¬ (8 * j + 3 = i) by omega), if_neg (show ¬ (8 * j + 4 = i) by omega), if_neg (show ¬ (8 * j + 5 = i) by omega), if_neg (show ¬ (8 * j + 6 = i) by omega), if_neg (show ¬ (8 * j + 7 = i) by omega), h, e, hz]
      generalize ((l.take i).getD (8 * j) false).toNat = x0
      generalize ((l.take i).getD (8 * j + 2) false).toNat = x2
      generalize ((l.take i).getD (8 * j + 3) false).toNat = x3
      generalize ((l.take i).getD (8 * j + 4) false).toNat = x4
      generalize ((l.take i).getD (8 * j + 5) false).toNat = x5
      generalize ((l.take i).getD (8 * j + 6) false).toNat = x6
      generalize ((l.take i).getD (8 * j + 7) false).toNat = x7
      generalize (l.getD i false).toNat = y
      simp only [Bool.toNat_false, Nat.reducePow]
      clear hz h e hj
      omega
    · have e : 8 * j + 2 = i := by omega
      rw [if_neg (show ¬ (8 * j = i) by omega), if_neg (show ¬ (8 * j + 1 = i) by omega), if_pos e, if_neg (show ¬ (8 * j + 3 = i) by omega), if_neg (show ¬ (8 * j + 4 = i) by omega), if_neg (show ¬ (8 * j + 5 = i) by omega), if_neg (show ¬ (8 * j + 6 = i) by omega), if_neg (show ¬ (8 * j + 7 = i) by omega), h, e, hz]
      generalize ((l.take i).getD (8 * j) false).toNat = x0
      generalize ((l.take i).getD (8 * j + 1) false).toNat = x1
      generalize ((l.take i).getD (8 * j + 3) false).toNat = x3
      generalize ((l.take i).getD (8 * j + 4) false).toNat = x4
      generalize ((l.take i).getD (8 * j + 5) false).toNat = x5
      generalize ((l.take i).getD (8 * j + 6) false).toNat = x6
      generalize ((l.take i).getD (8 * j + 7) false).toNat = x7
      generalize (l.getD i false).toNat = y
      simp only [Bool.toNat_false, Nat.reducePow]
      clear hz h e hj
      omega
    · have e : 8 * j + 3 = i := by omega
      rw [if_neg (show ¬ (8 * j = i) by omega), if_neg (show ¬ (8 * j + 1 = i) by omega), if_neg (show ¬ (8 * j + 2 = i) by omega), if_pos e, if_neg (show ¬ (8 * j + 4 = i) by omega), if_neg (show ¬ (8 * j + 5 = i) by omega), if_neg (show ¬ (8 * j + 6 = i) by omega), if_neg (show ¬ (8 * j + 7 = i) by omega), h, e, hz]
      generalize ((l.take i).getD (8 * j) false).toNat = x0
      generalize ((l.take i).getD (8 * j + 1) false).toNat = x1
      generalize ((l.take i).getD (8 * j + 2) false).toNat = x2
      generalize ((l.take i).getD (8 * j + 4) false).toNat = x4
      generalize ((l.take i).getD (8 * j + 5) false).toNat = x5
      generalize ((l.take i).getD (8 * j + 6) false).toNat = x6
      generalize ((l.take i).getD (8 * j + 7) false).toNat = x7
      generalize (l.getD i false).toNat = y
      simp only [Bool.toNat_false, Nat.reducePow]
      clear hz h e hj
      omega
    · have e : 8 * j + 4 = i := by omega
      rw [if_neg (show ¬ (8 * j = i) by omega), if_neg (show ¬ (8 * j + 1 = i) by omega), if_neg (show ¬ (8 * j + 2 = i) by omega), if_neg (show ¬ (8 * j + 3 = i) by omega), if_pos e, if_neg (show ¬ (8 * j + 5 = i) by omega), if_neg (show ¬ (8 * j + 6 = i) by omega), if_neg (show ¬ (8 * j + 7 = i) by omega), h, e, hz]
      generalize ((l.take i).getD (8 * j) false).toNat = x0
      generalize ((l.take i).getD (8 * j + 1) false).toNat = x1
      generalize ((l.take i).getD (8 * j + 2) false).toNat = x2
      generalize ((l.take i).getD (8 * j + 3) false).toNat = x3
      generalize ((l.take i).getD (8 * j + 5) false).toNat = x5
      generalize ((l.take i).getD (8 * j + 6) false).toNat = x6
      generalize ((l.take i).getD (8 * j + 7) false).toNat = x7
      generalize (l.getD i false).toNat = y
      simp only [Bool.toNat_false, Nat.reducePow]
      clear hz h e hj
      omega
    · have e : 8 * j + 5 = i := by omega
      rw [if_neg (show ¬ (8 * j = i) by omega), if_neg (show ¬ (8 * j + 1 = i) by omega), if_neg (show ¬ (8 * j + 2 = i) by omega), if_neg (show ¬ (8 * j + 3 = i) by omega), if_neg (show ¬ (8 * j + 4 = i) by omega), if_pos e, if_neg (show ¬ (8 * j + 6 = i) by omega), if_neg (show ¬ (8 * j + 7 = i) by omega), h, e, hz]
      generalize ((l.take i).getD (8 * j) false).toNat = x0
      generalize ((l.take i).getD (8 * j + 1) false).toNat = x1
      generalize ((l.take i).getD (8 * j + 2) false).toNat = x2
      generalize ((l.take i).getD (8 * j + 3) false).toNat = x3
      generalize ((l.take i).getD (8 * j + 4) false).toNat = x4
      generalize ((l.take i).getD (8 * j + 6) false).toNat = x6
      generalize ((l.take i).getD (8 * j + 7) false).toNat = x7
      generalize (l.getD i false).toNat = y
      simp only [Bool.toNat_false, Nat.reducePow]
      clear hz h e hj
      omega
    · have e : 8 * j + 6 = i := by omega
      rw [if_neg (show ¬ (8 * j = i) by omega), if_neg (show ¬ (8 * j + 1 = i) by omega), if_neg (show ¬ (8 * j + 2 = i) by omega), if_neg (show ¬ (8 * j + 3 = i) by omega), if_neg (show ¬ (8 * j + 4 = i) by omega), if_neg (show ¬ (8 * j + 5 = i) by omega), if_pos e, if_neg (show ¬ (8 * j + 7 = i) by omega), h, e, hz]
      generalize ((l.take i).getD (8 * j) false).toNat = x0
      generalize ((l.take i).getD (8 * j + 1) false).toNat = x1
      generalize ((l.take i).getD (8 * j + 2) false).toNat = x2
      generalize ((l.take i).getD (8 * j + 3) false).toNat = x3
      generalize ((l.take i).getD (8 * j + 4) false).toNat = x4
      generalize ((l.take i).getD (8 * j + 5) false).toNat = x5
      generalize ((l.take i).getD (8 * j + 7) false).toNat = x7
      generalize (l.getD i false).toNat = y
      simp only [Bool.toNat_false, Nat.reducePow]
      clear hz h e hj
      omega
    · have e : 8 * j + 7 = i := by omega
      rw [if_neg (show ¬ (8 * j = i) by omega), if_neg (show ¬ (8 * j + 1 = i) by omega), if_neg (show ¬ (8 * j + 2 = i) by omega), if_neg (show ¬ (8 * j + 3 = i) by omega), if_neg (show ¬ (8 * j + 4 = i) by omega), if_neg (show ¬ (8 * j + 5 = i) by omega), if_neg (show ¬ (8 * j + 6 = i) by omega), if_pos e, h, e, hz]
      generalize ((l.take i).getD (8 * j) false).toNat = x0
      generalize ((l.take i).getD (8 * j + 1) false).toNat = x1
      generalize ((l.take i).getD (8 * j + 2) false).toNat = x2
      generalize ((l.take i).getD (8 * j + 3) false).toNat = x3
      generalize ((l.take i).getD (8 * j + 4) false).toNat = x4
      generalize ((l.take i).getD (8 * j + 5) false).toNat = x5
      generalize ((l.take i).getD (8 * j + 6) false).toNat = x6
      generalize (l.getD i false).toNat = y
      simp only [Bool.toNat_false, Nat.reducePow]
      clear hz h e hj
      omega
  · rw [if_neg hj, if_neg (show ¬ (8 * j = i) by omega), if_neg (show ¬ (8 * j + 1 = i) by omega), if_neg (show ¬ (8 * j + 2 = i) by omega), if_neg (show ¬ (8 * j + 3 = i) by omega), if_neg (show ¬ (8 * j + 4 = i) by omega),
      if_neg (show ¬ (8 * j + 5 = i) by omega), if_neg (show ¬ (8 * j + 6 = i) by omega), if_neg (show ¬ (8 * j + 7 = i) by omega)]
    rfl
theorem or_bit : ∀ a : Fin 256, ∀ t : Fin 8, a.val / 2 ^ t.val % 2 = 0 → Go.bits .or .u8 (a.val : Int) (shl .u8 1 (t.val : Int)) = ((a.val + 2 ^ t.val : Nat) : Int) := by decide +kernel
theorem or_bit' (a t : Nat) (ha : a < 256) (ht : t < 8) (h : a / 2 ^ t % 2 = 0) : Go.bits .or .u8 (a : Int) (shl .u8 1 (t : Int)) = ((a + 2 ^ t : Nat) : Int) := or_bit ⟨a, ha⟩ ⟨t, ht⟩ h
def upTo (l : List Bool) (i : Nat) : List Int := (List.range (bytesN l.length)).map fun j => (byteN (l.take i) j : Int)
theorem upTo_all (l : List Bool) : upTo l l.length = packS l := by unfold upTo packS; rw [List.take_length]
theorem upTo_zero (l : List Bool) : upTo l 0 = List.replicate (bytesN l.length) 0 := by
  unfold upTo
  refine List.ext_getElem (by simp) fun j h1 h2 => ?_
  simp [byteN]
theorem upTo_rd (l : List Bool) (i : Nat) (j : Nat) (hj : j < bytesN l.length) : rd (upTo l i) (j : Int) = (byteN (l.take i) j : Int) := by
  unfold rd upTo
  simp [List.getD_eq_getElem?_getD, hj]
theorem upTo_same (l : List Bool) (i : Nat) (h : l.getD i false = false) : upTo l (i + 1) = upTo l i := by
  unfold upTo
  refine List.map_congr_left fun j _ => ?_
  rw [byteN_take, h]; simp
theorem upTo_set (l : List Bool) (i : Nat) (hi : i < l.length) (h : l.getD i false = true) : upTo l (i + 1) = (upTo l i).set (i / 8) ((byteN (l.take i) (i / 8) + 2 ^ (i % 8) : Nat) : Int) := by
  apply List.ext_getElem
  · simp [upTo]
  · intro j h1 h2
    simp only [upTo, List.length_map, List.length_range] at h1
    rw [List.getElem_set]
    simp only [upTo, List.getElem_map, List.getElem_range]
    rw [byteN_take, h]
    by_cases e : i / 8 = j
    · subst e; simp
    · rw [if_neg e, if_neg (fun h => e h.symm)]; simp
theorem rdOf_nat (l : List Bool) (i : Nat) : rdOf false l (i : Int) = l.getD i false := by simp [rdOf]
theorem pack_loop (l : List Bool) (hl : (l.length : Int) < 9223372036854775800) (d : Nat) : ∀ k i, i ≤ l.length → l.length - i = d → d < k → bits_Pack.l0 k (upTo l i) l l.length i = some (packS l) := by
  induction d with
  | zero =>
    intro k i h1 h2 hk
    obtain ⟨k, rfl⟩ : ∃ m, k = m + 1 := ⟨k - 1, by omega⟩
    have : i = l.length := by omega
    subst this
    simp only [bits_Pack.l0]
    rw [if_neg (by omega), upTo_all]
  | succ d ih =>
    intro k i h1 h2 hk
    obtain ⟨k, rfl⟩ : ∃ m, k = m + 1 := ⟨k - 1, by omega⟩
    have hi : i < l.length := by omega
    have hlen : (upTo l i).length = bytesN l.length := by simp [upTo]
    have hb : i / 8 < bytesN l.length := by unfold bytesN; omega
    have c1 : (i : Int) < (l.length : Int) := by omega
    have c2 : (0 : Int) ≤ (i : Int) := by omega
    have c4 : (0 : Int) ≤ ((i / 8 : Nat) : Int) := by omega
    have c5 : ((i / 8 : Nat) : Int) < ((upTo l i).length : Int) := by rw [hlen]; omega
    have c6 : (0 : Int) ≤ ((i % 8 : Nat) : Int) := by omega
    have c7 : i % 8 < 8 := by omega
    have c8 : 8 * (i / 8) + i % 8 = i := by omega
    have d1 : (i : Int) / 8 = ((i / 8 : Nat) : Int) := by omega
    have d2 : (i : Int) % 8 = ((i % 8 : Nat) : Int) := by omega
    have d3 : (i : Int) + 1 = ((i + 1 : Nat) : Int) := by omega
    have e1 : ((i / 8 : Nat) : Int) < 9223372036854775808 := by omega
    have e2 : -9223372036854775808 ≤ ((i / 8 : Nat) : Int) := by omega
    have e3 : ((i + 1 : Nat) : Int) < 9223372036854775808 := by omega
    have e4 : -9223372036854775808 ≤ ((i + 1 : Nat) : Int) := by omega
    have hnext := ih k (i + 1) (by omega) (by omega) (by omega)
    simp only [bits_Pack.l0]
    rw [if_pos c1, if_pos c2, if_pos c1, rdOf_nat, d3, wrap64_id e4 e3, tdiv_id c2, tmod_id c2, d1, d2, wrap64_id e2 e1]
    cases hb0 : l.getD i false with
    | false => rw [if_neg (by simp), ← upTo_same l i hb0]; exact hnext
    | true =>
      rw [if_pos rfl, if_pos c4, if_pos c5, if_pos c6, upTo_rd l i _ hb, Int.toNat_natCast, or_bit' _ _ (byteN_lt _ _) c7 (by rw [byteN_bit _ _ _ c7, c8, getD_take_at]; rfl), ← upTo_set l i hi hb0]
      exact hnext
theorem pack_at (l : List Bool) (hl : l.length ≤ 140737488351232) : bits_Pack.f (l.length + 1) l = some (packS l) := by
  unfold bits_Pack.f
  rw [many_nat _ (by omega)]
  simp only [Option.bind_some]
  rw [if_pos (show (0 : Int) ≤ (bytesN l.length : Int) by omega), Int.toNat_natCast, if_pos (show bytesN l.length ≤ 281474976710656 by unfold bytesN; omega), ← upTo_zero]
  have h := pack_loop l (by omega) l.length (l.length + 1) 0 (by omega) (by omega) (by omega)
  rw [Int.natCast_zero] at h
  exact h
theorem pack_ev (l : List Bool) (hl : l.length ≤ 140737488351232) : Ev (fun k => bits_Pack.f k l) (packS l) := Ev.of (bits_Pack.mono l) (pack_at l hl)
theorem and_bit : ∀ a : Fin 256, ∀ t : Fin 8, Go.bits .and .u8 (shr .u8 (a.val : Int) (t.val : Int)) 1 = ((a.val / 2 ^ t.val % 2 : Nat) : Int) := by decide +kernel
theorem and_at {b : List Int} (hb : isBytes b) (i : Nat) : Go.bits .and .u8 (shr .u8 (rd b ((i / 8 : Nat) : Int)) ((i % 8 : Nat) : Int)) 1 = if bitAt b i then 1 else 0 := by
  obtain ⟨h0, h1⟩ := isBytes_rd hb (i / 8)
  obtain ⟨a, ha⟩ := Int.eq_ofNat_of_zero_le h0
  have h2 : rd b ((i / 8 : Nat) : Int) = (a : Int) := by unfold rd; rw [Int.toNat_natCast]; exact ha
  rw [h2, and_bit ⟨a, by omega⟩ ⟨i % 8, by omega⟩]
  unfold bitAt
  rw [ha, Int.toNat_natCast]
  have h3 : a / 2 ^ (i % 8) % 2 = 0 ∨ a / 2 ^ (i % 8) % 2 = 1 := by omega
  rcases h3 with h3 | h3 <;> simp [h3]
def unTo (b : List Int) (n i : Nat) : List Bool := (List.range n).map fun p => decide (p < i) && bitAt b p
theorem unTo_zero (b : List Int) (n : Nat) : unTo b n 0 = List.replicate n false := by
  unfold unTo
  refine List.ext_getElem (by simp) fun j h1 h2 => ?_
  simp
theorem unTo_all (b : List Int) (n i : Nat) (h : n ≤ i) : unTo b n i = unpackS b n := by
  unfold unTo unpackS
  refine List.map_congr_left fun p hp => ?_
  have := List.mem_range.1 hp
  rw [decide_eq_true (by omega)]; rfl
theorem unTo_set (b : List Int) (n i : Nat) (h : i < n) : (unTo b n i).set i (bitAt b i) = unTo b n (i + 1) := by
  apply List.ext_getElem
  · simp [unTo]
  · intro j h1 h2
    rw [List.getElem_set]
    simp only [unTo, List.getElem_map, List.getElem_range]
    by_cases e : i = j
    · subst e; simp
    · rw [if_neg e]
      congr 1
      simp only [decide_eq_decide]; omega
theorem unTo_over (b : List Int) (n i : Nat) (h : n ≤ i) : unTo b n (i + 1) = unTo b n i := by rw [unTo_all b n i h, unTo_all b n (i + 1) (by omega)]
def free (b : List Int) (n i : Nat) : Bool := (List.range (8 * b.length - i)).all fun j => decide (i + j < n) || !bitAt b (i + j)
theorem free_end (b : List Int) (n i : Nat) (h : 8 * b.length ≤ i) : free b n i = true := by
  unfold free
  rw [show 8 * b.length - i = 0 by omega]; rfl
theorem free_zero (b : List Int) (n : Nat) : free b n 0 = tail0 b n := by unfold free tail0; simp
theorem free_step (b : List Int) (n i : Nat) (h : i < 8 * b.length) : free b n i = ((decide (i < n) || !bitAt b i) && free b n (i + 1)) := by
  unfold free
  obtain ⟨m, hm⟩ : ∃ m, 8 * b.length - i = m + 1 := ⟨8 * b.length - i - 1, by omega⟩
  rw [hm, List.range_succ_eq_map, List.all_cons, List.all_map, show 8 * b.length - (i + 1) = m by omega]
  congr 1
  refine congrArg (fun f => List.all (List.range m) f) (funext fun j => ?_)
  simp only [Function.comp, Nat.succ_eq_add_one, show i + (j + 1) = i + 1 + j by omega]
theorem unpack_loop (b : List Int) (n : Nat) (hb : isBytes b) (hl : b.length ≤ 1000000) (hn : (n : Int) < 9223372036854775800) (d : Nat) : ∀ k i, i ≤ 8 * b.length → 8 * b.length - i = d → d < k →
    bits_Unpack.l0 k b n (unTo b n i) ((8 * b.length : Nat) : Int) i = some (if free b n i then (unpackS b n, true) else ([], false)) ∨ 8 * b.length < n := by
  induction d with
  | zero =>
    intro k i h1 h2 hk
    obtain ⟨k, rfl⟩ : ∃ m, k = m + 1 := ⟨k - 1, by omega⟩
    by_cases hbig : 8 * b.length < n
    · exact .inr hbig
    · left
      simp only [bits_Unpack.l0]
      rw [if_neg (by omega), free_end b n i (by omega), if_pos rfl, unTo_all b n i (by omega)]
  | succ d ih =>
    intro k i h1 h2 hk
    obtain ⟨k, rfl⟩ : ∃ m, k = m + 1 := ⟨k - 1, by omega⟩
    by_cases hbig : 8 * b.length < n
    · exact .inr hbig
    left
    have hi : i < 8 * b.length := by omega
    have hlen : (unTo b n i).length = n := by simp [unTo]
    have c1 : (i : Int) < ((8 * b.length : Nat) : Int) := by omega
    have c2 : (0 : Int) ≤ (i : Int) := by omega
    have c4 : (0 : Int) ≤ ((i / 8 : Nat) : Int) := by omega
    have c5 : ((i / 8 : Nat) : Int) < (b.length : Int) := by omega
    have c6 : (0 : Int) ≤ ((i % 8 : Nat) : Int) := by omega
    have d1 : (i : Int) / 8 = ((i / 8 : Nat) : Int) := by omega
    have d2 : (i : Int) % 8 = ((i % 8 : Nat) : Int) := by omega
    have d3 : (i : Int) + 1 = ((i + 1 : Nat) : Int) := by omega
    have e1 : ((i / 8 : Nat) : Int) < 9223372036854775808 := by omega
    have e2 : -9223372036854775808 ≤ ((i / 8 : Nat) : Int) := by omega
    have e3 : ((i + 1 : Nat) : Int) < 9223372036854775808 := by omega
    have e4 : -9223372036854775808 ≤ ((i + 1 : Nat) : Int) := by omega
    have hnext := (ih k (i + 1) (by omega) (by omega) (by omega)).resolve_right hbig
    have f1 : i < n → (i : Int) < (n : Int) := fun h => by omega
    have f2 : i < n → (i : Int) < ((unTo b n i).length : Int) := fun h => by rw [hlen]; omega
    have f3 : ¬ i < n → ¬ (i : Int) < (n : Int) := fun h => by omega
    have f4 : ¬ i < n → n ≤ i := fun h => by omega
    simp only [bits_Unpack.l0]
    rw [if_pos c1, tdiv_id c2, tmod_id c2, d1, d2, wrap64_id e2 e1, if_pos c4, if_pos c5, if_pos c6, d3, wrap64_id e4 e3, and_at hb]
    by_cases hn' : i < n
    · rw [if_pos (f1 hn'), if_pos c2, if_pos (f2 hn'), Int.toNat_natCast, free_step b n i hi]
      have : (unTo b n i).set i ((if bitAt b i then (1 : Int) else 0) == 1) = unTo b n (i + 1) := by
        rw [← unTo_set b n i hn']
        congr 1
        cases bitAt b i <;> rfl
      rw [this, decide_eq_true hn', Bool.true_or, Bool.true_and]
      exact hnext
    · rw [if_neg (f3 hn'), free_step b n i hi, decide_eq_false hn', Bool.false_or, ← unTo_over b n i (f4 hn')]
      cases hbit : bitAt b i with
      | true => rw [if_pos (by simp)]; simp
      | false => rw [if_neg (by simp)]; simpa using hnext
theorem unpack_ev (b : List Int) (n : Int) (hb : isBytes b) (hl : b.length ≤ 1000000) (h0 : -9223372036854775808 ≤ n) (h1 : n < 9223372036854775808) : Ev (fun k => bits_Unpack.f k b n) (unpackR b n) := by
  unfold unpackR
  by_cases hneg : n < 0
  · rw [if_pos (.inl hneg)]
    refine ⟨1, fun k hk => ?_⟩
    obtain ⟨k, rfl⟩ : ∃ m, k = m + 1 := ⟨k - 1, by omega⟩
    show bits_Unpack.f (k + 1) b n = _
    unfold bits_Unpack.f
    rw [if_pos hneg]
    simp [bits_Unpack.j0]
  · obtain ⟨m, rfl⟩ := Int.eq_ofNat_of_zero_le (show 0 ≤ n by omega)
    simp only [Int.ofNat_eq_natCast, Int.toNat_natCast] at *
    by_cases hlen : b.length = bytesN m
    · have hm8 : ¬ 8 * b.length < m := by unfold bytesN at hlen; omega
      refine ⟨8 * b.length + 2, fun k hk => ?_⟩
      obtain ⟨k, rfl⟩ : ∃ m, k = m + 1 := ⟨k - 1, by omega⟩
      show bits_Unpack.f (k + 1) b (m : Int) = _
      unfold bits_Unpack.f
      rw [if_neg hneg, many_nat _ (by omega)]
      simp only [Option.bind_some, bits_Unpack.j0]
      have hz : ((b.length : Int) != (bytesN m : Int)) = false := by rw [hlen]; simp
      rw [hz, if_neg (show ¬ (false = true) by simp), if_pos (show (0 : Int) ≤ (m : Int) by omega), Int.toNat_natCast, if_pos (show m ≤ 281474976710656 by unfold bytesN at hlen; omega), ← unTo_zero b m, show (8 * (b.length : Int)) = ((8 * b.length : Nat) : Int) by omega, wrap64_id (by omega) (by omega)]
      have := (unpack_loop b m hb hl (by unfold bytesN at hlen; omega) (8 * b.length) k 0 (by omega) (by omega) (by omega)).resolve_right hm8
      rw [free_zero, Int.natCast_zero] at this
      rw [this]
      cases tail0 b m with
      | true => rw [if_pos rfl, if_neg (by simp [hlen])]
      | false => rw [if_neg (by simp), if_pos (by simp)]
    · rw [if_pos (.inr (.inl hlen))]
      refine ⟨1, fun k hk => ?_⟩
      obtain ⟨k, rfl⟩ : ∃ m, k = m + 1 := ⟨k - 1, by omega⟩
      show bits_Unpack.f (k + 1) b (m : Int) = _
      unfold bits_Unpack.f
      rw [if_neg hneg, many_nat _ (by omega)]
      simp only [Option.bind_some, bits_Unpack.j0]
      rw [if_pos (by simp; omega)]
theorem packS_length (l : List Bool) : (packS l).length = bytesN l.length := by simp [packS]
theorem packS_bytes (l : List Bool) : isBytes (packS l) := by
  intro x hx
  simp only [packS, List.mem_map] at hx
  obtain ⟨j, _, rfl⟩ := hx
  have := byteN_lt l j
  omega
theorem packS_get (l : List Bool) (j : Nat) : (packS l).getD j 0 = (byteN l j : Int) := by
  by_cases h : j < bytesN l.length
  · simp [packS, List.getD_eq_getElem?_getD, h]
  · rw [List.getD_eq_getElem?_getD, List.getElem?_eq_none (by rw [packS_length]; omega)]
    have e : ∀ p, 8 * j ≤ p → l.getD p false = false := fun p hp => by rw [List.getD_eq_getElem?_getD, List.getElem?_eq_none (by unfold bytesN at h; omega)]; rfl
    unfold byteN
    rw [e (8 * j) (by omega), e (8 * j + 1) (by omega), e (8 * j + 2) (by omega), e (8 * j + 3) (by omega), e (8 * j + 4) (by omega), e (8 * j + 5) (by omega), e (8 * j + 6) (by omega), e (8 * j + 7) (by omega)]
    rfl
theorem bitAt_packS (l : List Bool) (i : Nat) : bitAt (packS l) i = l.getD i false := by
  unfold bitAt
  rw [packS_get, Int.toNat_natCast, byteN_bit _ _ _ (by omega), show 8 * (i / 8) + i % 8 = i by omega]
  cases l.getD i false <;> rfl
theorem unpackS_packS (l : List Bool) : unpackS (packS l) l.length = l := by
  apply List.ext_getElem
  · simp [unpackS]
  · intro i h1 h2
    simp only [unpackS, List.getElem_map, List.getElem_range, bitAt_packS]
    rw [List.getD_eq_getElem?_getD, List.getElem?_eq_getElem h2]; rfl
theorem tail0_packS (l : List Bool) : tail0 (packS l) l.length = true := by
  unfold tail0
  rw [List.all_eq_true]
  intro i _
  rw [bitAt_packS]
  by_cases h : i < l.length
  · simp [h]
  · rw [List.getD_eq_getElem?_getD, List.getElem?_eq_none (by omega)]; simp
theorem unpackR_packS (l : List Bool) : unpackR (packS l) l.length = (l, true) := by
  unfold unpackR
  rw [if_neg, Int.toNat_natCast, unpackS_packS]
  rw [Int.toNat_natCast, packS_length, tail0_packS]
  simp
theorem byteN_bits {b : Nat} (hb : b < 256) : b = b % 2 + 2 * (b / 2 % 2) + 4 * (b / 4 % 2) + 8 * (b / 8 % 2) + 16 * (b / 16 % 2) + 32 * (b / 32 % 2) + 64 * (b / 64 % 2) + 128 * (b / 128 % 2) := by omega
theorem unpackS_getD (b : List Int) (n i : Nat) : (unpackS b n).getD i false = (decide (i < n) && bitAt b i) := by
  unfold unpackS
  by_cases h : i < n
  · simp [List.getD_eq_getElem?_getD, h]
  · simp [List.getD_eq_getElem?_getD, h]
theorem bit_toNat (x : Nat) : ((x % 2 == 1 : Bool)).toNat = x % 2 := by
  have : x % 2 = 0 ∨ x % 2 = 1 := by omega
  rcases this with h | h <;> rw [h] <;> rfl
theorem packS_unpackS (b : List Int) (n : Nat) (hb : isBytes b) (hl : b.length = bytesN n) (ht : tail0 b n = true) : packS (unpackS b n) = b := by
  have hun : (unpackS b n).length = n := by simp [unpackS]
  apply List.ext_getElem
  · rw [packS_length, hun, hl]
  · intro j h1 h2
    have hg : (packS (unpackS b n))[j] = (byteN (unpackS b n) j : Int) := by
      have := packS_get (unpackS b n) j
      rw [List.getD_eq_getElem?_getD, List.getElem?_eq_getElem h1] at this
      simpa using this
    rw [hg]
    obtain ⟨h3, h4⟩ := hb _ (List.getElem_mem h2)
    obtain ⟨a, ha⟩ := Int.eq_ofNat_of_zero_le h3
    have hbit : ∀ t, t < 8 → ((unpackS b n).getD (8 * j + t) false).toNat = a / 2 ^ t % 2 := by
      intro t ht8
      have hB : bitAt b (8 * j + t) = (a / 2 ^ t % 2 == 1) := by
        unfold bitAt
        rw [show (8 * j + t) / 8 = j by omega, show (8 * j + t) % 8 = t by omega, List.getD_eq_getElem?_getD, List.getElem?_eq_getElem h2]
        simp only [Option.getD_some, ha]
        rfl
      rw [unpackS_getD]
      by_cases hlt : 8 * j + t < n
      · rw [decide_eq_true hlt, Bool.true_and, hB, bit_toNat]
      · rw [decide_eq_false hlt, Bool.false_and]
        unfold tail0 at ht
        rw [List.all_eq_true] at ht
        have := ht (8 * j + t) (List.mem_range.2 (by omega))
        rw [decide_eq_false hlt, Bool.false_or, hB] at this
        have h5 : a / 2 ^ t % 2 = 0 ∨ a / 2 ^ t % 2 = 1 := by omega
        rcases h5 with h5 | h5
        · rw [h5]; rfl
        · rw [h5] at this; simp at this
    have ha2 : a < 256 := by rw [ha] at h4; exact Int.ofNat_lt.1 h4
    rw [ha]
    unfold byteN
    have e0 := hbit 0 (by omega); have e1 := hbit 1 (by omega); have e2 := hbit 2 (by omega); have e3 := hbit 3 (by omega)
    have e4 := hbit 4 (by omega); have e5 := hbit 5 (by omega); have e6 := hbit 6 (by omega); have e7 := hbit 7 (by omega)
    simp only [Nat.add_zero, Nat.reducePow, Nat.div_one] at e0 e1 e2 e3 e4 e5 e6 e7
    rw [e0, e1, e2, e3, e4, e5, e6, e7]
    have := byteN_bits ha2
    show ((_ : Nat) : Int) = ((a : Nat) : Int)
    omega
end Go.Proofs.Ytggiobdjepgkfaa.Bits
end
section
namespace Go.Proofs.Ytggiobdjepgkfaa.P
open Go.RowKit Go.Proofs.YtggiobdjepgkfaaW.PrintWords Go.Proofs.YtggiobdjepgkfaaW.PrintLast Go.Proofs.YtggiobdjepgkfaaW.PrintMore
attribute [local go_sem] max2_int min2_int max_two min_two max_three min_three max_four min_four   -- for this text's walks alone
end Go.Proofs.Ytggiobdjepgkfaa.P
end
section
namespace Go.Proofs.Ytggiobdjepgkfaa.P
open Go.RowKit Go.Proofs.YtggiobdjepgkfaaW.PrintWords Go.Proofs.YtggiobdjepgkfaaW.PrintLast Go.Proofs.YtggiobdjepgkfaaW.PrintMore
attribute [local go_sem] max2_int min2_int max_two min_two max_three min_three max_four min_four   -- for this text's walks alone
mutual
def busbarref05_Pack.l0 : Nat → List Bool → List Int → Int → Option (List Int)
  | 0, _, _, _ => none
  | k + 1, x0, x3, x4 => if x4 < (x0.length : Int) then (busbarref05_Pack.l1 k x0 x3 x4 0 1 x4) else (some x3)
def busbarref05_Pack.l1 : Nat → List Bool → List Int → Int → Int → Int → Int → Option (List Int)
  | 0, _, _, _, _, _, _ => none
  | k + 1, x0, x3, x4, x5, x6, x7 => if x7 < (x0.length : Int) then (busbarref05_Pack.j2 k x0 x3 x4 x5 x6 x7 (decide (x7 < (wrap64 (x4 + 8))))) else (busbarref05_Pack.j2 k x0 x3 x4 x5 x6 x7 false)
def busbarref05_Pack.j2 : Nat → List Bool → List Int → Int → Int → Int → Int → Bool → Option (List Int)
  | 0, _, _, _, _, _, _, _ => none
  | k + 1, x0, x3, x4, x5, x6, x7, x24 => if x24 = true then (if 0 ≤ x7 then (if x7 < (x0.length : Int) then (if rdOf false x0 x7 = true then (busbarref05_Pack.l1 k x0 x3 x4 (wrap64 (x5 + x6)) (wrap64 (2 * x6)) (wrap64 (x7 + 1))) else (busbarref05_Pack.l1 k x0 x3 x4 x5 (wrap64 (2 * x6)) (wrap64 (x7 + 1)))) else (none)) else (none)) else (if x3.length < 140737488355328 then (busbarref05_Pack.l0 k x0 (x3 ++ [(x5) % 256]) (wrap64 (x4 + 8))) else (none))
end
def busbarref05_Pack.f (k : Nat) (l0 : List Bool) : Option (List Int) := busbarref05_Pack.l0 k l0 ([] : List Int) 0
end Go.Proofs.Ytggiobdjepgkfaa.P
end
section
namespace Go.Proofs.Ytggiobdjepgkfaa.P
open Go.RowKit Go.Proofs.YtggiobdjepgkfaaW.PrintWords Go.Proofs.YtggiobdjepgkfaaW.PrintLast Go.Proofs.YtggiobdjepgkfaaW.PrintMore
attribute [local go_sem] max2_int min2_int max_two min_two max_three min_three max_four min_four   -- for this text's walks alone
mutual
def busbarref05_Unpack.j0 : Nat → List Int → Int → Bool → Option (List Bool × Bool)
  | 0, _, _, _ => none
  | k + 1, x0, x1, x18 => if x18 = true then (some (([] : List Bool), false)) else (busbarref05_Unpack.l0 k x0 x1 ([] : List Bool) 0)
def busbarref05_Unpack.l0 : Nat → List Int → Int → List Bool → Int → Option (List Bool × Bool)
  | 0, _, _, _, _ => none
  | k + 1, x0, x1, x6, x7 => if x7 < x1 then (if 0 ≤ (wrap64 (Int.tdiv x7 8)) then (if (wrap64 (Int.tdiv x7 8)) < (x0.length : Int) then (busbarref05_Unpack.l1 k x0 x1 x6 x7 (wrap64 (rd x0 (wrap64 (Int.tdiv x7 8)))) 0) else (none)) else (none)) else ((busbarref05_Pack.f k x6).bind fun t206 => (if (strOfNums t206).toList = (strOfNums x0).toList then (some (x6, true)) else (some (([] : List Bool), false))))
def busbarref05_Unpack.l1 : Nat → List Int → Int → List Bool → Int → Int → Int → Option (List Bool × Bool)
  | 0, _, _, _, _, _, _ => none
  | k + 1, x0, x1, x6, x7, x8, x9 => if x9 < (Int.tmod x7 8) then (busbarref05_Unpack.l1 k x0 x1 x6 x7 (wrap64 (Int.tdiv x8 2)) (wrap64 (x9 + 1))) else (if x6.length < 140737488355328 then (busbarref05_Unpack.l0 k x0 x1 (x6 ++ [((Int.tmod x8 2) == 1)]) (wrap64 (x7 + 1))) else (none))
end
end Go.Proofs.Ytggiobdjepgkfaa.P
end
section
namespace Go.Proofs.Ytggiobdjepgkfaa.R05
open Go.RowKit Go.Proofs.Ytggiobdjepgkfaa.P Go.Proofs.Ytggiobdjepgkfaa.E Go.Proofs.Ytggiobdjepgkfaa.Bits Go.Proofs.YtggiobdjepgkfaaW.PrintWords Go.Proofs.YtggiobdjepgkfaaW.PrintLast Go.Proofs.YtggiobdjepgkfaaW.PrintMore
end Go.Proofs.Ytggiobdjepgkfaa.R05
end
section
namespace Go.Proofs.Ytggiobdjepgkfaa.P
open Go.RowKit Go.Proofs.YtggiobdjepgkfaaW.PrintWords Go.Proofs.YtggiobdjepgkfaaW.PrintLast Go.Proofs.YtggiobdjepgkfaaW.PrintMore
attribute [local go_sem] max2_int min2_int max_two min_two max_three min_three max_four min_four   -- for this text's walks alone
def word_Within.f (a0 : Int) (a1 : Int) : Option (Bool) := if a1 > 0 then (some (decide (a1 ≤ (wrap64 (65536 - (wrap64 (a0))))))) else (some false)
theorem word_Within.calls (a0 : Int) (a1 : Int) (r : Bool) (w : World) (h : word_Within.f a0 a1 = some r) :
    Calls Try.prog 63 #[.int .u16 a0, .int .i64 a1] w fun e w' => e = .returned (.bool r) ∧ Drawn0 w w' := by
  have H : (if a1 > 0 then (some (decide (a1 ≤ (wrap64 (65536 - (wrap64 (a0))))))) else (some false)) = some r := h
  clear h
  by_cases c3 : a1 > 0
  · rw [if_pos c3] at H
    have c3b0 : decide (0 < a1) = true := decide_eq_true c3
    clear c3
    obtain rfl := Option.some.inj H
    go_enter Try.func63, Try.ntmps63
    go_wp2
    go_ret
    exact ⟨by first | rfl | (simp; done) | (simp [*]; done), by repeat (first | exact Drawn0.refl _ | apply Drawn0.step)⟩
  · rw [if_neg c3] at H
    have c3b0 : decide (0 < a1) = false := decide_eq_false c3
    clear c3
    obtain rfl := Option.some.inj H
    go_enter Try.func63, Try.ntmps63
    go_wp2
    go_ret
    exact ⟨by first | rfl | (simp; done) | (simp [*]; done), by repeat (first | exact Drawn0.refl _ | apply Drawn0.step)⟩
end Go.Proofs.Ytggiobdjepgkfaa.P
end
section
namespace Go.Proofs.Ytggiobdjepgkfaa.P
open Go.RowKit Go.Proofs.YtggiobdjepgkfaaW.PrintWords Go.Proofs.YtggiobdjepgkfaaW.PrintLast Go.Proofs.YtggiobdjepgkfaaW.PrintMore
attribute [local go_sem] max2_int min2_int max_two min_two max_three min_three max_four min_four   -- for this text's walks alone
end Go.Proofs.Ytggiobdjepgkfaa.P
end
